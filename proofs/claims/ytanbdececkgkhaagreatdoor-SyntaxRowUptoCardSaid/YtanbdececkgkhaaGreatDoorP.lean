/- Plain laws: numerals. No condition. -/
import Derived.Lib.ItoaNum
import Derived.Lib.ParseIntBCases
import Derived.Lib.ParseIntBTie
import Derived.Test.YtanbdececkgkhaaGreatDoorB
import Derived.Test.YtanbdececkgkhaaGreatDoorG
set_option linter.unusedVariables false
set_option linter.unusedSimpArgs false
set_option linter.unusedSectionVars false
open Option renaming some → U,none → zz
open Bool renaming true → zZ,false → zj
open List renaming getElem?_eq_getElem → je, all_eq_true → ly, mem_map → mH, mem_cons → mT, length_append → nV, getElem?_take → oU, length_cons → pL, length_map → pQ, length_singleton → qG, append_assoc → qS, nil_append → qt, take_length → rN, ext_getElem? → pT, getElem?_drop → rU, cons_append → rV, mem_range → tX, length_nil → uU, any_eq_true → uK, mem_singleton → uV, mem_append → uE, drop_zero → vM, length_take → xd, getD_eq_getElem?_getD → vW
open Nat renaming beq → im, ble → iS, eq_of_beq_eq_true → jr, blt → js, le_refl → jG, le_of_ble_eq_true → l9, zero_add → mD, le_trans → nu, ble_eq_true_of_le → qi, add_zero → sZ
open Option renaming bind → d', getD_some → qu
open Bool renaming and_eq_true → iI, not_false → qz, not_true → qJ, or_eq_true → rG, and_self → uW
open Int renaming toNat_natCast → mN
open ByteArray renaming mk → a_
open Go.IntKind renaming wrap → g_
namespace Go.Abs.iA
open Go Go.Abs
set_option maxRecDepth 100000
def val(w:List UInt8):Nat:=w.foldl (λa c=>10*a+(c.toNat-48)) 0
def Ef(c:UInt8):Bool:=decide (48<=c.toNat)&&decide (c.toNat<=57)
theorem UX(p:List UInt8)(x:UInt8):val (p++[x])=10*val p+(x.toNat-48):=by simp[val,List.foldl_append]
theorem BE{u:Nat}(h:u<10):Lib.decDigits u=[UInt8.ofNat (48+u)]:=by rw[Lib.decDigits,dif_pos h]
theorem UY{u:Nat}(h: ¬u<10):Lib.decDigits u=Lib.decDigits (u/10)++Lib.decDigits (u % 10):=by
 rw[Lib.decDigits,dif_neg h,BE (u:=u % 10) (by omega)]
abbrev dec:=Lib.decDigits
theorem M8{k:Nat}(h:k<10):(UInt8.ofNat (48+k)).toNat=48+k:=by
 have:48+k<256:=by omega
 simp_all
theorem UZ{u:Nat}(h: ¬u<10):dec u=dec (u/10)++[UInt8.ofNat (48+u % 10)]:=by
 show Lib.decDigits u=_;rw[UY h,BE (u:=u % 10) (by omega)]
theorem Jz(u:Nat):dec u≠ []/\ (dec u).all Ef=zZ/\val (dec u)=u/\ (1< (dec u).length->(dec u).getD 0 0≠48)/\ ((dec u).getD 0 0=48->u=0):=by
 induction u using Nat.strongRecOn with
 |_ u I=>
  by_cases h:u<10
  .rw[show dec u=[UInt8.ofNat (48+u)]from BE h];have hn:=M8 h;refine⟨by simp,?_,?_,by simp,?_⟩
   .simp only[List.all_cons,List.all_nil,Bool.and_true,Ef,hn];grind
   .simp only[val,List.foldl_cons,List.foldl_nil,hn];omega
   .intro h0;have:(UInt8.ofNat (48+u)).toNat=48:=by
     simp_all
    omega
  .obtain⟨h1,h2,h3,h4,h5⟩:=I (u/10) (by omega);have hn:=M8 (k:=u % 10) (by omega);rw[UZ h];refine⟨by simp,?_,?_,?_,?_⟩
   .rw[List.all_append,h2];simp only[List.all_cons,List.all_nil,Bool.and_true,Ef,hn,Bool.true_and];grind
   .rw[UX,h3,hn];omega
   .grind
   grind
theorem U0: ∀(k u:Nat),u<10^(k+1)->(dec u).length<=k+1
 |k,u,h=>by
  by_cases H:u<10
  .rw[show dec u=[UInt8.ofNat (48+u)]from BE H];simp
  .match k,h with
   |0,h=>omega
   |k+1,h=>
    have:=U0 k (u/10) (by omega);rw[UZ H,nV,qG];omega
theorem YpV(M:Nat): ∀(l:List UInt8) (A v:Nat) (x:UInt8),Lib.parseUintM M A l= .ok v->Lib.parseUintM M A (l++[x])=Lib.parseUintM M v [x]
 | [],A,v,x,h=>by
   simp only[Lib.parseUintM]at h;simp_all
 |c::r,A,v,x,h=>by
  rw[rV,Lib.parseUintM]at*
  split at h
  .rename_i h1;rw[if_pos h1];split at h
   .cases h
   .rename_i h2;rw[if_neg h2];split at h
    .cases h
    .rename_i h3;rw[if_neg h3];exact YpV M r _ v x h
  trivial
theorem Ywj(M:Nat)(H:M<=18446744073709551615): ∀u,u<=M->Lib.parseUintM M 0 (dec u)= .ok u:=by
 intro u;induction u using Nat.strongRecOn with
 |_ u I=>
  intro d;by_cases h:u<10
  .rw[show dec u=[UInt8.ofNat (48+u)]from BE h];have hn:=M8 h;simp only[Lib.parseUintM,hn];grind
  .have hn:=M8 (k:=u % 10) (by omega);rw[UZ h,YpV M _ 0 (u/10) _ (I (u/10) (by omega) (by omega))];simp only[Lib.parseUintM,hn];grind
theorem Ywk{u:Nat}{c:UInt8}(H:Ef c=zj):c∉dec u:=λh=>by
 have:=ly.1 (Jz u).2.1 c h;simp_all
theorem U1(u:Nat): ∃c r,dec u=c::r/\48<=c.toNat/\c.toNat<=57:=by
 obtain⟨h1,h2,_⟩:=Jz u;cases h:dec u with
 |nil=>trivial
 |cons c r=>
  rw[h]at h2;simp only[List.all_cons,iI,Ef,decide_eq_true_eq]at h2;simp_all
theorem YpW{u:Nat}(h:u<=18446744073709551615):Lib.parseUintB 64 (dec u)= .ok u:=by
 rw[Lib.parseUintB,if_neg (Jz u).1];exact Ywj _ (by decide) u h
theorem Ywl{n:Int}(h0: -9223372036854775808<=n)(h1:n<=9223372036854775807):Lib.parseIntB 64 (Lib.itoa n)= .ok n:=by
 have H:(2:Nat)^(64-1)=9223372036854775808:=rfl;unfold Lib.itoa;by_cases h:n<0
 .rw[if_pos h,Lib.parseIntB_minus,show Lib.decDigits n.natAbs=dec n.natAbs from rfl,YpW (by omega),H];simp only[Lib.signedC];grind
 .rw[if_neg h];obtain⟨c,r,e,k,K⟩:=U1 n.toNat;rw[show Lib.decDigits n.toNat=c::r from e,Lib.parseIntB_plain _ _ _ (by omega) (by omega),<-e,YpW (by omega),H];simp only[Lib.signlessC];grind
theorem U2(n:Int): ∃c r,Lib.itoa n=c::r/\ (c.toNat=45\/48<=c.toNat/\c.toNat<=57):=by
 unfold Lib.itoa;by_cases h:n<0
 .simp_all
 .rw[if_neg h];obtain⟨c,r,e,k,K⟩:=U1 n.toNat;simp_all
end Go.Abs.iA
namespace Go.Abs
theorem lf{n:Int}(h0: -9223372036854775808<=n)(h1:n<9223372036854775808):g_ .i64 n=n:=by
 have e:(2:Int)^IntKind.bits .i64=18446744073709551616:=rfl;have e':(2:Int)^(IntKind.bits .i64-1)=9223372036854775808:=rfl;have s:IntKind.signed .i64=true:=rfl;simp only[g_,e,e',s,Bool.true_and,ge_iff_le,decide_eq_true_eq];omega
theorem d_{β:Type}{p:Prop}[Decidable p](x:Option β)(h:p):e_ p x=x:=by simp[e_,h]
theorem cT{β:Type}{p:Prop}[Decidable p](x y:β)(h:p):(bif decide p then x else y)=x:=by simp[h]
theorem cF{β:Type}{p:Prop}[Decidable p](x y:β)(h: ¬p):(bif decide p then x else y)=y:=by simp[h]
theorem h_{α β:Type}(a:α)(f:α->Option β):d' (U a) f=f a:=rfl
theorem YpY{S R:Type}{step:S->Option (S⊕R)}(st:Nat->S)(N:Nat)(r:R)(d:step (st N)=U (.inr r))(H: ∀n,n<N->step (st n)=U (.inl (st (n+1)))): ∀k n,n+k=N->lY step (st n)=U r
 |0,n,h=>by rw[jz];simp_all
 |k+1,n,h=>by rw[jz,H n (by omega)];exact YpY st N r d H k (n+1) (by omega)
theorem M9{S R:Type}{step:S->Option (S⊕R)}{st:Nat->S}{N:Nat}{r:R}{s:S}(h:s=st 0)(H:step (st N)=U (.inr r))(d: ∀n,n<N->step (st n)=U (.inl (st (n+1)))):lY step s=U r:=by
 subst h;exact YpY st N r H d N 0 (by omega)
def tab{α:Type}(n:Nat)(f:Nat->α):List α:=(List.range n).map f
def bl(s:ByteArray):List UInt8:=s.data.toList
theorem oZ(s:ByteArray):(bl s).length=s.size:=Array.length_toList
theorem JA(s:ByteArray)(i:Nat)(h:i<s.size):(bl s).drop i=s.data.getD i 0::(bl s).drop (i+1):=by
 have H:i< (bl s).length:=by trivial
 rw[List.drop_eq_getElem_cons H];congr 1;simp[bl,Array.getD];omega
theorem YpZ(s:ByteArray)(i:Nat)(h:i<s.size):(bl s).take (i+1)=(bl s).take i++[s.data.getD i 0]:=by
 have H:i< (bl s).length:=by trivial
 rw[<-List.take_append_getElem H];congr 2;simp[bl,Array.getD];omega
theorem M'{a b:ByteArray}(h:bl a=bl b):a=b:=by
 have:a.data=b.data:=by simpa[bl]using h
 cases a;simp_all
end Go.Abs
namespace Go.Abs.iA
open Go Go.Abs
set_option maxRecDepth 100000
def BA(l:List UInt8):ByteArray:=⟨l.toArray⟩
theorem F0(a b:List UInt8):BA a++BA b=BA (a++b):=M' (by rfl)
theorem uC(s:ByteArray):BA (bl s)=s:=M' (by rfl)
theorem BF(l:List UInt8):bl (BA l)=l:=by rfl
theorem mQ(l:List UInt8):(BA l).size=l.length:=by rfl
theorem U3(l:List UInt8):nT (l.map λb=>(b.toNat:Int))=BA l:=by
 simp[nT,BA,List.map_map,Function.comp_def]
theorem rR(l:List UInt8)(n:Nat):ig (BA l) (n:Int)=((l.getD n 0).toNat:Int):=by
 simp[ig,BA,Array.getD,List.getD];grind
theorem wB(l:List UInt8)(a b:Nat):(BA l).extract a b=BA ((l.take b).drop a):=by
 apply M';simp[bl,BA,ByteArray.data_extract,List.drop_take]
theorem Yp0(A p R:List UInt8)(j:Nat)(h:j<p.length):(A++(p++R)).getD (A.length+j) 0=p.getD j 0:=by
 grind
theorem M_(A R:List UInt8)(c:UInt8):(A++c::R).getD A.length 0=c:=by
 simp
def oL:ByteArray:=a_ #[48,49,50,51,52,53,54,55,56,57,97,98,99,100,101,102]
def hx(n:Nat):UInt8:=oL.data.getD n 0
def qD(n:Nat):Bool:= !(im n 34||im n 92||im n 10||js n 32||js 126 n)
def qP(n:Nat):List UInt8:=
 bif im n 34 then[92,34]else bif im n 92 then[92,92]else bif im n 10 then[92,110]else bif js n 32||js 126 n then[92,120,hx (n/16),hx (n % 16)]else[UInt8.ofNat n]
def oM(c:Nat):Int:=bif iS 48 c&&iS c 57 then c-48 else bif iS 97 c&&iS c 102 then c-97+10 else-1
def shB(n:Nat):Bool:=match qP n with
 | [a]=> !im a.toNat 92&& (!im a.toNat 34&&im a.toNat n)
 | [a,b]=>im a.toNat 92&& (im b.toNat 110&&im n 10|| !im b.toNat 110&& (!im b.toNat 120&&im b.toNat n))
 | [a,b,h,l]=>im a.toNat 92&& (im b.toNat 120&& ((match pD h.toNat,pD l.toNat with|some x,U y=>im (x*16+y) n|_,_=>zj)&& (decide (16*oM h.toNat+oM l.toNat=n)&& (decide (0<=oM h.toNat)&& (decide (0<=oM l.toNat)&& (!im h.toNat 92&& (!im h.toNat 34&& (!im l.toNat 92&& !im l.toNat 34))))))))
 |_=>zj
theorem Ywn:((List.range 256).all shB)=true:=by rfl
inductive Sh(c:UInt8):List UInt8->Prop
 |a (x:UInt8) (h1:x.toNat≠92) (h2:x.toNat≠34) (h:x=c):Sh c [x]
 |n (h:c.toNat=10):Sh c [92,110]
 |b (x:UInt8) (h1:x.toNat≠110) (h2:x.toNat≠120) (h:x=c):Sh c [92,x]
 |x (h l:UInt8) (x y:Nat) (h1:pD h.toNat=U x) (h2:pD l.toNat=U y) (h3:x*16+y=c.toNat) (h4:16*oM h.toNat+oM l.toNat=c.toNat) (h5:0<=oM h.toNat) (h6:0<=oM l.toNat)
    (h7:h.toNat≠92) (h8:h.toNat≠34) (h9:l.toNat≠92) (h10:l.toNat≠34):Sh c [92,120,h,l]
theorem bne{a b:Nat}(h:(!im a b)=zZ):a≠b:=λe=>by simp_all
theorem F3(c:UInt8):Sh c (qP c.toNat):=by
 have h:=ly.1 Ywn c.toNat (tX.2 c.toNat_lt);unfold shB at h;split at h
 .rename_i a e;rw[e];simp only[iI]at h;exact .a a (bne h.1) (bne h.2.1) (UInt8.toNat_inj.1 (jr h.2.2))
 .rename_i a b e;rw[e];simp only[iI,rG]at h;have H:a=92:=UInt8.toNat_inj.1 (jr h.1);subst H;rcases h.2 with h|h
  .have d:b=110:=UInt8.toNat_inj.1 (jr h.1);subst d;exact .n (jr h.2)
  .exact .b b (bne h.1) (bne h.2.1) (UInt8.toNat_inj.1 (jr h.2.2))
 .rename_i a b x y e;rw[e];simp only[iI,decide_eq_true_eq]at h;have H:a=92:=UInt8.toNat_inj.1 (jr h.1);have d:b=120:=UInt8.toNat_inj.1 (jr h.2.1);subst H;subst d;obtain⟨_,_,h3,h4,h5,h6,h7,h8,k,g⟩:=h;split at h3
  .rename_i u v E p;exact .x x y u v E p (jr h3) h4 h5 h6 (bne h7) (bne h8) (bne k) (bne g)
  trivial
 trivial
def qL(l:List UInt8):List UInt8:=l.flatMap λc=>qP c.toNat
theorem Ywo(l:List UInt8)(c:UInt8):qL (l++[c])=qL l++qP c.toNat:=by simp[qL]
theorem Na(c:UInt8)(l:List UInt8):qL (c::l)=qP c.toNat++qL l:=by rfl
theorem JB{c:UInt8}{p:List UInt8}(h:Sh c p):1<=p.length/\p.length<=4:=by cases h<;>simp
end Go.Abs.iA
namespace Go.Abs
def qO{R:Type}(f:Nat->Option R):Nat->Nat->R->R
 |0,_,r0=>r0
 |k+1,n,r0=>match f n with
  |some r=>r
  |none=>qO f k (n+1) r0
theorem Eg{S R:Type}{step:S->Option (S⊕R)}(st:Nat->S)(f:Nat->Option R)(N:Nat)(r0:R){s:S}(H:s=st 0)(d:step (st N)=U (.inr r0))
  (g: ∀n,n<N->step (st n)=U (match f n with|some r=>.inr r|none=>.inl (st (n+1)))):lY step s=U (qO f N 0 r0):=by
 subst H;have: ∀k n,n+k=N->lY step (st n)=U (qO f k n r0):=by
  intro k;induction k with
  |zero=>intro n h;rw[jz];simp only[sZ]at h;subst h;rw[d];rfl
  |succ k I=>
   intro n h;rw[jz,g n (by omega)];simp only[qO];grind
 simp_all
def mB(p:Nat->Bool):Nat->Nat->Bool
 |0,_=>zj
 |k+1,n=>p n||mB p k (n+1)
def vJ(p:Nat->Bool)(k n:Nat):Int:=match qO (R:=Int⊕Unit) (λm=>bif p m then U (.inl (m:Int))else zz) k n (.inr ())with
 | .inl i=>i
 | .inr _=> -1
theorem Yp1(p:Nat->Bool): ∀k n,decide (0<=vJ p k n)=mB p k n
 |0,n=>rfl
 |k+1,n=>by
  have:=Yp1 p k (n+1);unfold vJ at this⊢;simp only[qO,mB];grind
theorem U4{R:Type}{f:Nat->Option R}{r0:R}: ∀(k n:Nat),(∃m r,n<=m/\m<n+k/\f m=U r/\qO f k n r0=r)\/(qO f k n r0=r0/\ ∀m,n<=m->m<n+k->f m=zz)
 |0,n=>.inr ⟨rfl,λm h1 h2=>by omega⟩
 |k+1,n=>by
  simp only[qO];cases h:f n with
  |some r=>grind
  |none=>
   rcases U4 (f:=f) (r0:=r0) k (n+1)with⟨m,r,h1,h2,h3,h4⟩| ⟨h1,h2⟩
   .grind
   grind
theorem Ywp{α:Type}{l:List α}{n:Nat}{d:α}(h:n<l.length):l.getD n d∈l:=by
 simp_all
theorem pI{p:Nat->Bool}: ∀{k n:Nat},mB p k n=zZ↔ ∃m,n<=m/\m<n+k/\p m=zZ
 |0,n=>⟨λh=>(by cases h),λ⟨m,h1,h2,_⟩=>(by omega)⟩
 |k+1,n=>by
  simp only[mB,rG,pI (k:=k) (n:=n+1)];grind
theorem U5{p:Nat->Bool}(b:Bool)(k n:Nat):qO (R:=Bool⊕Unit) (λm=>bif p m then U (.inl b)else zz) k n (.inr ())=bif mB p k n then .inl b else .inr ():=by
 induction k generalizing n with
 |zero=>rfl
 |succ k h=>
  simp only[qO,mB];grind
theorem Yp2{α:Type}{l:List α}{n:Nat}{d:α}(h:n<l.length):l.take (n+1)=l.take n++[l.getD n d]:=by
 simp_all
end Go.Abs
namespace Go.Abs.iA
open Go Go.Abs
noncomputable section
set_option maxRecDepth 100000
theorem wC{A B C:Type}(a:A)(f:A->Option C)(g:B->Option C):iV (.inl a:A⊕B) f g=f a:=rfl
theorem uD{A B C:Type}(b:B)(f:A->Option C)(g:B->Option C):iV (.inr b:A⊕B) f g=g b:=rfl
theorem U6{A B:Type}{a d:Option A}{f g:A->Option B}{y:B}(h:d' a f=U y)(H: ∀z,a=U z->d=U z)(k: ∀z,f z=U y->g z=U y):d' d g=U y:=by
 cases a with
 |none=>cases h
 |some z=>simp_all
theorem JC{B:Type}{p:Prop}[Decidable p]{a A:Option B}{y:B}(h:e_ p a=U y)(k:a=U y->A=U y):e_ p A=U y:=by
 by_cases H:p
 .rw[d_ _ H]at*;grind
 .simp[e_,H]at h
theorem U7{B:Type}{c:Bool}{a A x X:Option B}{y:B}(h:(bif c then a else x)=U y)(k:a=U y->A=U y)(K:x=U y->X=U y):(bif c then A else X)=U y:=by
 grind
def Eh:ByteArray:=a_ #[110,117,108,108]
def jw:ByteArray:=a_ #[]
theorem U9(s:ByteArray):s.size=0↔s=a_ #[]:=by
 constructor
 .intro h;have:s.data= #[]:=Array.eq_empty_of_size_eq_zero h;cases s;simp_all
 .intro h;subst h;rfl
def vB(v:Int×Int×ByteArray):Bool:=(ye f_ v.1 v.2.1 v.2.2).getD zj
theorem F4(a b:Int)(c:ByteArray):ye f_ a b c=U (vB (a,b,c)):=by
 unfold vB ye;grind
theorem Ywq(a b:Int)(c:ByteArray):TX f_ a b c=U (vB (a,b,c)):=F4 a b c
theorem BG{α β:Type}(c:Bool)(x y:Option α)(f:α->Option β):d' (bif c then x else y) f=bif c then d' x f else d' y f:=by grind
theorem BH{α β:Type}(p:Prop)[Decidable p](x:Option α)(f:α->Option β):d' (e_ p x) f=e_ p (d' x f):=by
 by_cases h:p<;>simp[e_,h]
def HX(b:Int):Option (List Int):=
 e_ (0<=(4:Int)) (e_ (0<=(b.fdiv (2^(min (4:Int).toNat (IntKind.bits .u8))))/\ (b.fdiv (2^(min (4:Int).toNat (IntKind.bits .u8))))< (oL.size:Int)) (e_ (0<=(bits .and .u8 b (15:Int))/\ (bits .and .u8 b (15:Int))< (oL.size:Int)) (U [(92:Int),(120:Int),(ig oL (b.fdiv (2^(min (4:Int).toNat (IntKind.bits .u8))))),(ig oL (bits .and .u8 b (15:Int)))])))
def pP(b:Int):Option (List Int):=
 bif decide (b=(34:Int))then U [(92:Int),b]else bif decide (b=(92:Int))then U [(92:Int),b]else bif decide (b=(10:Int))then U [(92:Int),(110:Int)]else bif decide (b< (32:Int))then HX b else bif decide ((126:Int)<b)then HX b else U [b]
def HR(b:Int):Option (Option ByteArray):=
 let T:=g_ .u8 (b.tdiv (16:Int));let Q:=g_ .u8 (T+(1:Int));let M:=b.tmod (16:Int);let R:=g_ .u8 (M+(1:Int))
 e_ ((16:Int)≠0) (e_ ((16:Int)≠0) (e_ (0<=T/\T<=Q/\Q<=(oL.size:Int)) (e_ (iS ((a_ #[92,120]).size+(oL.extract T.toNat Q.toNat).size) 9223372036854775807=zZ) (e_ ((16:Int)≠0) (e_ ((16:Int)≠0) (e_ (0<=M/\M<=R/\R<=(oL.size:Int)) (e_ (iS (((a_ #[92,120])++(oL.extract T.toNat Q.toNat)).size+(oL.extract M.toNat R.toNat).size) 9223372036854775807=zZ)
  (U (U (((a_ #[92,120])++(oL.extract T.toNat Q.toNat))++(oL.extract M.toNat R.toNat)))))))))))
def pR(b:Int):Option (Option ByteArray):=
 bif decide (b=(34:Int))then U (U (a_ #[92,34]))else bif decide (b=(92:Int))then U (U (a_ #[92,92]))else bif decide (b=(10:Int))then U (U (a_ #[92,110]))else bif decide (b< (32:Int))then HR b else bif decide ((126:Int)<b)then HR b else U zz
theorem Ywr:((List.range 256).all λn=>decide (pP (n:Int)=U ((qP n).map λb=>(b.toNat:Int))))=true:=by trivial
theorem Yws:((List.range 256).all λn=>decide (pR (n:Int)=U (bif qD n then zz else U (BA (qP n)))))=true:=by kernel_rfl
theorem Ywt:((List.range 256).all λn=>iS (qP n).length 4&& (!qD n||decide (qP n=[UInt8.ofNat n])))=true:=by rfl
theorem Ywu{n:Nat}(h:n<256):pP (n:Int)=U ((qP n).map λb=>(b.toNat:Int)):=of_decide_eq_true (ly.1 Ywr n (tX.2 h))
theorem Ywv{n:Nat}(h:n<256):pR (n:Int)=U (bif qD n then zz else U (BA (qP n))):=of_decide_eq_true (ly.1 Yws n (tX.2 h))
theorem Yp3(s0:ByteArray)(v8 V:Int)(O:ByteArray):Qq f_ (s0,v8,V,O)=
  bif decide (V<v8)then e_ (0<=V/\V< (s0.size:Int)) (d' (pP (ig s0 V)) λl=>bif sT l then e_ (O.size+l.length<=c_) (U (.inl (s0,v8,g_ .i64 (V+(1:Int)),O++nT l)))else zz)else U (.inr O):=by
 simp only[pP,HX,BG,BH,h_];rfl
theorem Yp4(s0 O:ByteArray)(I:Int):TZ f_ (s0,O,I)=
  bif decide (I< (s0.size:Int))then e_ (0<=I/\I< (s0.size:Int)) (d' (pR (ig s0 I)) λo=>match o with
   |some p=>e_ (iS (O.size+p.size) 9223372036854775807=zZ) (U (.inl (s0,O++p,g_ .i64 (I+(1:Int)))))
   |none=>e_ (0<=I/\I<=(g_ .i64 (I+(1:Int)))/\ (g_ .i64 (I+(1:Int)))<=(s0.size:Int)) (e_ (iS (O.size+(s0.extract I.toNat (g_ .i64 (I+(1:Int))).toNat).size) 9223372036854775807=zZ) (U (.inl (s0,(O++(s0.extract I.toNat (g_ .i64 (I+(1:Int))).toNat)),(g_ .i64 (I+(1:Int))))))))else U (.inr O):=by
 simp only[pR,HR,BG,BH,h_];rfl
theorem U'(c:UInt8):(qP c.toNat).length<=4/\ (qD c.toNat=zZ->qP c.toNat=[c]):=by
 have h:=ly.1 Ywt c.toNat (tX.2 c.toNat_lt);simp only[iI,rG,Bool.not_eq_true',decide_eq_true_eq]at h;refine⟨l9 h.1,λe=> ?_⟩;simp_all
theorem BI: ∀l:List UInt8,(qL l).length<=4*l.length
 | []=>jG _
 |c::l=>by
  have h1:=BI l;have h2:=(U' c).1;simp only[qL,List.flatMap_cons,nV,pL]at h1⊢;omega
theorem Yww(l:List UInt8):sT (l.map λb=>(b.toNat:Int))=true:=by
 simp only[sT,ly,mH,iI,decide_eq_true_eq];rintro x ⟨b,_,rfl⟩;have:=b.toNat_lt;omega
def oN(s:ByteArray):ByteArray:=BA (34::(qL (bl s)++[34]))
theorem Ywx(s:ByteArray):(oN s).size<=4*s.size+2:=by
 have:=BI (bl s);rw[oZ]at this;simp only[oN,mQ,pL,nV,uU];omega
theorem BJ(s:ByteArray)(n:Nat)(h:n<s.size):qL ((bl s).take (n+1))=qL ((bl s).take n)++qP (s.data.getD n 0).toNat:=by
 rw[YpZ s n h,Ywo]
theorem Yp5(s:ByteArray)(n:Nat)(h:n<=s.size):(qL ((bl s).take n)).length<=4*n:=by
 have:=BI ((bl s).take n);grind
theorem Nb(s:ByteArray)(n:Nat):ig s (n:Int)=((s.data.getD n 0).toNat:Int):=rfl
theorem ext1(s:ByteArray)(n:Nat)(h:n<s.size):s.extract n (n+1)=BA [s.data.getD n 0]:=by
 apply M';have H:n<s.data.size:=h;simp[bl,BA,ByteArray.data_extract];apply pT;grind
theorem Ei(s:ByteArray)(h:s.size<=4194304):L3 f_ s=U (oN s):=by
 have L:Qr f_ (s,(s.size:Int),(0:Int),nT [(34:Int)])=U (BA (34::qL (bl s))):=by
  refine M9 (st:=λn=>(s,(s.size:Int),(n:Int),BA (34::qL ((bl s).take n)))) (N:=s.size) rfl ?_ (λn hn=> ?_)
  .rw[Yp3,cF _ _ (by omega),List.take_of_length_le (by rw[oZ];omega)]
  .have h3:=(U' (s.data.getD n 0)).1;have h4:=Yp5 s n (by omega);have E:g_ .i64 ((n:Int)+1)=((n+1:Nat):Int):=by rw[lf (by omega) (by omega)];omega
   rw[Yp3,cT _ _ (by omega),d_ _ (by omega),Nb,Ywu (UInt8.toNat_lt _),h_,Yww,cond_true,d_ _ (by simp only[mQ,pL,pQ,c_];omega),U3,F0,E,BJ s n hn];rfl
 have h4:=BI (bl s);rw[oZ]at h4;unfold L3;rw[show sT [(34:Int)]=zZ from rfl,cond_true,L,h_,cond_true,d_ _ (by simp only[mQ,pL,uU,c_];omega)];rfl
theorem Ej(s:ByteArray)(h:s.size<=4194304):Mt f_ s=U (oN s):=by
 have L:T0 f_ (s,a_ #[34],(0:Int))=U (BA (34::qL (bl s))):=by
  refine M9 (st:=λn=>(s,BA (34::qL ((bl s).take n)),(n:Int))) (N:=s.size) rfl ?_ (λn hn=> ?_)
  .rw[Yp4,cF _ _ (by omega),List.take_of_length_le (by rw[oZ];omega)]
  .have h3:=U' (s.data.getD n 0);have h4:=Yp5 s n (by omega);have E:g_ .i64 ((n:Int)+1)=((n+1:Nat):Int):=by rw[lf (by omega) (by omega)];omega
   rw[Yp4,cT _ _ (by omega),d_ _ (by omega),Nb,Ywv (UInt8.toNat_lt _),h_,E,BJ s n hn];cases hd:qD (s.data.getD n 0).toNat with
   |false=>
    rw[cond_false];dsimp only;rw[d_ _ (by simp only[mQ,pL];exact qi (by omega)),F0];rfl
   |true=>
    rw[d_ _ (by omega),mN,mN,ext1 s n hn,d_ _ (by simp only[mQ,pL,uU];exact qi (by omega)),F0,h3.2 hd];rfl
 have h4:=BI (bl s);rw[oZ]at h4;unfold Mt;rw[L,h_,show a_ #[34]=BA [34]from rfl,d_ _ (by simp only[mQ,pL,uU];exact qi (by omega)),F0];rfl
def D10:ByteArray:=a_ #[48,49,50,51,52,53,54,55,56,57]
theorem Ywy:((List.range 10).all λu=>decide (D10.extract u (u+1)=BA [UInt8.ofNat (48+u)]))=true:=by rfl
theorem Ywz{u:Nat}(h:u<10):D10.extract u (u+1)=BA [UInt8.ofNat (48+u)]:=of_decide_eq_true (ly.1 Ywy u (tX.2 h))
theorem Nc: ∀n x y,zU f_ n x=U y->zU f_ (n+1) x=U y
 |0,_,_,h=>by cases h
 |n+1,x,y,h=>by
  have I:=Nc n;have H:FO f_ (zU f_ n) x=U y:=h;exact U7 H (λh=>h) λh=>U7 h (λh=>U6 h (I _) λ_ h=>h) λh=>U7 h (λh=>h) λh=>JC h λh=>U6 h (I _) λ_ h=>JC h λh=>U6 h (I _) λ_ h=>h
theorem zY: ∀(d u:Nat),u<10^(d+1)->d<=18->zU f_ (d+1) (u:Int)=U (BA (Lib.decDigits u))/\ (Lib.decDigits u).length<=d+1
 |d,u,h,hd=>by
  have g:10^(d+1)<=10^19:=Nat.pow_le_pow_right (by omega) (by omega);show FO f_ (zU f_ d) (u:Int)=_/\_;unfold FO;rw[cF _ _ (by omega),cF _ _ (by omega)];by_cases H:u<10
  .have E:g_ .i64 ((u:Int)+1)=((u+1:Nat):Int):=by rw[lf (by omega) (by omega)];omega
   rw[cT _ _ (by omega),E,d_ _ ⟨by omega,by omega,by have:(a_ #[48,49,50,51,52,53,54,55,56,57]).size=10:=rfl;omega⟩,BE H];exact⟨congrArg U (Ywz H),by simp⟩
  .match d,h with
   |0,h=>omega
   |d+1,h=>
    have h1:=zY d (u/10) (by omega) (by omega);have h2:=zY d (u % 10) (by omega) (by omega);have h3:(Lib.decDigits (u % 10)).length=1:=by rw[BE (by omega)];rfl
    have k:g_ .i64 ((u:Int).tdiv 10)=((u/10:Nat):Int):=by
     rw[Int.tdiv_eq_ediv_of_nonneg (by omega),lf (by omega) (by omega)];omega
    have E:(u:Int).tmod 10=((u % 10:Nat):Int):=by
     rfl
    rw[cF _ _ (by omega),d_ _ (by decide),k,h1.1,h_,d_ _ (by decide),E,h2.1,h_,d_ _ (by simp only[mQ];exact qi (by omega)),F0,UY H];simp_all
theorem yn(n:Int):pC n=BA (Lib.itoa n):=rfl
theorem YwA:Lib.itoa (-9223372036854775808)=[45,57,50,50,51,51,55,50,48,51,54,56,53,52,55,55,53,56,48,56]:=by
 have:Lib.decDigits 9223372036854775808=[57,50,50,51,51,55,50,48,51,54,56,53,52,55,55,53,56,48,56]:=by
  repeat first|rw[BE (by decide)]|rw[UY (by decide)]
  rfl
 unfold Lib.itoa;simp_all
theorem Ek(n:Int)(h0: -9223372036854775808<=n)(h1:n<=9223372036854775807):D9 f_ n=U (pC n)/\ (pC n).size<=20:=by
 by_cases h:n= -9223372036854775808
 .subst h;rw[yn,YwA];refine⟨Lu (m:=1) (n:=0) Nc ?_,by decide⟩;rfl
 .by_cases hn:n<0
  .have h2:=zY 18 n.natAbs (by omega) (by omega);have e:Lib.itoa n=45::Lib.decDigits n.natAbs:=by unfold Lib.itoa;simp_all
   rw[yn,e];refine⟨Lu (m:=20) (n:=0) Nc ?_,by rw[mQ,pL];omega⟩;show FO f_ (zU f_ 19) _=_;have E:g_ .i64 (0-n)=((n.natAbs:Nat):Int):=by rw[lf (by omega) (by omega)];omega
   unfold FO;rw[cF _ _ h,cT _ _ hn,E,h2.1,h_,show a_ #[45]=BA [45]from rfl,d_ _ (by simp only[mQ,pL,uU];exact qi (by omega)),F0];rfl
  .have h2:=zY 18 n.toNat (by omega) (by omega);have e:Lib.itoa n=Lib.decDigits n.toNat:=by unfold Lib.itoa;grind
   rw[yn,e];refine⟨Lu (m:=19) (n:=0) Nc ?_,by rw[mQ];omega⟩;grind
theorem YAZ(n:Int)(h0: -9223372036854775808<=n)(h1:n<=9223372036854775807):LZ f_ n 10=U (pC n):=by
 simp only[LZ,LD,h0,h1,decide_true,uW,cond_true]
def kx(v:Int×Int×ByteArray):ByteArray:=bif !vB v then jw else bif decide (v.1=0)then Eh else bif decide (v.1=1)then pC v.2.1 else bif decide (v.1=3)then a_ #[63]++pC v.2.1 else oN v.2.2
def oO(v:Int×Int×ByteArray):Int:=bif !vB v then 1 else 0
theorem U_{a b:Int}{c:ByteArray}(h:vB (a,b,c)=zZ):(a=0\/a=1\/a=2\/a=3)/\ (a=2->c.size<=200):=by
 have H:=F4 a b c;unfold ye at H;grind
theorem JD(a b:Int)(c:ByteArray)(h0: -9223372036854775808<=b)(h1:b<=9223372036854775807):Ir f_ a b c=U (kx (a,b,c),oO (a,b,c)):=by
 have hd:=(Ek b h0 h1).2;unfold Ir kx oO;rw[F4,h_];cases h:vB (a,b,c)with
 |false=>rfl
 |true=>
  obtain⟨k,K⟩:=U_ h;rcases k with rfl|rfl|rfl|rfl
  .rfl
  .rw[YAZ b h0 h1];rfl
  .rw[Ei c (by omega)];rfl
  .rw[YAZ b h0 h1,h_,h_,d_ _ (by rw[show(a_ #[63]).size=1 from rfl];exact qi (by omega))];rfl
theorem JE(a b:Int)(c:ByteArray)(h0: -9223372036854775808<=b)(h1:b<=9223372036854775807):Mu f_ a b c=U (kx (a,b,c),oO (a,b,c)):=by
 have hd:=Ek b h0 h1;unfold Mu kx oO;rw[Ywq,h_];cases h:vB (a,b,c)with
 |false=>rfl
 |true=>
  obtain⟨k,K⟩:=U_ h;rcases k with rfl|rfl|rfl|rfl
  .rfl
  .simp_all
  .rw[Ej c (by omega)];rfl
  .rw[hd.1,h_,h_,d_ _ (by rw[show(a_ #[63]).size=1 from rfl];exact qi (by omega))];rfl
end
end Go.Abs.iA
namespace Go.Abs.iA
open Go Go.Abs
noncomputable section
set_option maxRecDepth 100000
theorem JF{n:Int}(h0:0<=n)(h1:n<256):g_ .u8 n=n:=by
 have e:(2:Int)^IntKind.bits .u8=256:=rfl;have s:IntKind.signed .u8=false:=rfl;simp only[g_,e,s,Bool.false_and];grind
theorem jZ(n:Nat)(h:n<9223372036854775807):g_ .i64 ((n:Int)+1)=((n+1:Nat):Int):=by rw[lf (by omega) (by omega)];omega
theorem JG(h l:UInt8)(x y:Nat)(h1:pD h.toNat=U x)(h2:pD l.toNat=U y):ql (BA [h,l])=(((x*16+y:Nat):Int),zj):=by
 have:la 0 [h,l]=U (x*16+y):=by simp[la,h1,h2]
 unfold ql;rw[show(BA [h,l]).data.toList=[h,l]from rfl,this];rfl
theorem YwB(A R:List UInt8)(p:List UInt8)(c:UInt8)(O:List Int)(H:Sh c p)(S:A.length<1000000)(k:R≠ [])(q:R.length<1000000)(T:O.length<1000000):
  xB f_ (BA (A++(p++R)),(A.length:Int),O)=U (.inl (BA (A++(p++R)),((A.length+p.length:Nat):Int),O++[(c.toNat:Int)])):=by
 have V:c_=1073741824:=rfl;have w:1<=R.length:=List.length_pos_iff.2 k;have z:((BA (A++(p++R))).size:Int)=A.length+p.length+R.length:=by rw[mQ];grind
 have B:=JB H;have g (j:Nat) (h:j<p.length):ig (BA (A++(p++R))) ((A.length+j:Nat):Int)=((p.getD j 0).toNat:Int):=by rw[rR,Yp0 A p R j h]
 have d:=g 0 (by omega);rw[sZ]at d;have E:g_ .i64 ((A.length:Int)+1)=((A.length+1:Nat):Int):=jZ _ (by omega);have C:g_ .i64 (((A.length+1:Nat):Int)+1)=((A.length+2:Nat):Int):=jZ _ (by omega);have D:g_ .i64 (((A.length+1:Nat):Int)+3)=((A.length+4:Nat):Int):=by rw[lf (by omega) (by omega)];omega
 have F:g_ .i64 (((A.length+1:Nat):Int)+2)=((A.length+3:Nat):Int):=by rw[lf (by omega) (by omega)];omega
 have I:g_ .i64 (((A.length+3:Nat):Int)+1)=((A.length+4:Nat):Int):=jZ _ (by omega);have J:g_ .i64 (((BA (A++(p++R))).size:Int)-1)=((A.length+p.length+R.length-1:Nat):Int):=by rw[z,lf (by omega) (by omega)];omega
 simp only[xB,J,E,C,D,F,I,d];rw[cT _ _ (by omega),d_ _ (by omega)];cases H with
 |a x h1 h2 h=>
  subst h;rw[cF _ _ (by grind),d_ _ (by grind)];rfl
 |n h=>
  have G:=g 1 (by simp);rw[cT _ _ (by rfl),cT _ _ (by omega),d_ _ (by omega),G,cT _ _ (by rfl),d_ _ (by grind),h];rfl
 |b x h1 h2 h=>
  subst h;have G:=g 1 (by simp);rw[cT _ _ (by rfl),cT _ _ (by omega),d_ _ (by omega),G];simp only[List.getD_cons_succ,List.getD_cons_zero];rw[cF _ _ (by omega),cF _ _ (by omega),d_ _ (by grind)];rfl
 |x h l x y h1 h2 h3 h4 h5 h6 h7 h8 W K=>
  have G:=g 1 (by simp);have X:=c.toNat_lt;have L:((BA (A++([92,120,h,l]++R))).size:Int)=A.length+4+R.length:=by trivial
  have M:min ((A.length+2:Nat):Int) ((BA (A++([92,120,h,l]++R))).size:Int)=((A.length+2:Nat):Int):=by omega
  have N:min ((A.length+4:Nat):Int) ((BA (A++([92,120,h,l]++R))).size:Int)=((A.length+4:Nat):Int):=by omega
  have P:(BA (A++([92,120,h,l]++R))).extract (A.length+2) (A.length+4)=BA [h,l]:=by
   rw[wB];congr 1;have:A++([92,120,h,l]++R)=(A++[92,120])++([h,l]++R):=by simp
   rw[this];have hl:A.length+2=(A++[92,120]).length:=by simp
   have Q:A.length+4=((A++[92,120])++[h,l]).length:=by simp
   grind
  rw[cT _ _ (by rfl),cT _ _ (by omega),d_ _ (by omega),G];simp only[List.getD_cons_succ,List.getD_cons_zero];rw[cF _ _ (by decide),cT _ _ (by decide),M,N,d_ _ (by omega),mN,mN,P];simp only[Qp,C1,mQ,JG h l x y h1 h2];rw[show(iS ([h,l]:List UInt8).length 2&&decide True&&decide True)=zZ from rfl,cond_true,h_,h3,JF (by omega) (by omega),d_ _ (by grind)];rfl
theorem Yp6: ∀(v:List UInt8) (A:List UInt8) (O:List Int),A.length+4*v.length<900000->O.length+v.length<900000->
  FE f_ (BA (A++(qL v++[34])),(A.length:Int),O)=U (O++v.map λc=>(c.toNat:Int))
 | [],A,O,h,h2=>by
   show lY (xB f_) _=_;rw[jz];have z:g_ .i64 (((BA (A++(qL []++[34]))).size:Int)-1)=(A.length:Int):=by rw[mQ];simp only[qL,List.flatMap_nil,qt,nV,qG];rw[lf (by omega) (by omega)];omega
   simp only[xB,z];simp
 |c::v,A,O,h,h2=>by
  have q:=JB (F3 c);have hl:=BI v;have st:=YwB A (qL v++[34]) (qP c.toNat) c O (F3 c) (by omega) (by simp) (by grind) (by omega);have I:=Yp6 v (A++qP c.toNat) (O++[(c.toNat:Int)]) (by grind) (by grind);have e:A++qP c.toNat++(qL v++[34])=A++(qP c.toNat++(qL v++[34])):=by simp
  rw[e,nV]at I;have e':qL (c::v)++[34]=qP c.toNat++(qL v++[34]):=by rw[Na];simp
  show lY (xB f_) _=_;rw[e',jz,st];refine I.trans ?_;simp
theorem YwC(s:ByteArray)(h:s.size<=1000):FF f_ (oN s)=U s:=by
 unfold FF oN;have:=Yp6 (bl s) [34] [] (by rw[oZ];grind) (by rw[oZ];grind);rw[show(34::(qL (bl s)++[34]):List UInt8)=[34]++(qL (bl s)++[34])from rfl,show(1:Int)=(([34]:List UInt8).length:Int)from rfl,this,h_];rw[qt,U3,uC]
end
end Go.Abs.iA
namespace Go.Abs.iA
open Go Go.Abs
noncomputable section
set_option maxRecDepth 100000
theorem Nd(n:Nat)(h:n<256):Jh f_ (n:Int)=U (oM n):=by
 unfold Jh oM;by_cases h1:48<=n
 .by_cases h2:n<=57
  .rw[cT _ _ (by omega),cT _ _ (by omega),qi h1,qi h2,JF (by omega) (by omega),lf (by omega) (by omega)];rfl
  .have E:iS n 57=false:=by cases e:iS n 57 with|false=>rfl|true=>exact absurd (l9 e) h2
   rw[cT _ _ (by omega),cF _ _ (by omega),E,Bool.and_false,cond_false];by_cases h3:97<=n
   .by_cases h4:n<=102
    .rw[cT _ _ (by omega),cT _ _ (by omega),qi h3,qi h4,JF (by omega) (by omega),lf (n:=(n:Int)-97) (by omega) (by omega),lf (by omega) (by omega)];rfl
    .have g:iS n 102=false:=by cases e:iS n 102 with|false=>rfl|true=>exact absurd (l9 e) h4
     grind
   .have d:iS 97 n=false:=by cases e:iS 97 n with|false=>rfl|true=>exact absurd (l9 e) h3
    grind
 .have k:iS 48 n=false:=by cases e:iS 48 n with|false=>rfl|true=>exact absurd (l9 e) h1
  have d:iS 97 n=false:=by cases e:iS 97 n with|false=>rfl|true=>have:=l9 e;omega
  grind
theorem YwD(n:Nat):oM n<=15:=by
 unfold oM;cases E:(iS 48 n&&iS n 57)with
 |true=>
  rw[iI]at E;have:=l9 E.2;grind
 |false=>
  cases d:(iS 97 n&&iS n 102)with
  |true=>
   rw[iI]at d;have:=l9 d.2;grind
  |false=>simp
theorem YwE(A R:List UInt8)(p:List UInt8)(c:UInt8)(O:List Int)(H:Sh c p)(L:A.length<1000000)(k:R≠ [])(q:R.length<1000000)(M:O.length<1000000):
  xG f_ (BA (A++(p++R)),(A.length:Int),O)=U (.inl (BA (A++(p++R)),((A.length+p.length:Nat):Int),O++[(c.toNat:Int)])):=by
 have N:c_=1073741824:=rfl;have w:1<=R.length:=List.length_pos_iff.2 k;have z:((BA (A++(p++R))).size:Int)=A.length+p.length+R.length:=by rw[mQ];grind
 have B:=JB H;have g (j:Nat) (h:j<p.length):ig (BA (A++(p++R))) ((A.length+j:Nat):Int)=((p.getD j 0).toNat:Int):=by rw[rR,Yp0 A p R j h]
 have d:=g 0 (by omega);rw[sZ]at d;have E:g_ .i64 ((A.length:Int)+1)=((A.length+1:Nat):Int):=jZ _ (by omega);have C:g_ .i64 (((A.length+1:Nat):Int)+1)=((A.length+2:Nat):Int):=jZ _ (by omega);have D:g_ .i64 (((A.length+1:Nat):Int)+2)=((A.length+3:Nat):Int):=by rw[lf (by omega) (by omega)];omega
 have F:g_ .i64 (((A.length+3:Nat):Int)+1)=((A.length+4:Nat):Int):=jZ _ (by omega);have I:g_ .i64 (((BA (A++(p++R))).size:Int)-1)=((A.length+p.length+R.length-1:Nat):Int):=by rw[z,lf (by omega) (by omega)];omega
 simp only[xG,I,E,C,D,F,d];rw[cT _ _ (by omega),d_ _ (by omega)];cases H with
 |a x h1 h2 h=>
  subst h;rw[show(!decide (((([x]:List UInt8).getD 0 0).toNat:Int)=92))=zZ by grind,cond_true,d_ _ (by omega),d_ _ (by grind)];rfl
 |n h=>
  have G:=g 1 (by simp);rw[show(!decide (((([92,110]:List UInt8).getD 0 0).toNat:Int)=92))=zj from rfl,cond_false,cF _ _ (by grind),d_ _ (by omega),G,cT _ _ (by rfl),d_ _ (by grind),h];rfl
 |b x h1 h2 h=>
  subst h;have G:=g 1 (by simp);rw[show(!decide (((([92,x]:List UInt8).getD 0 0).toNat:Int)=92))=zj from rfl,cond_false,cF _ _ (by grind),d_ _ (by omega),G];simp only[List.getD_cons_succ,List.getD_cons_zero];rw[cF _ _ (by omega),d_ _ (by omega),cF _ _ (by omega),d_ _ (by omega),d_ _ (by grind)];rfl
 |x h l x y h1 h2 h3 h4 h5 h6 h7 h8 P J=>
  have G:=g 1 (by simp);have g2:=g 2 (by simp);have g3:=g 3 (by simp);have Q:=c.toNat_lt;have K:((BA (A++([92,120,h,l]++R))).size:Int)=A.length+4+R.length:=by trivial
  rw[show(!decide (((([92,120,h,l]:List UInt8).getD 0 0).toNat:Int)=92))=zj from rfl,cond_false,cF _ _ (by omega),d_ _ (by omega),G];simp only[List.getD_cons_succ,List.getD_cons_zero]at g2 g3⊢;rw[cF _ _ (by decide),d_ _ (by omega),cT _ _ (by decide),cT _ _ (by omega),d_ _ (by omega),g2,Nd _ h.toNat_lt,h_,d_ _ (by omega),g3,Nd _ l.toNat_lt,h_];have S:=YwD h.toNat;rw[lf (n:=16*_) (by omega) (by omega),lf (by omega) (by omega),h4,JF (by omega) (by omega),d_ _ (by grind)];rfl
theorem Yp7: ∀(v:List UInt8) (A:List UInt8) (O:List Int),A.length+4*v.length<900000->O.length+v.length<900000->
  FP f_ (BA (A++(qL v++[34])),(A.length:Int),O)=U (O++v.map λc=>(c.toNat:Int))
 | [],A,O,h,h2=>by
   show lY (xG f_) _=_;rw[jz];have z:g_ .i64 (((BA (A++(qL []++[34]))).size:Int)-1)=(A.length:Int):=by rw[mQ];simp only[qL,List.flatMap_nil,qt,nV,qG];rw[lf (by omega) (by omega)];omega
   simp only[xG,z];simp
 |c::v,A,O,h,h2=>by
  have q:=JB (F3 c);have hl:=BI v;have st:=YwE A (qL v++[34]) (qP c.toNat) c O (F3 c) (by omega) (by simp) (by grind) (by omega);have I:=Yp7 v (A++qP c.toNat) (O++[(c.toNat:Int)]) (by grind) (by grind);have e:A++qP c.toNat++(qL v++[34])=A++(qP c.toNat++(qL v++[34])):=by simp
  rw[e,nV]at I;have e':qL (c::v)++[34]=qP c.toNat++(qL v++[34]):=by rw[Na];simp
  show lY (xG f_) _=_;rw[e',jz,st];refine I.trans ?_;simp
theorem YwF(s:ByteArray)(h:s.size<=1000):D_ f_ (oN s)=U s:=by
 unfold D_ oN;have:=Yp7 (bl s) [34] [] (by rw[oZ];grind) (by rw[oZ];grind);rw[show(34::(qL (bl s)++[34]):List UInt8)=[34]++(qL (bl s)++[34])from rfl,show(1:Int)=(([34]:List UInt8).length:Int)from rfl,this,h_];rw[qt,U3,uC]
end
end Go.Abs.iA
namespace Go.Abs.iA
open Go Go.Abs
noncomputable section
set_option maxRecDepth 100000
theorem Yp8(n:Int): -9223372036854775808<=g_ .i64 n/\g_ .i64 n<=9223372036854775807:=by
 have e:(2:Int)^IntKind.bits .i64=18446744073709551616:=rfl;have e':(2:Int)^(IntKind.bits .i64-1)=9223372036854775808:=rfl;have s:IntKind.signed .i64=true:=rfl;simp only[g_,e,e',s,Bool.true_and,ge_iff_le,decide_eq_true_eq];omega
theorem Yp9: ∀(r p:List UInt8),val p<=val (p++r)
 | [],p=>by simp
 |x::r,p=>by
  have h1:=Yp9 r (p++[x]);have h2:=UX p x;grind
theorem Va: ∀(r p A:List UInt8) (fr:Int),r.all Ef=zZ->val (p++r)<=9223372036854775808->A.length+p.length+r.length<100000->
  A3 f_ (BA (A++(p++r)),-(val p:Int),fr,((A.length+p.length:Nat):Int))=U (.inr (BA (A++(p++r)),-(val (p++r):Int),fr))
 | [],p,A,fr,hd,h,hl=>by
   show lY (yh f_) _=_;rw[jz];simp only[yh];rw[cF _ _ (by rw[mQ];simp),List.append_nil]
 |x::r,p,A,fr,hd,h,hl=>by
  have H:=hd;simp only[List.all_cons,iI,Ef,decide_eq_true_eq]at H;have k:=Yp9 r (p++[x]);have q:=UX p x;have e0:p++x::r=p++[x]++r:=by simp
  rw[e0]at h;have I:=Va r (p++[x]) A fr H.2 h (by grind);have d:ig (BA (A++(p++x::r))) ((A.length+p.length:Nat):Int)=(x.toNat:Int):=by
   rw[rR];simp
  have z:((BA (A++(p++x::r))).size:Int)=A.length+p.length+r.length+1:=by rw[mQ];grind
  show lY (yh f_) _=_;rw[jz];simp only[yh,d];have g:(0:Int)<=((A.length+p.length:Nat):Int)/\ ((A.length+p.length:Nat):Int)< ((BA (A++(p++x::r))).size:Int):=by omega
  rw[cT _ _ g.2,d_ _ g,cF _ _ (by omega),d_ _ g,cF _ _ (by omega),d_ _ g,JF (by omega) (by omega),lf (n:=10*_) (by omega) (by omega),lf (n:=(x.toNat:Int)-48) (by omega) (by omega),lf (n:=10*_-_) (by omega) (by omega),jZ _ (by omega)];have E:(10* -(val p:Int)-((x.toNat:Int)-48))= -(val (p++[x]):Int):=by omega
  have el:(A.length+p.length+1:Nat)=A.length+(p++[x]).length:=by grind
  rw[E,el];simp only[e0];exact I
theorem Vb(n:Int)(h0: -9223372036854775808<=n)(h1:n<=9223372036854775807):D' f_ (pC n)=U (n,zZ):=by
 have D:=Ek n h0 h1;have z:=D.2;rw[yn]at D z⊢;unfold D';unfold Lib.itoa at D z⊢;by_cases h:n<0
 .rw[if_pos h]at D z⊢;obtain⟨k,K,d,_⟩:=Jz n.natAbs;have hl:(dec n.natAbs).length<=19:=U0 18 _ (by omega);obtain⟨w,H⟩: ∃w,dec n.natAbs=w:=⟨_,rfl⟩;rw[show Lib.decDigits n.natAbs=w from H]at D z⊢;rw[H]at k K d hl;have g:1<=w.length:=List.length_pos_iff.2 k;have B:((BA (45::w)).size:Int)=w.length+1:=by rfl
  have L:=Va w [] [45] 1 K (by grind) (by grind);rw[qt,d]at L;have q:A3 f_ (BA (45::w),0,1,1)=U (.inr (BA (45::w),-(n.natAbs:Int),1)):=L;have E: -(n.natAbs:Int)=n:=by omega
  have y:ig (BA (45::w)) (0:Int)=45:=rR (45::w) 0;rw[cT _ _ (by omega),d_ _ (by omega),y,cT _ _ (by omega)];simp only[A4];rw[cF _ _ (by omega),lf (by omega) (by omega),cF _ _ (by omega),q,h_,uD];simp_all
 .rw[if_neg h]at D z⊢;obtain⟨k,K,d,_⟩:=Jz n.toNat;obtain⟨c,r,A,C,F⟩:=U1 n.toNat;have hl:(dec n.toNat).length<=19:=U0 18 _ (by omega);obtain⟨w,H⟩: ∃w,dec n.toNat=w:=⟨_,rfl⟩;rw[show Lib.decDigits n.toNat=w from H]at D z⊢;rw[H]at k K d A hl;have g:1<=w.length:=List.length_pos_iff.2 k;have B:((BA w).size:Int)=w.length:=by rfl
  have L:=Va w [] [] 0 K (by grind) (by grind);simp only[qt,d]at L;have q:A3 f_ (BA w,0,0,0)=U (.inr (BA w,-(n.toNat:Int),0)):=L;have E:g_ .i64 (0- -(n.toNat:Int))=n:=by rw[lf (by omega) (by omega)];omega
  have y:ig (BA w) (0:Int)=(c.toNat:Int):=by rw[A];rfl
  rw[cT (p:=(0:Int)< ((BA w).size:Int)) _ _ (by omega),d_ _ (by omega),y,cF _ _ (by omega)];simp only[A4];rw[cF _ _ (by omega),lf (by omega) (by omega),cF _ _ (by omega),q,h_,uD];simp_all
theorem YwG(s:ByteArray)(H:s.size<1000000)(fr:Int): ∀(k i:Nat) (n:Int),s.size-i<=k->(-9223372036854775808<=n/\n<=9223372036854775807)->
  A3 f_ (s,n,fr,(i:Int))=U (.inl (0,zj))\/ ∃n',A3 f_ (s,n,fr,(i:Int))=U (.inr (s,n',fr))/\ -9223372036854775808<=n'/\n'<=9223372036854775807:=by
 intro k;induction k with
 |zero=>
  intro i n h hn;refine .inr ⟨n,?_,hn.1,hn.2⟩;show lY (yh f_) _=_;rw[jz];simp only[yh];grind
 |succ k I=>
  intro i n h hn;by_cases d:i<s.size
  .have st:A3 f_ (s,n,fr,(i:Int))=_:=jz (yh f_) (s,n,fr,(i:Int));have g:(0:Int)<=(i:Int)/\ (i:Int)< (s.size:Int):=by omega
   simp only[yh]at st;rw[cT _ _ g.2,d_ _ g]at st;by_cases h1:ig s i<48
   .simp_all
   .rw[cF _ _ h1,d_ _ g]at st;by_cases h2:57<ig s i
    .simp_all
    .rw[cF _ _ h2,d_ _ g,jZ _ (by omega)]at st;have:=I (i+1) _ (by omega) (Yp8 ((g_ .i64 (10*n))-(g_ .i64 (g_ .u8 (ig s i-48)))));rcases this with e| ⟨n',e,e'⟩
     .exact .inl (st.trans e)
     .exact .inr ⟨n',st.trans e,e'⟩
  grind
theorem BK(s:ByteArray)(H:s.size<1000000)(fr:Nat)(g:fr<=1): ∃n b,A4 f_ (s,0,(fr:Int))=U (n,b)/\ (-9223372036854775808<=n/\n<=9223372036854775807)/\ (b=zZ->pC n=s):=by
 simp only[A4];by_cases h1:(s.size:Int)=(fr:Int)
 .simp_all
 .rw[cF _ _ h1];by_cases h2:g_ .i64 ((fr:Int)+19)< (s.size:Int)
  .simp_all
  .rw[cF _ _ h2];rcases YwG s H fr s.size fr 0 (by omega) (by omega)with e| ⟨n',e,E,d⟩
   .rw[e,h_,wC];simp
   .rw[e,h_,uD];by_cases h3:(fr:Int)=0
    .have h:=Yp8 (0-n');rw[cT _ _ h3,(Ek _ h.1 h.2).1,h_];grind
    .rw[cF _ _ h3,(Ek n' E d).1,h_];grind
theorem Yqa(s:ByteArray)(H:s.size<1000000): ∃n b,D' f_ s=U (n,b)/\ (-9223372036854775808<=n/\n<=9223372036854775807)/\ (b=zZ->pC n=s):=by
 obtain⟨n0,B,h0,d⟩:=BK s H 0 (by omega);obtain⟨N,k,h1,g⟩:=BK s H 1 (by omega);unfold D';by_cases h:(0:Int)< (s.size:Int)
 .rw[cT _ _ h,d_ _ (by omega)];grind
 grind
end
end Go.Abs.iA
namespace Go.Abs.iA
open Go Go.Abs
noncomputable section
set_option maxRecDepth 100000
theorem YwH(s:ByteArray)(D:s.size<1000000): ∀(k i:Nat) (O:List Int),s.size-i<=k->O.length+k<10000000-> ∃r,FE f_ (s,(i:Int),O)=U r:=by
 have F:c_=1073741824:=rfl;intro k;induction k with
 |zero=>
  intro i O h p;refine⟨O,?_⟩;show lY (xB f_) _=_;rw[jz];simp only[xB];have w:g_ .i64 ((s.size:Int)-1)=(s.size:Int)-1:=lf (by omega) (by omega);grind
 |succ k I=>
  intro i O h p;have w:g_ .i64 ((s.size:Int)-1)=(s.size:Int)-1:=lf (by omega) (by omega);have st:FE f_ (s,(i:Int),O)=_:=jz (xB f_) (s,(i:Int),O);simp only[xB,w]at st;by_cases q:(i:Int)< (s.size:Int)-1
  .have E:g_ .i64 ((i:Int)+1)=((i+1:Nat):Int):=jZ _ (by omega);have y:g_ .i64 (((i+1:Nat):Int)+1)=((i+2:Nat):Int):=jZ _ (by omega);have A:g_ .i64 (((i+1:Nat):Int)+3)=((i+4:Nat):Int):=by rw[lf (by omega) (by omega)];omega
   have B:g_ .i64 (((i+1:Nat):Int)+2)=((i+3:Nat):Int):=by rw[lf (by omega) (by omega)];omega
   have C:g_ .i64 (((i+3:Nat):Int)+1)=((i+4:Nat):Int):=jZ _ (by omega);simp only[E,y,A,B,C]at st;have d: ∀(j:Nat) (x:Int),i<j-> ∃r,FE f_ (s,(j:Int),O++[x])=U r:=λj x G=>I j _ (by omega) (by grind);rw[cT _ _ q,d_ _ (by omega)]at st;by_cases g:ig s i=92
   .rw[cT _ _ g,cT _ _ (by omega),d_ _ (by omega)]at st;by_cases h1:ig s ((i+1:Nat):Int)=110
    .rw[cT _ _ h1,d_ _ (by grind)]at st;obtain⟨r,H⟩:=d (i+2) 10 (by omega);exact⟨r,st.trans H⟩
    .by_cases h2:ig s ((i+1:Nat):Int)=120
     .rw[cF _ _ h1,cT _ _ h2,d_ _ (by omega)]at st;have z:(s.extract (min ((i+2:Nat):Int) (s.size:Int)).toNat (min ((i+4:Nat):Int) (s.size:Int)).toNat).size<=2:=by rw[ByteArray.size_extract];omega
      simp only[Qp,C1]at st;rw[qi z]at st;simp at st;rw[d_ _ (by grind)]at st;obtain⟨r,H⟩:=d (i+4) _ (by omega);exact⟨r,st.trans H⟩
     .rw[cF _ _ h1,cF _ _ h2,d_ _ (by grind)]at st;obtain⟨r,H⟩:=d (i+2) _ (by omega);exact⟨r,st.trans H⟩
   .rw[cF _ _ g,d_ _ (by grind)]at st;obtain⟨r,H⟩:=d (i+1) _ (by omega);exact⟨r,st.trans H⟩
  simp_all
theorem YwI(s:ByteArray)(h:s.size<1000000): ∃u,FF f_ s=U u:=by
 obtain⟨r,H⟩:=YwH s h s.size 1 [] (by omega) (by grind);unfold FF;simp_all
theorem YwJ(s:ByteArray)(B:s.size<1000000): ∀(k i:Nat) (O:List Int),s.size-i<=k->O.length+k<10000000-> ∃r,FP f_ (s,(i:Int),O)=U r:=by
 have C:c_=1073741824:=rfl;intro k;induction k with
 |zero=>
  intro i O h g;refine⟨O,?_⟩;show lY (xG f_) _=_;rw[jz];simp only[xG];have w:g_ .i64 ((s.size:Int)-1)=(s.size:Int)-1:=lf (by omega) (by omega);grind
 |succ k I=>
  intro i O h g;have w:g_ .i64 ((s.size:Int)-1)=(s.size:Int)-1:=lf (by omega) (by omega);have st:FP f_ (s,(i:Int),O)=_:=jz (xG f_) (s,(i:Int),O);simp only[xG,w]at st;by_cases p:(i:Int)< (s.size:Int)-1
  .have E:g_ .i64 ((i:Int)+1)=((i+1:Nat):Int):=jZ _ (by omega);have y:g_ .i64 (((i+1:Nat):Int)+1)=((i+2:Nat):Int):=jZ _ (by omega);have z:g_ .i64 (((i+1:Nat):Int)+2)=((i+3:Nat):Int):=by rw[lf (by omega) (by omega)];omega
   have A:g_ .i64 (((i+3:Nat):Int)+1)=((i+4:Nat):Int):=jZ _ (by omega);simp only[E,y,z,A]at st;have d: ∀(j:Nat) (x:Int),i<j-> ∃r,FP f_ (s,(j:Int),O++[x])=U r:=λj x D=>I j _ (by omega) (by grind);rw[cT _ _ p,d_ _ (by omega)]at st;by_cases F:ig s i=92
   .rw[show(!decide (ig s i=92))=zj by simp_all,cond_false]at st;by_cases q:(s.size:Int)-1<=((i+1:Nat):Int)
    .rw[cT _ _ q,d_ _ (by omega),d_ _ (by grind)]at st;obtain⟨r,H⟩:=d (i+1) _ (by omega);exact⟨r,st.trans H⟩
    .rw[cF _ _ q,d_ _ (by omega)]at st;by_cases h1:ig s ((i+1:Nat):Int)=110
     .rw[cT _ _ h1,d_ _ (by grind)]at st;obtain⟨r,H⟩:=d (i+2) 10 (by omega);exact⟨r,st.trans H⟩
     .rw[cF _ _ h1,d_ _ (by omega)]at st;by_cases h2:ig s ((i+1:Nat):Int)=120
      .rw[cT _ _ h2]at st;by_cases h3:((i+3:Nat):Int)< (s.size:Int)-1
       .rw[cT _ _ h3,d_ _ (by omega),Nb,Nd _ (UInt8.toNat_lt _),h_,d_ _ (by omega),Nb,Nd _ (UInt8.toNat_lt _),h_,d_ _ (by grind)]at st;obtain⟨r,H⟩:=d (i+4) _ (by omega);exact⟨r,st.trans H⟩
       .rw[cF _ _ h3,d_ _ (by omega),d_ _ (by grind)]at st;obtain⟨r,H⟩:=d (i+2) _ (by omega);exact⟨r,st.trans H⟩
      .rw[cF _ _ h2,d_ _ (by omega),d_ _ (by grind)]at st;obtain⟨r,H⟩:=d (i+2) _ (by omega);exact⟨r,st.trans H⟩
   .rw[show(!decide (ig s i=92))=zZ by simp_all,cond_true,d_ _ (by omega),d_ _ (by grind)]at st;obtain⟨r,H⟩:=d (i+1) _ (by omega);exact⟨r,st.trans H⟩
  simp_all
theorem YwK(s:ByteArray)(h:s.size<1000000): ∃u,D_ f_ s=U u:=by
 obtain⟨r,H⟩:=YwJ s h s.size 1 [] (by omega) (by grind);unfold D_;simp_all
def pJ(v:Int×Int×ByteArray):Prop:= -9223372036854775808<=v.2.1/\v.2.1<=9223372036854775807
theorem JH(a:Int)(c:ByteArray):pJ (a,0,c):=⟨show-9223372036854775808<=(0:Int) by decide,show(0:Int)<=9223372036854775807 by decide⟩
theorem F5{a b:Int}{c:ByteArray}(h:vB (a,b,c)=zZ):(a=0/\b=0/\c=jw)\/(a=1/\c=jw)\/(a=2/\b=0/\c.size<=200)\/(a=3/\1<=b/\c=jw):=by
 obtain⟨k,K⟩:=U_ h;have H:=F4 a b c;rw[h]at H;unfold ye at H;rcases k with rfl|rfl|rfl|rfl
 .refine .inl ⟨rfl,?_⟩;by_cases d:b=0
  .simp[d]at H;trivial
  simp_all
 .simp at H;exact .inr (.inl ⟨rfl,H⟩)
 .grind
 .refine .inr (.inr (.inr ⟨rfl,?_⟩));by_cases d:1<=b
  .simp[d]at H;trivial
  simp_all
theorem vB2{c:ByteArray}(h:c.size<=200):vB (2,0,c)=true:=by
 have H:=F4 2 0 c;unfold ye at H;grind
theorem vB1(n:Int):vB (1,n,jw)=true:=by
 rfl
theorem vB3{n:Int}(h:1<=n):vB (3,n,jw)=true:=by
 have H:=F4 3 n jw;unfold ye at H;simp[h,jw]at H;exact H
theorem vB0:vB (0,0,jw)=true:=by
 rfl
theorem Vc:kx (0,0,jw)=Eh:=by rfl
theorem z_(n:Int):kx (1,n,jw)=pC n:=by rfl
theorem Aa{c:ByteArray}(h:c.size<=200):kx (2,0,c)=oN c:=by unfold kx;rw[vB2 h];rfl
theorem xH{n:Int}(h:1<=n):kx (3,n,jw)=BA (63::Lib.itoa n):=by
 unfold kx;rw[vB3 h];rfl
theorem Yqb(s:ByteArray): -9223372036854775808<=(vp s).1/\ (vp s).1<=9223372036854775807:=by
 unfold vp;cases h:Lib.parseIntB 64 s.data.toList with
 |ok v=>
  have:=Lib.parseIntB_bounds h;grind
 |range=>
  have d:((2^(64-1):Nat):Int)=9223372036854775808:=rfl;have H:((2^(64-1)-1:Nat):Int)=9223372036854775807:=rfl;simp only[Lib.intSat,d,H];omega
 |_=>simp
theorem Nf(s:ByteArray)(h:s.size<1000000):LY f_ s 10 64=U (vp s):=by
 simp only[LY,YCC,C1];rw[qi (by omega)];rfl
theorem Yqc{n:Int}(h0: -9223372036854775808<=n)(h1:n<=9223372036854775807):vp (BA (Lib.itoa n))=(n,zj):=by
 unfold vp;rw[show(BA (Lib.itoa n)).data.toList=Lib.itoa n from rfl,Ywl h0 h1]
theorem Vd{v:Int×Int×ByteArray}(p:vB v=zZ)(g:pJ v):FH f_ (kx v)=U v:=by
 obtain⟨a,b,c⟩:=v;unfold FH;rcases F5 p with⟨rfl,rfl,rfl⟩| ⟨rfl,rfl⟩| ⟨rfl,rfl,q⟩| ⟨rfl,w,rfl⟩
 .rfl
 .obtain⟨d,r,e,hd⟩:=U2 b;have z:=(Ek b g.1 g.2).2;have h0:ig (pC b) 0=(d.toNat:Int):=by rw[yn,e];rfl
  have H:0< (pC b).size:=by rw[yn,e,mQ];simp
  rw[z_,cF _ _ (λh=>by rw[h]at h0;rw[show ig (a_ #[110,117,108,108]) 0=110 from rfl]at h0;omega),cF _ _ (λh=>by rw[h]at H;trivial),d_ _ (by omega),h0,cF _ _ (by omega),cF _ _ (by omega),Nf _ (by omega),h_];rw[yn,Yqc g.1 g.2];rfl
 .have h0:ig (oN c) 0=34:=rR (34::(qL (bl c)++[34])) 0;have H:0< (oN c).size:=by unfold oN;rw[mQ];simp
  rw[Aa q,cF _ _ (λh=>by rw[h]at h0;trivial),cF _ _ (λh=>by rw[h]at H;trivial),d_ _ (by omega),h0,cT _ _ (by rfl),YwC c (by omega)];rfl
 .have h0:ig (BA (63::Lib.itoa b)) 0=63:=rR (63::Lib.itoa b) 0;have z:=(Ek b g.1 g.2).2;rw[yn,mQ]at z;have k:(BA (63::Lib.itoa b)).size=(Lib.itoa b).length+1:=by rfl
  rw[xH w,cF _ _ (λh=>by rw[h]at h0;trivial),cF _ _ (λh=>by rw[h]at k;trivial),d_ _ (by omega),h0,cF _ _ (by decide),cT _ _ (by rfl),d_ _ (by omega)];have y:(BA (63::Lib.itoa b)).extract 1 ((BA (63::Lib.itoa b)).size:Int).toNat=BA (Lib.itoa b):=by
   rw[wB,mN,mQ,rN];rfl
  rw[y,Nf _ (by rw[mQ];omega),h_,Yqc g.1 g.2];rfl
theorem YwL(s:ByteArray)(H:s.size<1000000): ∃v,FH f_ s=U v/\pJ v:=by
 unfold FH;have z:pJ ((0:Int),(0:Int),a_ #[]):=⟨by decide,by decide⟩;by_cases h1:s=a_ #[110,117,108,108]
 .simp_all
 .by_cases h2:s=a_ #[]
  .simp_all
  .have h0:0<s.size:=Nat.pos_of_ne_zero λh=>h2 ((U9 s).1 h);rw[cF _ _ h1,cF _ _ h2,d_ _ (by omega)];by_cases h3:ig s 0=34
   .obtain⟨u,d⟩:=YwI s H;rw[cT _ _ h3,d];exact⟨_,rfl,JH _ _⟩
   .rw[cF _ _ h3];by_cases h4:ig s 0=63
    .have g:(s.extract 1 (s.size:Int).toNat).size<1000000:=by rw[ByteArray.size_extract];omega
     rw[cT _ _ h4,d_ _ (by omega),Nf _ g];exact⟨_,rfl,Yqb _⟩
    .rw[cF _ _ h4,Nf _ H];exact⟨_,rfl,Yqb _⟩
def PV(s:ByteArray)(r:Int×Int×ByteArray×Int):Prop:=
 (∃v:Int×Int×ByteArray,r=(v.1,v.2.1,v.2.2,0)/\vB v=zZ/\pJ v/\kx v=s)\/(r=(0,0,jw,2)/\ ∀v:Int×Int×ByteArray,vB v=zZ->pJ v->kx v≠s)
theorem YwM{v u:Int×Int×ByteArray}(H:vB v=zZ)(R:pJ v)(d:vB u=zZ)(g:pJ u)(h:kx v=kx u):v=u:=by
 have h1:=Vd H R;rw[h,Vd d g]at h1;simp_all
theorem YwN{s:ByteArray}{r R:Int×Int×ByteArray×Int}(h:PV s r)(H:PV s R):r=R:=by
 rcases h with⟨v,rfl,a,b,c⟩| ⟨rfl,a⟩
 .rcases H with⟨u,rfl,A,B,c'⟩| ⟨_,A⟩
  .have:=YwM a b A B (c.trans c'.symm);simp_all
  simp_all
 .rcases H with⟨u,rfl,A,B,c'⟩| ⟨rfl,A⟩
  .simp_all
  .rfl
theorem El(s:ByteArray)(g:s.size<1000000): ∃r,Du f_ s=U r/\PV s r:=by
 obtain⟨v,k,d⟩:=YwL s g;unfold Du;rw[k,h_];show∃r,((Ir f_ v.1 v.2.1 v.2.2).bind λc=>bif !decide (c.2=0)then U (0,0,jw,2)else bif !decide (c.1=s)then U (0,0,jw,2)else U (v.1,v.2.1,v.2.2,0))=U r/\PV s r;rw[JD _ _ _ d.1 d.2,h_];have N:(vB v=zZ->kx v≠s)-> ∀u:Int×Int×ByteArray,vB u=zZ->pJ u->kx u≠s:=λh u p R e=>by
  have:=Vd p R;simp_all
 cases q:vB v with
 |false=>
  have:oO v=1:=by unfold oO;simp_all
  rw[this];exact⟨_,rfl,.inr ⟨rfl,N (λh=>by simp_all)⟩⟩
 |true=>
  have:oO v=0:=by unfold oO;simp_all
  rw[this];by_cases H:kx v=s
  .rw[decide_eq_true H];exact⟨_,rfl,.inl ⟨v,rfl,q,d,H⟩⟩
  .rw[decide_eq_false H];exact⟨_,rfl,.inr ⟨rfl,N λ_=>H⟩⟩
theorem r14(s:ByteArray)(g:s.size<1000000)(a b:Int)(c:ByteArray):(∃v,zV f_ (s,a,b,c)=U (0,2,0,v)/\vB (2,0,v)=zZ/\kx (2,0,v)=s)\/
  (zV f_ (s,a,b,c)=U (2,0,0,jw)/\ ∀v,vB (2,0,v)=zZ->kx (2,0,v)≠s):=by
 simp only[zV];have q: ∀v:ByteArray,vB (2,0,v)=zZ->kx (2,0,v)=s->1< (s.size:Int)/\ig s 0=34/\D_ f_ s=U v:=by
  intro v H e;have k:v.size<=200:=by
   rcases F5 H with h|h|h|h
   .omega
   .omega
   .omega
   .omega
  rw[Aa k]at e;subst e;refine⟨?_,rR (34::(qL (bl v)++[34])) 0,YwF v (by omega)⟩;unfold oN;rw[mQ];grind
 by_cases h1:1< (s.size:Int)
 .rw[cT _ _ h1,d_ _ (by omega)];by_cases h2:ig s 0=34
  .obtain⟨u,p⟩:=YwK s g;rw[cT _ _ h2,p,h_,JE 2 0 u (by decide) (by decide),h_];have nn:(vB (2,0,u)=zZ->kx (2,0,u)≠s)-> ∀v,vB (2,0,v)=zZ->kx (2,0,v)≠s:=λh v H e=>by
    grind
   cases H:vB (2,0,u)with
   |false=>
    have:oO (2,0,u)=1:=by unfold oO;simp_all
    simp only[this];exact .inr ⟨rfl,nn λh=>by simp_all⟩
   |true=>
    have:oO (2,0,u)=0:=by unfold oO;simp_all
    simp only[this,decide_true,cond_true];by_cases d:kx (2,0,u)=s
    .simp_all
    .rw[cF _ _ d];exact .inr ⟨rfl,nn λ_=>d⟩
  .rw[cF _ _ h2];exact .inr ⟨rfl,λv H e=>h2 (q v H e).2.1⟩
 .rw[cF _ _ h1];exact .inr ⟨rfl,λv H e=>h1 (q v H e).1⟩
theorem Yqd(s:ByteArray):bl (s.extract 1 (s.size:Int).toNat)=(bl s).drop 1:=by
 have hl:s.data.toList.length=s.size:=Array.length_toList;have h:s.data.toList.tail.length<=s.size-1:=by simp
 simp only[bl,ByteArray.data_extract,Array.toList_extract,List.extract_eq_take_drop,mN,List.drop_one];grind
theorem Em(s:ByteArray)(D:s.size<1000000): ∃r,Ea f_ s=U r/\PV s r:=by
 unfold Ea;by_cases hn:s=a_ #[110,117,108,108]
 .rw[cT _ _ hn];exact⟨_,rfl,.inl ⟨(0,0,jw),rfl,vB0,⟨by decide,by decide⟩,by rw[Vc,hn];rfl⟩⟩
 .obtain⟨n,b,J,G,I⟩:=Yqa s D;rw[cF _ _ hn,J,h_];cases b with
  |true=>exact⟨_,rfl,.inl ⟨(1,n,jw),rfl,vB1 n,G,by rw[z_];simp_all⟩⟩
  |false=>
   have N: ∀m,pJ (1,m,jw)->pC m≠s:=λm p e=>by
    have:=Vb m p.1 p.2;simp_all
   have F:(∀m,1<=m->pJ (3,m,jw)->BA (63::Lib.itoa m)≠s)-> ∃r,(d' (zV f_ (s,0,0,a_ #[])) λy=>U (y.2.1,y.2.2.1,y.2.2.2,y.1))=U r/\PV s r:=by
    intro K;rcases r14 s D 0 0 (a_ #[])with⟨v,e,q,L⟩| ⟨e,M⟩
    .rw[e];exact⟨_,rfl,.inl ⟨(2,0,v),rfl,q,JH _ _,L⟩⟩
    .rw[e];refine⟨_,rfl,.inr ⟨rfl,?_⟩⟩;rintro⟨x,y,z⟩ q G E;rcases F5 q with⟨rfl,rfl,rfl⟩| ⟨rfl,rfl⟩| ⟨rfl,rfl,Q⟩| ⟨rfl,I,rfl⟩
     .exact hn E.symm
     .rw[z_]at E;simp_all
     .simp_all
     .rw[xH I]at E;simp_all
   by_cases h1:(1:Int)< (s.size:Int)
   .rw[cT _ _ h1,d_ _ (by omega)];by_cases h2:ig s 0=63
    .have O:(s.extract 1 (s.size:Int).toNat).size<1000000:=by rw[ByteArray.size_extract];omega
     obtain⟨m,b,p,w,A⟩:=Yqa _ O;rw[cT _ _ h2,d_ _ (by omega),p,h_];have g:BA (63::bl (s.extract 1 (s.size:Int).toNat))=s:=by
      have h3:ig s 0=((s.data.getD 0 0).toNat:Int):=rfl;have h4:(s.data.getD 0 0)=63:=UInt8.toNat_inj.1 (by grind);have h5:=JA s 0 (by omega);rw[vM,h4]at h5;rw[Yqd,<-uC s,BF,h5];rfl
     cases b with
     |true=>
      have B:=A rfl;by_cases H:1<=m
      .rw[cT _ _ H];refine⟨_,rfl,.inl ⟨(3,m,jw),rfl,vB3 H,w,?_⟩⟩;rw[xH H,<-g,<-B,yn,BF]
      .rw[cF _ _ H];refine F λk C h e=> ?_;have:=Vb k h.1 h.2;have E:pC k=s.extract 1 (s.size:Int).toNat:=by
        rw[<-e,wB,mN,mQ,rN];rfl
       grind
     |false=>
      simp only[cond_false];refine F λk C h e=> ?_;have:=Vb k h.1 h.2;have E:pC k=s.extract 1 (s.size:Int).toNat:=by
       rw[<-e,wB,mN,mQ,rN];rfl
      simp_all
    .rw[cF _ _ h2];exact F λk C h e=>h2 (by rw[<-e];rfl)
   .rw[cF _ _ h1];exact F λk C h e=>h1 (by
     obtain⟨d,r,P,_⟩:=U2 k;rw[<-e,mQ,P];grind)
theorem Ve(s:ByteArray)(h:s.size<1000000): ∃r,Du f_ s=U r/\Ea f_ s=U r/\PV s r:=by
 obtain⟨r,h1,h2⟩:=El s h;obtain⟨R,h3,h4⟩:=Em s h;obtain rfl:=YwN h2 h4;simp_all
end
end Go.Abs.iA
namespace Go.Abs.iA
open Go Go.Abs
noncomputable section
set_option maxRecDepth 100000
def lt(c:Int):Bool:=decide (97<=c)&&decide (c<=122)||decide (65<=c)&&decide (c<=90)||decide (c=95)
def dg(c:Int):Bool:=decide (48<=c)&&decide (c<=57)
theorem JI(c:Int):Dl f_ c=U (lt c):=by
 unfold Dl lt;grind
theorem Vf(c:Int):Jg f_ c=U (lt c):=JI c
theorem JJ(c:Int):zF f_ c=U (dg c):=by
 unfold zF dg;grind
theorem JK(c:Int):zS f_ c=U (dg c):=JJ c
def lw(c:Int):Bool:=lt c||dg c
theorem YwO(c:Int):LQ f_ c=U (lw c):=by
 unfold LQ lw;rw[JI,JJ,h_];grind
def u8p(p:Int->Bool)(c:UInt8):Bool:=p (c.toNat:Int)
def iO(p:Int->Bool)(l:List UInt8):Nat:=(l.takeWhile (u8p p)).length
theorem Vg(p:Int->Bool)(l:List UInt8):iO p l<=l.length:=(List.takeWhile_sublist _).length_le
theorem JL(p:Int->Bool)(c:UInt8)(l:List UInt8):iO p (c::l)=if p (c.toNat:Int)then iO p l+1 else 0:=by
 unfold iO u8p;by_cases h:p (c.toNat:Int)<;>simp[h]
theorem JM{R:Type}{step:ByteArray×Int->Option ((ByteArray×Int)⊕R)}(p:Int->Bool)(s:ByteArray)(H:s.size<1000000)(g:Int->R)
  (h1: ∀i:Nat,i<s.size->step (s,(i:Int))=U (bif p (ig s i)then .inl (s,((i+1:Nat):Int))else .inr (g i))) (h2:step (s,(s.size:Int))=U (.inr (g s.size))):
  ∀(k i:Nat),i+k=s.size->lY step (s,(i:Int))=U (g ((i+iO p ((bl s).drop i):Nat):Int))
 |0,i,h=>by
  rw[jz];subst h;rw[h2,List.drop_eq_nil_of_le (by rw[oZ];omega)];rfl
 |k+1,i,h=>by
  rw[jz,h1 i (by omega),JA s i (by omega),JL];have:ig s (i:Int)=((s.data.getD i 0).toNat:Int):=rfl;rw[this];cases d:p ((s.data.getD i 0).toNat:Int)with
  |true=>
   simp only[cond_true];rw[JM p s H g h1 h2 k (i+1) (by omega)];grind
  |false=>rfl
theorem YwP(s:ByteArray)(h:s.size<1000000):LR f_ s=U ((iO lw (bl s):Nat):Int):=by
 unfold LR;have:Qj f_ (s,0)=U ((iO lw (bl s):Nat):Int):=by
  have:=JM (step:=Ie f_) lw s h id (λi H=>by
   simp only[Ie,YwO,h_,jZ i (by omega)];rw[cT _ _ (by omega),d_ _ (by omega)];grind) (by simp only[Ie];simp) s.size 0 (by omega)
  rw[vM,mD]at this;trivial
 simp_all
theorem Yqe(s:ByteArray)(h:s.size<1000000):Dm f_ s=U ((iO dg (bl s):Nat):Int):=by
 unfold Dm;have:Qk f_ (s,0)=U ((iO dg (bl s):Nat):Int):=by
  have:=JM (step:=If f_) dg s h id (λi H=>by
   simp only[If,JJ,h_,jZ i (by omega)];rw[cT _ _ (by omega),d_ _ (by omega)];grind) (by simp only[If];simp) s.size 0 (by omega)
  rw[vM,mD]at this;trivial
 simp_all
theorem YwQ(s:ByteArray)(h:s.size<1000000):T9 f_ (s,0)=U ((iO lw (bl s):Nat):Int):=by
 have:=JM (step:=Jj f_) lw s h id (λi H=>by
  simp only[Jj,Vf,JK,h_,jZ i (by omega),lw];rw[cT _ _ (by omega),d_ _ (by omega),d_ _ (by omega)];grind) (by simp only[Jj];simp) s.size 0 (by omega)
 rw[vM,mD]at this;trivial
theorem Vh(s:ByteArray)(h:s.size<1000000)(h1:1<=s.size):Jl f_ (s,1)=U ((1+iO dg ((bl s).drop 1):Nat):Int):=by
 have:=JM (step:=Jk f_) dg s h id (λi H=>by
  simp only[Jk,JK,h_,jZ i (by omega)];rw[cT _ _ (by omega),d_ _ (by omega)];grind) (by simp only[Jk];simp) (s.size-1) 1 (by omega)
 trivial
def sY(s:ByteArray):Bool:= !decide (s=jw)&& (!decide ((24:Int)< (s.size:Int))&& (!decide (s=Eh)&& (lt (ig s 0)&& !mB (λm=> !lw (ig s m)) s.size 0)))
theorem YwR(s:ByteArray)(h:s.size<=24):Qo f_ (s,(s.size:Int),0)=U (bif mB (λm=> !lw (ig s m)) s.size 0 then .inl zj else .inr ()):=by
 rw[<-U5 (b:=zj)];refine Eg (λn=>(s,(s.size:Int),(n:Int))) _ s.size _ rfl ?_ (λn hn=> ?_)
 .simp[LW]
 .simp only[LW,JI,JJ,h_,jZ n (by omega)];rw[cT _ _ (by omega),d_ _ (by omega),d_ _ (by omega)];unfold lw;grind
theorem YwS(s:ByteArray)(h:s.size<=24):T_ f_ (s,0)=U (bif mB (λm=> !lw (ig s m)) s.size 0 then .inl zj else .inr ()):=by
 rw[<-U5 (b:=zj)];refine Eg (λn=>(s,(n:Int))) _ s.size _ rfl ?_ (λn hn=> ?_)
 .simp[Mw]
 .simp only[Mw,Vf,JK,h_,jZ n (by omega)];rw[cT _ _ (by omega),d_ _ (by omega),d_ _ (by omega)];unfold lw;grind
theorem YwT(s:ByteArray):LX f_ s=U (sY s):=by
 unfold LX sY;by_cases h1:s=a_ #[]
 .have:s=jw:=h1;simp_all
 .have H: ¬s=jw:=h1;have z:s.size≠0:=λh=>h1 ((U9 s).1 h);rw[cF _ _ h1,decide_eq_false H];by_cases h2:(24:Int)< (s.size:Int)
  .simp_all
  .rw[cF _ _ h2,decide_eq_false h2];by_cases h3:s=a_ #[110,117,108,108]
   .have:s=Eh:=h3;simp_all
   .have d: ¬s=Eh:=h3;rw[cF _ _ h3,decide_eq_false d,d_ _ (by omega),JI,h_];cases lt (ig s 0)with
    |false=>rfl
    |true=>
     rw[YwR s (by omega),h_];cases mB (λm=> !lw (ig s m)) s.size 0<;>rfl
theorem YwU(s:ByteArray):Mx f_ s=U (sY s):=by
 unfold Mx sY;by_cases h1:s=a_ #[]
 .have:s=jw:=h1;simp_all
 .have H: ¬s=jw:=h1;have z:s.size≠0:=λh=>h1 ((U9 s).1 h);rw[cF _ _ h1,decide_eq_false H];by_cases h2:(24:Int)< (s.size:Int)
  .simp_all
  .rw[cF _ _ h2,decide_eq_false h2,d_ _ (by omega),JK,h_];have N:dg (ig s 0)=zZ->lt (ig s 0)=false:=by
    unfold dg lt;grind
   cases hd:dg (ig s 0)with
   |true=>simp_all
   |false=>
    by_cases h3:s=a_ #[110,117,108,108]
    .have:s=Eh:=h3;simp_all
    .have d: ¬s=Eh:=h3;rw[cF _ _ h3,decide_eq_false d,YwS s (by omega),h_];cases g:mB (λm=> !lw (ig s m)) s.size 0 with
     |true=>cases lt (ig s 0)<;>rfl
     |false=>
      have:lt (ig s 0)=true:=by
       cases hl:lt (ig s 0)with
       |true=>rfl
       |false=>
        have:mB (λm=> !lw (ig s m)) s.size 0=true:=pI.2 ⟨0,by omega,by omega,by
         unfold lw;simp_all⟩
        simp_all
      rw[this];rfl
def kF(s:ByteArray):Bool:=ku.any λx=>decide (s=x)
theorem En{α:Type}(p:α->Bool)(d:α): ∀(l:List α) (A:List α),mB (λm=>p ((A++l).getD m d)) l.length A.length=l.any p
 | [],A=>rfl
 |x::l,A=>by
  have h:=En p d l (A++[x]);have e:A++[x]++l=A++x::l:=by simp
  rw[e,nV,qG]at h;simp only[pL,mB,List.any_cons,h];simp
theorem Ng(l:List ByteArray)(hl:l.length<1000000)(v:ByteArray):zG f_ l v=U (vJ (λm=>decide (v=l.getD m (a_ #[]))) l.length 0):=by
 have:Qn f_ (l,v,(l.length:Int),0)=U (qO (R:=Int⊕Unit) (λm=>bif decide (v=l.getD m (a_ #[]))then U (.inl (m:Int))else zz) l.length 0 (.inr ())):=by
  refine Eg (λn=>(l,v,(l.length:Int),(n:Int))) _ l.length _ rfl ?_ (λn hn=> ?_)
  .simp[LU]
  .simp only[LU,mN,jZ n (by omega)];rw[cT _ _ (by omega),d_ _ (by omega)];grind
 unfold zG vJ;rw[this,h_];cases qO (R:=Int⊕Unit) (λm=>bif decide (v=l.getD m (a_ #[]))then U (.inl (m:Int))else zz) l.length 0 (.inr ())<;>rfl
theorem YwV(l:List ByteArray)(hl:l.length<1000000)(v:ByteArray):LV f_ l v=U (l.any λx=>decide (v=x)):=by
 unfold LV;rw[Ng l hl,h_,Yp1];exact congrArg U (En (λx=>decide (v=x)) (a_ #[]) l [])
def vK:List ByteArray:=[(a_ #[45,62]),(a_ #[45,62,62]),(a_ #[126,62]),(a_ #[60,61]),(a_ #[33,61]),(a_ #[40]),(a_ #[41]),(a_ #[123]),(a_ #[125]),(a_ #[91]),(a_ #[93]),(a_ #[44]),(a_ #[58]),(a_ #[59]),(a_ #[46]),(a_ #[61]),(a_ #[60]),(a_ #[42]),(a_ #[47]),(a_ #[124])]
theorem YwW:(vK.all kF&&ku.all λx=>vK.any λy=>decide (x=y))=true:=by rfl
theorem YwX(s:ByteArray):(vK.any λx=>decide (x=s))=kF s:=by
 have h:=YwW;apply Bool.eq_iff_iff.2;constructor
 .simp_all
 .intro e;obtain⟨x,H,e⟩:=uK.1 e;simp_all
theorem Yqf(s:ByteArray):Ji f_ s=U (kF s):=by
 have:T7 f_ (s,vK,0)=U (bif mB (λm=>decide (vK.getD m (a_ #[])=s)) vK.length 0 then .inl zZ else .inr ()):=by
  rw[<-U5 (b:=zZ)];refine Eg (λn=>(s,vK,(n:Int))) _ vK.length _ rfl ?_ (λn hn=> ?_)
  .rfl
  .have:vK.length=20:=rfl;simp only[T6,mN,jZ n (by omega)];rw[cT _ _ (by omega),d_ _ (by omega)];grind
 unfold Ji T4;rw[h_];rw[show([(a_ #[45,62]),(a_ #[45,62,62]),(a_ #[126,62]),(a_ #[60,61]),(a_ #[33,61]),(a_ #[40]),(a_ #[41]),(a_ #[123]),(a_ #[125]),(a_ #[91]),(a_ #[93]),(a_ #[44]),(a_ #[58]),(a_ #[59]),(a_ #[46]),(a_ #[61]),(a_ #[60]),(a_ #[42]),(a_ #[47]),(a_ #[124])]:List ByteArray)=vK from rfl,this,h_];rw[show mB (λm=>decide (vK.getD m (a_ #[])=s)) vK.length 0=kF s from(En (λx=>decide (x=s)) (a_ #[]) vK []).trans (YwX s)];cases kF s<;>rfl
def qQ(s:ByteArray):Int×Int×ByteArray×Int:=(Du f_ s).getD (0,0,jw,2)
theorem YwY(s:ByteArray)(H:s.size<1000000):Du f_ s=U (qQ s):=by
 obtain⟨r,h,_⟩:=Ve s H;unfold qQ;simp_all
theorem Yqg(s:ByteArray)(H:s.size<1000000):Ea f_ s=U (qQ s):=by
 obtain⟨r,h,d,_⟩:=Ve s H;unfold qQ;simp_all
theorem Vi(s:ByteArray)(H:s.size<1000000):PV s (qQ s):=by
 obtain⟨r,h,_,d⟩:=Ve s H;unfold qQ;simp_all
theorem YwZ:qQ jw=(0,0,jw,2):=by
 rfl
theorem Yw0:(ku.all λx=> !sY x&& !decide (x=jw))=true:=by rfl
theorem Yqh{s:ByteArray}(h:kF s=zZ):sY s=zj/\s≠jw:=by
 obtain⟨x,H,e⟩:=uK.1 h;have:=ly.1 Yw0 x H;simp_all
def oP(s:ByteArray):Option (Int×Int×Int×ByteArray):=
 bif kF s then U (3,0,0,jw)else bif sY s then U (1,0,0,jw)else bif decide ((qQ s).2.2.2=0)then U (2,(qQ s).1,(qQ s).2.1,(qQ s).2.2.1)else zz
theorem Yw1(s:ByteArray)(k:s.size<1000000): ∃a b c d,L4 f_ s=U (a,s,b,c,d,0,0,(oP s).isSome)/\ ∀t,oP s=U t->t=(a,b,c,d):=by
 unfold L4 oP;by_cases h0:s=a_ #[]
 .have H:s=jw:=h0;rw[cT _ _ h0];have g:kF s=false:=by cases h:kF s with|false=>rfl|true=>exact absurd H (Yqh h).2
  have hn:sY s=false:=by unfold sY;simp_all
  rw[g,hn,H,YwZ];simp
 .rw[cF _ _ h0,YwV ku (by decide),h_,YwT,YwY s k,h_,h_];show∃a b c d,(bif kF s then _ else _)=_/\_;cases kF s with
  |true=>exact⟨_,_,_,_,rfl,λt h=>by injection h with h;exact h.symm⟩
  |false=>
   cases sY s with
   |true=>exact⟨_,_,_,_,rfl,λt h=>by injection h with h;exact h.symm⟩
   |false=>
    refine⟨2,(qQ s).1,(qQ s).2.1,(qQ s).2.2.1,?_,λt h=> ?_⟩
    .grind
    grind
theorem Yw2(s:ByteArray)(h:s.size<1000000):My f_ s=U (match oP s with|some t=>(t.1,s,t.2.1,t.2.2.1,t.2.2.2,0,0,zZ)|none=>(0,jw,0,0,jw,0,0,zj)):=by
 unfold My oP;rw[YwU,h_,Yqf,h_,Yqg s h,h_];cases h1:kF s with
 |true=>rw[(Yqh h1).1];rfl
 |false=>
  cases sY s with
  |true=>rfl
  |false=>
   generalize qQ s=q;obtain⟨a,b,c,d⟩:=q;dsimp only;cases decide (d=0)<;>rfl
end
end Go.Abs.iA
namespace Go.Abs.iA
open Go Go.Abs
noncomputable section
set_option maxRecDepth 100000
theorem Yw3(s:ByteArray)(H:s.size<1000000): ∀(k i:Nat),s.size-i<=k->(∃n:Nat,sJ f_ (s,(i:Int))=U (.inl (n:Int))/\n<=s.size/\0<n)\/sJ f_ (s,(i:Int))=U (.inr ()):=by
 intro k;induction k with
 |zero=>
  intro i h;refine .inr ?_;show lY (uz f_) _=_;rw[jz];simp only[uz];grind
 |succ k I=>
  intro i h;by_cases d:i<s.size
  .have st:sJ f_ (s,(i:Int))=_:=jz (uz f_) (s,(i:Int));simp only[uz,jZ i (by omega)]at st;rw[cT _ _ (by omega),d_ _ (by omega)]at st;by_cases h1:ig s i=92
   .rw[cT _ _ h1,jZ (i+1) (by omega)]at st;rcases I (i+1+1) (by omega)with⟨n,e,e'⟩|e
    .exact .inl ⟨n,st.trans e,e'⟩
    .exact .inr (st.trans e)
   .rw[cF _ _ h1]at st;by_cases h2:ig s i=34
    .rw[cT _ _ h2]at st;exact .inl ⟨i+1,st,by omega,by omega⟩
    .rw[cF _ _ h2]at st;rcases I (i+1) (by omega)with⟨n,e,e'⟩|e
     .exact .inl ⟨n,st.trans e,e'⟩
     .exact .inr (st.trans e)
  .refine .inr ?_;show lY (uz f_) _=_;rw[jz];simp only[uz];grind
theorem Yw4(s:ByteArray)(h:s.size<1000000): ∃n:Nat,xA f_ s=U (n:Int)/\n<=s.size:=by
 unfold xA;rcases Yw3 s h s.size 1 (by omega)with⟨n,e,e',_⟩|e
 .have e:sJ f_ (s,1)=U (.inl (n:Int)):=e;rw[e];exact⟨n,rfl,e'⟩
 .have e:sJ f_ (s,1)=U (.inr ()):=e;rw[e];exact⟨0,rfl,by omega⟩
theorem Vj(A R:List UInt8)(x:UInt8)(hl:A.length+R.length<900000)(h1:x.toNat≠92)(h2:x.toNat≠34):
  sJ f_ (BA (A++x::R),(A.length:Int))=sJ f_ (BA (A++x::R),((A.length+1:Nat):Int)):=by
 have h:ig (BA (A++x::R)) (A.length:Int)=(x.toNat:Int):=by rw[rR,M_]
 have H:((BA (A++x::R)).size:Int)=A.length+R.length+1:=by rw[mQ];grind
 have st:sJ f_ (BA (A++x::R),(A.length:Int))=_:=jz (uz f_) _;simp only[uz,jZ A.length (by omega),h]at st;rw[cT _ _ (by omega),d_ _ (by omega),cF _ _ (by omega),cF _ _ (by omega)]at st;exact st
theorem Vk(A R:List UInt8)(x:UInt8)(hl:A.length+R.length<900000):
  sJ f_ (BA (A++92::x::R),(A.length:Int))=sJ f_ (BA (A++92::x::R),((A.length+2:Nat):Int)):=by
 have h:ig (BA (A++92::x::R)) (A.length:Int)=92:=by rw[rR,M_];rfl
 have H:((BA (A++92::x::R)).size:Int)=A.length+R.length+2:=by rw[mQ];grind
 have st:sJ f_ (BA (A++92::x::R),(A.length:Int))=_:=jz (uz f_) _;simp only[uz,jZ A.length (by omega),h,jZ (A.length+1) (by omega)]at st;rw[cT _ _ (by omega),d_ _ (by omega),cT _ _ (by trivial)]at st;exact st
theorem Yqi(R:List UInt8): ∀(v A:List UInt8),A.length+4*v.length+R.length<800000->
  sJ f_ (BA (A++(qL v++34::R)),(A.length:Int))=U (.inl ((A.length+(qL v).length+1:Nat):Int))
 | [],A,h=>by
   have q:ig (BA (A++34::R)) (A.length:Int)=34:=by rw[rR,M_];rfl
   have z:((BA (A++34::R)).size:Int)=A.length+R.length+1:=by rw[mQ];grind
   have st:sJ f_ (BA (A++34::R),(A.length:Int))=_:=jz (uz f_) _;simp only[uz,jZ A.length (by omega),q]at st;rw[cT _ _ (by omega),d_ _ (by omega),cF _ _ (by decide),cT _ _ (by trivial)]at st;exact st
 |c::v,A,h=>by
  have B:=JB (F3 c);have hl:=BI v;simp at h;have I:=Yqi R v (A++qP c.toNat) (by grind);have d:(qL v++34::R).length<=4*v.length+1+R.length:=by grind
  have step: ∀(T:List UInt8),T.length<=4*v.length+1+R.length->sJ f_ (BA (A++(qP c.toNat++T)),(A.length:Int))=sJ f_ (BA (A++(qP c.toNat++T)),((A.length+(qP c.toNat).length:Nat):Int)):=by
   intro T hT;have H:=F3 c;generalize qP c.toNat=p at H⊢;cases H with
   |a x h1 h2 h3=>
    exact Vj A T x (by omega) h1 h2
   |n h1=>
    exact Vk A T 110 (by omega)
   |b x h1 h2 h3=>
    exact Vk A T x (by omega)
   |x g l x y h1 h2 h3 h4 h5 h6 h7 h8 w k=>
    have s1:=Vk A (g::l::T) 120 (by grind);have s2:=Vj (A++[92,120]) (l::T) g (by grind) h7 h8;have s3:=Vj (A++[92,120,g]) T l (by grind) w k;grind
  have e:A++qP c.toNat++(qL v++34::R)=A++(qP c.toNat++(qL v++34::R)):=by simp
  have e':qL (c::v)++34::R=qP c.toNat++(qL v++34::R):=by rw[Na];simp
  rw[e,nV]at I;rw[e',step _ d,I,Na,nV];grind
theorem Yw5(v:ByteArray)(H:v.size<=200)(R:List UInt8)(d:R.length<700000):xA f_ (BA (bl (oN v)++R))=U ((oN v).size:Int):=by
 have h:=Yqi R (bl v) [34] (by rw[oZ];grind);unfold xA;have e:bl (oN v)++R=[34]++(qL (bl v)++34::R):=by unfold oN;rw[BF];simp
 rw[e,show(1:Int)=(([34]:List UInt8).length:Int)from rfl,h,h_,wC];unfold oN;rw[mQ];grind
theorem Nh(s:ByteArray)(n:Nat):s.extract 0 n=BA ((bl s).take n):=by
 rw[<-uC s,wB,BF];rfl
theorem Yqj(s:ByteArray)(n:Nat)(h:n<=s.size):(s.extract 0 n).size=n:=by simp_all
theorem Vl(s:ByteArray)(n i:Nat)(h:i<n)(hn:n<=s.size):ig (s.extract 0 n) (i:Int)=ig s (i:Int):=by
 rw[Nh,rR,vW,oU];simp only[h,if_true];rw[<-vW,<-rR,uC]
theorem Yw6(s:ByteArray)(n:Nat):s=BA (bl (s.extract 0 n)++(bl s).drop n):=by
 rw[Nh,BF,List.take_append_drop,uC]
theorem JN{v:Int×Int×ByteArray}(g:vB v=zZ)(h:ig (kx v) 0=34):v.1=2/\v.2.1=0/\v.2.2.size<=200/\kx v=oN v.2.2:=by
 obtain⟨a,b,c⟩:=v;rcases F5 g with⟨rfl,rfl,rfl⟩| ⟨rfl,rfl⟩| ⟨rfl,rfl,H⟩| ⟨rfl,k,rfl⟩
 .trivial
 .obtain⟨d,r,e,hd⟩:=U2 b;rw[z_,yn,e]at h;have:=rR (d::r) 0;grind
 .exact⟨rfl,rfl,H,Aa H⟩
 .rw[xH k]at h;have:=rR (63::Lib.itoa b) 0;simp_all
theorem Yw7:(ku.all λx=> !decide (ig x 0=34)&& !lw (ig x 0))=true:=by rfl
theorem Yw8{s:ByteArray}(h:kF s=zZ):ig s 0≠34/\lw (ig s 0)=false:=by
 obtain⟨x,H,e⟩:=uK.1 h;have:=ly.1 Yw7 x H;simp_all
theorem Yqk:oP jw=none:=by
 rfl
theorem Yw9(s:ByteArray)(h:ig s 0=34):oP s=bif decide ((qQ s).2.2.2=0)then U (2,(qQ s).1,(qQ s).2.1,(qQ s).2.2.1)else none:=by
 have H:kF s=false:=by cases e:kF s with|false=>rfl|true=>exact absurd h (Yw8 e).1
 have hn:sY s=false:=by
  unfold sY;rw[h,show lt 34=zj from rfl];simp
 unfold oP;simp_all
def Ab(s:ByteArray):Bool:=decide ((qQ s).2.2.2=0)
theorem Yxa(s:ByteArray)(H:s.size<500000)(h1:1<=s.size):A5 f_ (s,2)=U (qO (R:=Int⊕Unit) (λn=>bif decide (ig s ((n+1:Nat):Int)=34)&&Ab (s.extract 0 (n+2))then U (.inl ((n+2:Nat):Int))else zz) (min s.size 802-1) 0 (.inr ())):=by
 refine Eg (λn=>(s,((n+2:Nat):Int))) _ _ _ rfl ?_ (λn hn=> ?_)
 .simp only[Mv];grind
 .have E:g_ .i64 (((n+2:Nat):Int)-1)=((n+1:Nat):Int):=by rw[lf (by omega) (by omega)];omega
  simp only[Mv,E,jZ (n+2) (by omega),mN];rw[cT _ _ (by omega),cT _ _ (by omega),d_ _ (by omega)];by_cases h:ig s ((n+1:Nat):Int)=34
  .rw[cT _ _ h,d_ _ (by omega),Yqg _ (by rw[ByteArray.size_extract];omega),h_,decide_eq_true h,Bool.true_and];show(bif Ab (s.extract 0 (n+2))then _ else _)=_;grind
  grind
theorem Yxb(s:ByteArray)(Q:s.size<500000)(h1:1<=s.size)(q:ig s 0=34): ∃n m:Nat,n<=s.size/\m<=s.size/\xA f_ s=U (n:Int)/\
  (d' (A5 f_ (s,2)) λy=>iV y (λz=>U z) (λ_=>U 0))=U (m:Int)/\oP (s.extract 0 n)=oP (s.extract 0 m)/\ (oP (s.extract 0 n)≠zz->m=n):=by
 obtain⟨n,hn,d⟩:=Yw4 s (by omega);have G: ∀k:Nat,1<=k->k<=s.size->Ab (s.extract 0 k)=zZ->k=n/\k<=802/\2<=k/\ig s ((k-1:Nat):Int)=34:=by
  intro k D w H;rcases Vi (s.extract 0 k) (by rw[ByteArray.size_extract];omega)with⟨v,F,R,V,E⟩| ⟨F,_⟩
  .have S:ig (kx v) 0=34:=by
    rw[E];exact(Vl s k 0 (by omega) w).trans q
   obtain⟨_,_,A,I⟩:=JN R S;have B:=Yw6 s k;rw[<-E,I]at B;have C:=Yw5 v.2.2 A ((bl s).drop k) (by rw[List.length_drop,oZ];omega);rw[<-B,hn]at C;have J:(oN v.2.2).size=k:=by rw[<-I,E,Yqj s k w]
   have h3:(n:Int)=((oN v.2.2).size:Int):=Option.some.inj C;have h4:=Ywx v.2.2;have L:2<=k:=by rw[<-J];unfold oN;rw[mQ];simp
   refine⟨by omega,by omega,L,?_⟩;rw[<-Vl s k (k-1) (by omega) w,<-E,I];unfold oN;rw[rR];have M:k-1=(34::qL (bl v.2.2)).length:=by
    unfold oN at J;rw[mQ]at J;grind
   rw[M,show(34::(qL (bl v.2.2)++[34]):List UInt8)=(34::qL (bl v.2.2))++34::[] by simp,M_];rfl
  .unfold Ab at H;simp_all
 have W: ∀k:Nat,1<=k->k<=s.size->Ab (s.extract 0 k)=zj->oP (s.extract 0 k)=none:=by
  intro k D w H;rw[Yw9 _ ((Vl s k 0 (by omega) w).trans q)];unfold Ab at H;simp_all
 have Z:s.extract 0 0=jw:=by rw[Nh];rfl
 rw[Yxa s Q h1,h_];rcases U4 (f:=λk=>bif decide (ig s ((k+1:Nat):Int)=34)&&Ab (s.extract 0 (k+2))then U (.inl ((k+2:Nat):Int))else zz) (r0:=(.inr ():Int⊕Unit)) (min s.size 802-1) 0 with⟨k,r,O,P,K,T⟩| ⟨O,P⟩
 .rw[T];cases A:(decide (ig s ((k+1:Nat):Int)=34)&&Ab (s.extract 0 (k+2)))with
  |false=>grind
  |true=>
   rw[A]at K;injection K with K;subst K
   rw[iI]at A;obtain⟨g,_⟩:=G (k+2) (by omega) (by omega) A.2;exact⟨n,n,d,d,hn,by rw[<-g];rfl,rfl,λ_=>rfl⟩
 .rw[O];refine⟨n,0,d,by omega,hn,rfl,?_,λh=> ?_⟩
  all_goals
   have p:oP (s.extract 0 n)=none:=by
    by_cases N:n=0
    .rw[N,Z];exact Yqk
    .cases H:Ab (s.extract 0 n)with
     |false=>grind
     |true=>
      obtain⟨_,g2,g3,g4⟩:=G n (by omega) d H;have:=P (n-2) (by omega) (by omega);have F:n-2+1=n-1:=by omega
      have E:n-2+2=n:=by omega
      simp only[F,E]at this;rw[decide_eq_true g4,H]at this;cases this
  .rw[p,Z];rfl
  trivial
end
end Go.Abs.iA
namespace Go.Abs.iA
open Go Go.Abs
noncomputable section
set_option maxRecDepth 100000
theorem Yql{R:Type}{f:Nat->Option R}{r0:R}: ∀(k n:Nat),(∃m r,n<=m/\m<n+k/\f m=U r/\qO f k n r0=r/\ ∀j,n<=j->j<m->f j=zz)\/(qO f k n r0=r0/\ ∀m,n<=m->m<n+k->f m=zz)
 |0,n=>.inr ⟨rfl,λm h1 h2=>by omega⟩
 |k+1,n=>by
  simp only[qO];cases h:f n with
  |some r=>grind
  |none=>
   rcases Yql (f:=f) (r0:=r0) k (n+1)with⟨m,r,h1,h2,h3,h4,h5⟩| ⟨h1,h2⟩
   .grind
   grind
def Eo(s x:ByteArray):Bool:=decide (x.size<=s.size)&&decide (s.extract 0 x.size=x)
theorem Yxc(s x:ByteArray):LS f_ s x=U (Eo s x):=by
 unfold LS Ql Eo;by_cases h:(x.size:Int)<=(s.size:Int)
 .rw[cT _ _ h,d_ _ (by omega),h_,decide_eq_true (by omega:x.size<=s.size),mN];rfl
 grind
def fS(s:ByteArray)(n:Nat):Option (ByteArray⊕Unit):=bif Eo s (ku.getD n (a_ #[]))then U (.inl (ku.getD n (a_ #[])))else zz
theorem Yxd(s:ByteArray):AY f_ (s,(a_ #[45,62,62]),(a_ #[45,62]),(a_ #[126,62]),(a_ #[60,61]),(a_ #[33,61]),(a_ #[40]),(a_ #[41]),(a_ #[123]),(a_ #[125]),(a_ #[91]),(a_ #[93]),(a_ #[44]),(a_ #[58]),(a_ #[59]),(a_ #[46]),(a_ #[61]),(a_ #[60]),(a_ #[42]),(a_ #[47]),(a_ #[124]),0)=U (qO (fS s) 20 0 (.inr ())):=by
 refine Eg (λn=>(s,(a_ #[45,62,62]),(a_ #[45,62]),(a_ #[126,62]),(a_ #[60,61]),(a_ #[33,61]),(a_ #[40]),(a_ #[41]),(a_ #[123]),(a_ #[125]),(a_ #[91]),(a_ #[93]),(a_ #[44]),(a_ #[58]),(a_ #[59]),(a_ #[46]),(a_ #[61]),(a_ #[60]),(a_ #[42]),(a_ #[47]),(a_ #[124]),(n:Int))) (fS s) 20 _ rfl rfl (λn hn=> ?_);simp only[Qm,mN,jZ n (by omega),Yxc,h_];rw[cT _ _ (by omega),d_ _ (by omega)];unfold fS ku;grind
def tT(s:ByteArray):Nat->Nat
 |0=>0
 |k+1=>bif kF (s.extract 0 (k+1))then k+1 else tT s k
theorem Yqm(s:ByteArray): ∀k,tT s k<=k
 |0=>jG _
 |k+1=>by
  unfold tT;cases kF (s.extract 0 (k+1))with
  |true=>simp
  |false=>exact Nat.le_succ_of_le (Yqm s k)
theorem Yqn(s:ByteArray)(k:Nat)(H:1<=k)(h:kF (s.extract 0 k)=zZ): ∀n,k<=n->(∀j,k<j->j<=n->kF (s.extract 0 j)=zj)->tT s n=k
 |0,h1,_=>by omega
 |n+1,h1,h2=>by
  unfold tT;by_cases e:n+1=k
  .simp_all
  .rw[h2 (n+1) (by omega) (jG _)];exact Yqn s k H h n (by omega) (λj a b=>h2 j a (by omega))
theorem Yqo(s:ByteArray): ∀n,(∀j,1<=j->j<=n->kF (s.extract 0 j)=zj)->tT s n=0
 |0,_=>rfl
 |n+1,h=>by
  unfold tT;rw[h (n+1) (by omega) (jG _)];exact Yqo s n (λj a b=>h j a (by omega))
theorem Yqp(s:ByteArray)(H:s.size<1000000): ∀n:Nat,n<=s.size->zW f_ (s,(n:Int))=U ((tT s n:Nat):Int)
 |0,h=>by
  show lY (Jm f_) _=_;rw[jz];rfl
 |n+1,h=>by
  have st:zW f_ (s,((n+1:Nat):Int))=_:=jz (Jm f_) _;have E:g_ .i64 (((n+1:Nat):Int)-1)=(n:Int):=by rw[lf (by omega) (by omega)];omega
  simp only[Jm,E,mN,Yqf,h_]at st;rw[cT _ _ (by omega),d_ _ (by omega)]at st;rw[st];unfold tT;cases kF (s.extract 0 (n+1))with
  |true=>rfl
  |false=>exact Yqp s H n (by omega)
theorem Yxe:((List.range 20).all λi=>iS 1 (ku.getD i (a_ #[])).size&& (iS (ku.getD i (a_ #[])).size 3&& (List.range 20).all λj=> !iS i j||iS (ku.getD j (a_ #[])).size (ku.getD i (a_ #[])).size))=true:=by rfl
theorem Yxf(i:Nat)(H:i<20):1<=(ku.getD i (a_ #[])).size/\ (ku.getD i (a_ #[])).size<=3/\ ∀j,i<=j->j<20->(ku.getD j (a_ #[])).size<=(ku.getD i (a_ #[])).size:=by
 have h:=ly.1 Yxe i (tX.2 H);simp only[iI]at h;refine⟨l9 h.1,l9 h.2.1,λj h1 h2=> ?_⟩;have:=ly.1 h.2.2 j (tX.2 h2);rw[qi h1]at this;simp_all
theorem Yqq{s:ByteArray}(h:kF s=zZ): ∃i,i<20/\ku.getD i (a_ #[])=s:=by
 obtain⟨x,H,e⟩:=uK.1 h;obtain⟨i,d,E⟩:=List.getElem_of_mem H;refine⟨i,d,?_⟩;simp_all
theorem Yxg(i:Nat)(h:i<20):kF (ku.getD i (a_ #[]))=true:=by
 refine uK.2 ⟨ku.getD i (a_ #[]),Ywp h,decide_eq_true rfl⟩
theorem Yxh(s:ByteArray):(match qO (fS s) 20 0 (.inr ())with| .inl x=>x| .inr _=>a_ #[])=s.extract 0 (tT s (min 3 s.size)):=by
 have d: ∀j,j<20-> ∀k,k<=s.size->ku.getD j (a_ #[])=s.extract 0 k->fS s j≠none:=by
  intro j H k w e h;unfold fS at h;have:Eo s (ku.getD j (a_ #[]))=true:=by
   unfold Eo;simp_all
  simp_all
 rcases Yql (f:=fS s) (r0:=.inr ()) 20 0 with⟨m,r,h1,h2,h3,h4,h5⟩| ⟨h1,h2⟩
 .unfold fS at h3;cases p:Eo s (ku.getD m (a_ #[]))with
  |false=>simp_all
  |true=>
   rw[p]at h3;injection h3 with h3;subst h3
   unfold Eo at p;rw[iI,decide_eq_true_eq,decide_eq_true_eq]at p;obtain⟨z,Z,y⟩:=Yxf m (by omega);have hd:tT s (min 3 s.size)=(ku.getD m (a_ #[])).size:=by
    refine Yqn s _ z (by rw[p.2];exact Yxg m (by omega)) _ (by omega) (λj J g=> ?_);cases H:kF (s.extract 0 j)with
    |false=>rfl
    |true=>
     obtain⟨i,q,e⟩:=Yqq H;have A:(ku.getD i (a_ #[])).size=j:=by rw[e,Yqj s j (by omega)]
     grind
   simp_all
 .rw[h1];have hd:tT s (min 3 s.size)=0:=Yqo s _ (λj J g=>by
   cases H:kF (s.extract 0 j)with
   |false=>rfl
   |true=>
    obtain⟨i,q,e⟩:=Yqq H;grind)
  rw[hd,Nh];rfl
theorem Yxi(s:ByteArray)(E:s.size<500000)(h1:1<=s.size): ∃n m:Nat,n<=s.size/\m<=s.size/\FC f_ s=U (s.extract 0 n)/\FQ f_ s=U (m:Int)/\
  oP (s.extract 0 n)=oP (s.extract 0 m)/\ (oP (s.extract 0 n)≠zz->m=n):=by
 have G:(0:Int)<=0/\ (0:Int)< (s.size:Int):=by omega
 have A:bl s=s.data.getD 0 0::(bl s).drop 1:=JA s 0 (by omega);have I:ig s 0=((s.data.getD 0 0).toNat:Int):=rfl;have g:((bl s).drop 1).length=s.size-1:=by rw[List.length_drop,oZ]
 have F: ∀n:Nat,n<=s.size->FC f_ s=U (s.extract 0 n)->FQ f_ s=U (n:Int)-> ∃n m:Nat,n<=s.size/\m<=s.size/\FC f_ s=U (s.extract 0 n)/\FQ f_ s=U (m:Int)/\oP (s.extract 0 n)=oP (s.extract 0 m)/\ (oP (s.extract 0 n)≠zz->m=n):=
  λn hn a b=>⟨n,n,hn,hn,a,b,rfl,λ_=>rfl⟩
 have d:(d' (AY f_ (s,(a_ #[45,62,62]),(a_ #[45,62]),(a_ #[126,62]),(a_ #[60,61]),(a_ #[33,61]),(a_ #[40]),(a_ #[41]),(a_ #[123]),(a_ #[125]),(a_ #[91]),(a_ #[93]),(a_ #[44]),(a_ #[58]),(a_ #[59]),(a_ #[46]),(a_ #[61]),(a_ #[60]),(a_ #[42]),(a_ #[47]),(a_ #[124]),0)) λy=>iV y (λz=>U z) (λ_=>U (a_ #[])))=U (s.extract 0 (tT s (min 3 s.size))):=by
  rw[Yxd,h_,<-Yxh];cases qO (fS s) 20 0 (.inr ())<;>rfl
 have H:(d' (zW f_ (s,(min (3:Int) (s.size:Int)))) λy=>U y)=U ((tT s (min 3 s.size):Nat):Int):=by
  have e:min (3:Int) (s.size:Int)=((min 3 s.size:Nat):Int):=by omega
  rw[e,Yqp s (by omega) (min 3 s.size) (by omega),h_]
 have k:tT s (min 3 s.size)<=s.size:=nu (Yqm s _) (by omega);have J:iO dg ((bl s).drop 1)<=s.size-1:=by rw[<-g];exact Vg dg _
 have B:(s.extract 1 (s.size:Int).toNat).size<1000000:=by rw[ByteArray.size_extract];omega
 have C:bl (s.extract 1 (s.size:Int).toNat)=(bl s).drop 1:=Yqd s;unfold FC FQ at*
 rw[d_ _ G,JI,h_,d_ _ G,Vf,h_]at*
 cases hl:lt (ig s 0)with
 |true=>
  have D:=Vg lw (bl s);rw[oZ]at D;rw[hl]at F;simp only[cond_true,YwP s (by omega),YwQ s (by omega),h_]at F⊢;rw[d_ _ (by omega)]at F⊢;exact F (iO lw (bl s)) D (by rfl) (by first|rfl|exact d_ _ G)
 |false=>
  rw[hl]at F;simp only[cond_false,JJ,JK,h_]at F⊢;rw[d_ _ G]at F⊢;cases hd:dg (ig s 0)with
  |true=>
   rw[hd]at F;have e:iO dg (bl s)=1+iO dg ((bl s).drop 1):=by
    rw[A,JL,List.drop_succ_cons,vM,if_pos (by assumption)];omega
   simp only[cond_true,Yqe s (by omega),Vh s (by omega) h1,h_,e]at F⊢;rw[d_ _ (by omega)]at F⊢;exact F (1+iO dg ((bl s).drop 1)) (by omega) (by rfl) (by first|rfl|exact d_ _ G)
  |false=>
   rw[hd]at F;simp only[cond_false]at F⊢;rw[d_ _ G]at F⊢;have num: ∀(h2:(1:Int)< (s.size:Int)),(e_ ((0:Int)<=1/\ (1:Int)<=(s.size:Int)/\ (s.size:Int)<=(s.size:Int)) (d' (Dm f_ (s.extract 1 (s.size:Int).toNat)) λy=>e_ ((0:Int)<=0/\ (0:Int)<=g_ .i64 (1+y)/\g_ .i64 (1+y)<=(s.size:Int)) (U (s.extract 0 (g_ .i64 (1+y)).toNat))))=U (s.extract 0 (1+iO dg ((bl s).drop 1))):=by
    intro h2;have e:g_ .i64 (1+((iO dg ((bl s).drop 1):Nat):Int))=((1+iO dg ((bl s).drop 1):Nat):Int):=by rw[lf (by omega) (by omega)];omega
    rw[d_ _ (by omega),Yqe _ B,C,h_,e,d_ _ (by omega),mN]
   by_cases p:ig s 0=45
   .have h: ¬ig s 0=34:=by omega
    rw[cT _ _ p,cT _ _ p]at F⊢;rw[cF _ _ h]at F⊢;by_cases h2:(1:Int)< (s.size:Int)
    .have w:(0:Int)<=1/\ (1:Int)< (s.size:Int):=by omega
     rw[cT _ _ h2,cT _ _ h2,d_ _ w,d_ _ w]at F⊢;cases g:dg (ig s 1)with
     |true=>
      rw[g]at F;simp only[cond_true,num h2,Vh s (by omega) h1,h_]at F⊢;exact F (1+iO dg ((bl s).drop 1)) (by omega) (by rfl) (by first|rfl|exact d_ _ G)
     |false=>
      rw[g]at F;simp only[cond_false]at F⊢;rw[d_ _ G,cF _ _ h,d,H]at F⊢;exact F _ k rfl rfl
    .rw[cF _ _ h2,cF _ _ h2,d_ _ G,d,cF _ _ h,H]at F⊢;exact F _ k rfl rfl
   .rw[cF _ _ p,cF _ _ p]at F⊢;rw[d_ _ G]at F⊢;by_cases q:ig s 0=63
    .have h: ¬ig s 0=34:=by omega
     rw[cT _ _ q,cT _ _ q]at F⊢;by_cases h2:(1:Int)< (s.size:Int)
     .have w:(0:Int)<=1/\ (1:Int)< (s.size:Int):=by omega
      rw[cT _ _ h2,cT _ _ h2,d_ _ w,d_ _ w]at F⊢;cases g:dg (ig s 1)with
      |true=>
       rw[g]at F;simp only[cond_true,num h2,Vh s (by omega) h1,h_]at F⊢;exact F (1+iO dg ((bl s).drop 1)) (by omega) (by rfl) (by first|rfl|exact d_ _ G)
      |false=>
       rw[g]at F;simp only[cond_false]at F⊢;rw[d_ _ G,cF _ _ h,d,cF _ _ h,H]at F⊢;exact F _ k rfl rfl
     .rw[cF _ _ h2,cF _ _ h2,d_ _ G,cF _ _ h,d,cF _ _ h,H]at F⊢;exact F _ k rfl rfl
    .rw[cF _ _ q,cF _ _ q]at F⊢;rw[d_ _ G]at F⊢;by_cases h:ig s 0=34
     .rw[cT _ _ h,cT _ _ h];obtain⟨n,m,Q,K,L,M,N,O⟩:=Yxb s E h1 h;refine⟨n,m,Q,K,?_,M,N,O⟩;rw[L,h_,d_ _ (by omega),mN]
     .rw[cF _ _ h,d,cF _ _ h,H]at F⊢;exact F _ k rfl rfl
end
end Go.Abs.iA
namespace Go.Abs.iA
open Go Go.Abs
noncomputable section
set_option maxRecDepth 100000
theorem Yxj:(ku.all λx=>(bl x).all λc=> !im c.toNat 10)=true:=by rfl
theorem Yxk:((List.range 256).all λn=>(qP n).all λc=> !im c.toNat 10)=true:=by rfl
theorem Yxl(l:List UInt8):(10:UInt8)∉qL l:=by
 intro h;obtain⟨c,_,H⟩:=List.mem_flatMap.1 h;have:=ly.1 (ly.1 Yxk c.toNat (tX.2 c.toNat_lt)) _ H;trivial
theorem Yxm(u:Nat):(10:UInt8)∉dec u:=Ywk (by decide)
theorem Yqr(n:Int):(10:UInt8)∉Lib.itoa n:=by
 unfold Lib.itoa;have:=Yxm n.natAbs;grind
theorem Yxn{v:Int×Int×ByteArray}(H:vB v=zZ):(10:UInt8)∉bl (kx v):=by
 obtain⟨a,b,c⟩:=v;rcases F5 H with⟨rfl,rfl,rfl⟩| ⟨rfl,rfl⟩| ⟨rfl,rfl,d⟩| ⟨rfl,g,rfl⟩
 .trivial
 .exact Yqr b
 .rw[Aa d];intro h;rcases mT.1 h with e|e
  .trivial
  .rcases uE.1 e with e|e
   .exact Yxl _ e
   trivial
 .rw[xH g,BF];intro h;rcases mT.1 h with e|e
  .trivial
  .exact Yqr _ e
theorem Yxo{s:ByteArray}(g:s.size<1000000)(h:oP s≠zz):(10:UInt8)∉bl s:=by
 unfold oP at h;cases h1:kF s with
 |true=>
  obtain⟨x,k,e⟩:=uK.1 h1;rw[of_decide_eq_true e];intro H;have:=ly.1 (ly.1 Yxj x k) _ H;trivial
 |false=>
  cases h2:sY s with
  |true=>
   unfold sY at h2;intro H;obtain⟨i,d,e⟩:=List.getElem_of_mem H;rw[oZ]at d;have:mB (λm=> !lw (ig s m)) s.size 0=true:=pI.2 ⟨i,by omega,by omega,by
    have:ig s (i:Int)=10:=by
     rw[<-uC s,rR,vW,je (by rw[oZ];exact d),qu,e];rfl
    rw[this];rfl⟩
   simp_all
  |false=>
   rcases Vi s g with⟨v,_,p,_,e⟩| ⟨e,_⟩
   .rw[<-e];exact Yxn p
   simp_all
def mG(p:List UInt8):Nat:=1+p.count 10
def jl(p:List UInt8):Nat:=(p.reverse.takeWhile λc=> !decide (c=10)).length
theorem Yxp(p:List UInt8)(c:UInt8):mG (p++[c])=if c=10 then mG p+1 else mG p:=by
 unfold mG;grind
theorem Ni(p:List UInt8)(c:UInt8):jl (p++[c])=if c=10 then 0 else jl p+1:=by
 unfold jl;by_cases h:c=10<;>simp[h]
theorem Nj(p:List UInt8):jl p<=p.length:=by
 unfold jl;have:=(List.takeWhile_sublist (λc=> !decide (c=(10:UInt8))) (l:=p.reverse)).length_le;simp_all
theorem Vm(p:List UInt8): ∀q:List UInt8,(10:UInt8)∉q->jl (p++q)=jl p+q.length:=by
 intro q;induction q generalizing p with
 |nil=>simp
 |cons c q I=>
  intro h;have H:c≠10:=λe=>h (by simp[e]);have:=I (p++[c]) (λe=>h (by simp[e]));rw[qS]at this;rw[show p++c::q=p++([c]++q) by simp,this,Ni,if_neg H,pL];omega
theorem Yqs(p q:List UInt8):mG (p++q)=mG p+q.count 10:=by unfold mG;grind
theorem Yxq(p q:List UInt8)(h:(10:UInt8)∉q):mG (p++q)=mG p:=by rw[Yqs,List.count_eq_zero.2 h];omega
theorem Yxr(p q:List UInt8)(h:(10:UInt8)∈q):jl (p++q)=jl q/\jl q<q.length:=by
 obtain⟨a,b,rfl,H⟩: ∃a b,q=a++10::b/\ (10:UInt8)∉b:=by
  clear p;induction q with
  |nil=>cases h
  |cons c q I=>
   by_cases d:(10:UInt8)∈q
   .grind
   .rcases mT.1 h with e|e
    .exact⟨[],q,by simp_all,d⟩
    trivial
 have k: ∀p:List UInt8,jl (p++(a++10::b))=b.length:=by
  intro p;rw[show p++(a++10::b)=(p++a++[10])++b by simp,Vm _ _ H,Ni,if_pos rfl,mD]
 have K:=k [];grind
theorem Yqt(s:ByteArray)(n:Nat)(h:n<s.size):(bl s).take (n+1)=(bl s).take n++[s.data.getD n 0]:=YpZ s n h
theorem Ep(s:ByteArray)(n:Nat):ig s (n:Int)=10↔s.data.getD n 0=10:=by
 have:ig s (n:Int)=((s.data.getD n 0).toNat:Int):=rfl;constructor
 .intro h;exact UInt8.toNat_inj.1 (by grind)
 simp_all
theorem Yxs(s:ByteArray)(g:s.size<1000000)(i:Nat)(p:i<=s.size):Ms f_ s (i:Int)=U ((mG ((bl s).take i):Int),((jl ((bl s).take i)+1:Nat):Int),0):=by
 unfold Ms;rw[cF _ _ (by omega),cF _ _ (by omega)];have:TL f_ (s,(i:Int),1,1,0)=U ((mG ((bl s).take i):Int),((jl ((bl s).take i)+1:Nat):Int)):=by
  refine M9 (st:=λk=>(s,(i:Int),(mG ((bl s).take k):Int),((jl ((bl s).take k)+1:Nat):Int),(k:Int))) (N:=i) rfl ?_ (λk q=> ?_)
  .simp only[Mr];simp
  .have hl:=Nj ((bl s).take k);have H:((bl s).take k).count 10<=((bl s).take k).length:=List.count_le_length;rw[xd,oZ]at hl H;have d:mG ((bl s).take k)<=k+1:=by unfold mG;omega
   simp only[Mr,jZ k (by omega),jZ (jl ((bl s).take k)+1) (by omega),jZ (mG ((bl s).take k)) (by omega)];rw[cT _ _ (by omega),d_ _ (by omega),Yqt s k (by omega),Yxp,Ni];by_cases h:ig s k=10
   .rw[cT _ _ h,if_pos ((Ep s k).1 h),if_pos ((Ep s k).1 h)];rfl
   .rw[cF _ _ h,if_neg (λe=>h ((Ep s k).2 e)),if_neg (λe=>h ((Ep s k).2 e))]
 simp_all
theorem Yxt(s:ByteArray)(g:s.size<1000000):LP f_ s 10=U (if(10:UInt8)∈bl s then((s.size-jl (bl s)-1:Nat):Int)else-1):=by
 have L: ∀j:Nat,j<=s.size->LO f_ (s,10,(j:Int)-1)=U (if(10:UInt8)∈ (bl s).take j then .inl ((j-jl ((bl s).take j)-1:Nat):Int)else .inr ()):=by
  intro j;induction j with
  |zero=>
   intro _;show lY (Ic f_) _=_;rw[jz];rfl
  |succ j I=>
   intro k;have st:LO f_ (s,10,((j+1:Nat):Int)-1)=_:=jz (Ic f_) _;have E:((j+1:Nat):Int)-1=(j:Int):=by omega
   have d:g_ .i64 ((j:Int)-1)=(j:Int)-1:=lf (by omega) (by omega);simp only[Ic,E,d]at st⊢;rw[cT _ _ (by omega),d_ _ (by omega)]at st;rw[st,Yqt s j (by omega),Ni];by_cases h:ig s j=10
   .rw[cT _ _ h,if_pos ((Ep s j).1 h),if_pos (by rw[(Ep s j).1 h];simp)];simp
   .have H: ¬s.data.getD j 0=10:=λe=>h ((Ep s j).2 e);rw[cF _ _ h,if_neg H];refine(I (by omega)).trans ?_;grind
 unfold LP Qi;rw[lf (by omega) (by omega),L s.size (jG _),List.take_of_length_le (by rw[oZ];omega),h_];by_cases h:(10:UInt8)∈bl s
 .rw[if_pos h,if_pos h];rfl
 .rw[if_neg h,if_neg h];rfl
theorem Yxu(s:ByteArray):Yo6 f_ s (a_ #[10])=U (((bl s).count 10:Nat):Int):=by
 rfl
def kQ(c:Int):Bool:= !decide (c=10)
theorem Yqu: ∀l:List UInt8,Lib.indexByte l 10=if iO kQ l=l.length then-1 else((iO kQ l:Nat):Int)
 | []=>rfl
 |c::r=>by
  have I:=Yqu r;rw[JL];by_cases h:c=10
  .subst h;rfl
  .have d:kQ (c.toNat:Int)=true:=by
    unfold kQ;have:c.toNat≠10:=λe=>h (UInt8.toNat_inj.1 e);grind
   have H:(c==10)=false:=by simp_all
   rw[Lib.indexByte,H,I];simp_all
theorem Yqv(s:ByteArray)(H:s.size<1000000)(O:List (Int×ByteArray×Int×Int×ByteArray×Int×Int)): ∀(k i:Nat),i+k=s.size->Mz f_ (s,(i:Int),O)=U (s,((i+iO kQ ((bl s).drop i):Nat):Int),O)
 |0,i,h=>by
  show lY (FR f_) _=_;rw[jz];simp only[FR];rw[cF _ _ (by omega),List.drop_eq_nil_of_le (by rw[oZ];omega)];rfl
 |k+1,i,h=>by
  have st:Mz f_ (s,(i:Int),O)=_:=jz (FR f_) _;simp only[FR,jZ i (by omega)]at st;rw[cT _ _ (by omega),d_ _ (by omega)]at st;rw[st,JA s i (by omega),JL];have d:ig s (i:Int)=((s.data.getD i 0).toNat:Int):=rfl;by_cases h1:ig s i=10
  .have:kQ ((s.data.getD i 0).toNat:Int)=false:=by unfold kQ;simp_all
   simp_all
  .have:kQ ((s.data.getD i 0).toNat:Int)=true:=by unfold kQ;simp_all
   rw[decide_eq_false h1,this,if_pos rfl];refine(Yqv s H O k (i+1) (by omega)).trans ?_;grind
theorem Yxv(s:ByteArray)(i n:Nat)(h:i+n<s.size):ig (s.extract i s.size) (n:Int)=ig s ((i+n:Nat):Int):=by
 have e:s.extract i s.size=BA ((bl s).drop i):=by
  conv=>lhs;rw[<-uC s]
  rw[wB,mQ,rN]
 rw[e,rR,vW,rU,<-vW,<-rR,uC]
theorem Yqw(s:ByteArray)(i:Nat):bl (s.extract i s.size)=(bl s).drop i:=by
 conv=>lhs;rw[<-uC s]
 rw[wB,mQ,rN,BF]
abbrev Tok:=Int×ByteArray×Int×Int×ByteArray×Int×Int
theorem Yxw(s:ByteArray)(N:s.size<400000)(i:Nat)(P:i<=s.size)(O:List Tok): ∀(k n:Nat),s.size-(i+n)<=k->i+n<=s.size->
  ∃m:Nat,i+m<=s.size/\ (xy f_ (s.extract i s.size,(n:Int))=U (.inl (m:Int))\/xy f_ (s.extract i s.size,(n:Int))=U (.inr (m:Int)))/\
   rQ f_ (s,((i+n:Nat):Int),O)=rQ f_ (s,((i+m:Nat):Int),O)/\
   (i+m<s.size->ig s ((i+m:Nat):Int)≠32/\ig s ((i+m:Nat):Int)≠9/\ig s ((i+m:Nat):Int)≠10/\ig s ((i+m:Nat):Int)≠35):=by
 have Q:(s.extract i s.size).size=s.size-i:=by simp
 intro k;induction k with
 |zero=>
  intro n h1 h2;refine⟨n,h2,.inr ?_,rfl,λh=>by omega⟩;show lY (FB f_) _=_;rw[jz];simp only[FB];grind
 |succ k I=>
  intro n h1 h2;by_cases hn:i+n<s.size
  .have E:=Yxv s i n hn;have st:xy f_ (s.extract i s.size,(n:Int))=_:=jz (FB f_) _;simp only[FB,Ib,jZ n (by omega),E,cond_true,h_,wC]at st;rw[cT _ _ (by omega),d_ _ (by omega)]at st;have R:rQ f_ (s,((i+n:Nat):Int),O)=_:=jz (A6 f_) _;have g:(0:Int)<=((i+n:Nat):Int)/\ ((i+n:Nat):Int)< (s.size:Int):=by omega
   simp only[A6,jZ (i+n) (by omega)]at R;rw[cT _ _ g.2,d_ _ g]at R;have next: ∀(F:xy f_ (s.extract i s.size,(n:Int))=xy f_ (s.extract i s.size,((n+1:Nat):Int))) (G:rQ f_ (s,((i+n:Nat):Int),O)=rQ f_ (s,((i+n+1:Nat):Int),O)),∃m:Nat,i+m<=s.size/\ (xy f_ (s.extract i s.size,(n:Int))=U (.inl (m:Int))\/xy f_ (s.extract i s.size,(n:Int))=U (.inr (m:Int)))/\
     rQ f_ (s,((i+n:Nat):Int),O)=rQ f_ (s,((i+m:Nat):Int),O)/\
     (i+m<s.size->ig s ((i+m:Nat):Int)≠32/\ig s ((i+m:Nat):Int)≠9/\ig s ((i+m:Nat):Int)≠10/\ig s ((i+m:Nat):Int)≠35):=by
    intro F G;obtain⟨m,M,J,A,B⟩:=I (n+1) (by omega) (by omega);grind
   by_cases p:ig s ((i+n:Nat):Int)=32
   .rw[cT _ _ p]at st R;exact next st R
   .rw[cF _ _ p]at st R;rw[d_ _ g]at R;by_cases C:ig s ((i+n:Nat):Int)=9
    .rw[cT _ _ C]at st R;exact next st R
    .rw[cF _ _ C]at st R;rw[d_ _ g]at R;by_cases H:ig s ((i+n:Nat):Int)=10
     .rw[cT _ _ H]at R;rw[decide_eq_true H]at st;exact next st R
     .rw[cF _ _ H,d_ _ g]at R;rw[decide_eq_false H]at st;simp only[cond_false]at st;by_cases q:ig s ((i+n:Nat):Int)=35
      .rw[cT _ _ q]at st R;rw[d_ _ (by omega)]at st;have w:bl ((s.extract i s.size).extract n (s.extract i s.size).size)=(bl s).drop (i+n):=by rw[Yqw,Yqw,List.drop_drop]
       have y:strings_IndexByte f_ ((s.extract i s.size).extract n (s.extract i s.size).size) 10=U (if iO kQ ((bl s).drop (i+n))=s.size-(i+n)then-1 else((iO kQ ((bl s).drop (i+n)):Nat):Int)):=by
        simp only[strings_IndexByte,CQ];have:(((s.extract i s.size).extract n (s.extract i s.size).size).data.toList)=(bl s).drop (i+n):=w;rw[this];have:=Yqu ((bl s).drop (i+n));rw[List.length_drop,oZ]at this;simp_all
       have z:=Vg kQ ((bl s).drop (i+n));rw[List.length_drop,oZ]at z;rw[Yqv s (by omega) O (s.size-(i+n)) (i+n) (by omega),h_]at R;simp only[mN,y,h_]at st;have D:1<=iO kQ ((bl s).drop (i+n)):=by
        rw[JA s (i+n) hn,JL];have:kQ ((s.data.getD (i+n) 0).toNat:Int)=true:=by
         have K:ig s ((i+n:Nat):Int)=((s.data.getD (i+n) 0).toNat:Int):=rfl;unfold kQ;simp_all
        simp_all
       by_cases d:iO kQ ((bl s).drop (i+n))=s.size-(i+n)
       .rw[if_pos d,cT _ _ (by omega),h_,uD]at st;refine⟨s.size-i,by omega,.inl ?_,?_,λh=>by omega⟩
        .simp_all
        .have e:i+n+iO kQ ((bl s).drop (i+n))=i+(s.size-i):=by omega
         refine R.trans ?_;show rQ f_ (s,((i+n+iO kQ ((bl s).drop (i+n)):Nat):Int),O)=_;rw[e]
       .rw[if_neg d]at st;rw[cF _ _ (by omega),h_,wC]at st;have L:g_ .i64 ((n:Int)+((iO kQ ((bl s).drop (i+n)):Nat):Int))=((n+iO kQ ((bl s).drop (i+n)):Nat):Int):=by rw[lf (by omega) (by omega)];omega
        rw[L]at st;obtain⟨m,M,J,A,B⟩:=I (n+iO kQ ((bl s).drop (i+n))) (by omega) (by omega);refine⟨m,M,?_,?_,B⟩
        .have S:xy f_ (s.extract i s.size,(n:Int))=xy f_ (s.extract i s.size,((n+iO kQ ((bl s).drop (i+n)):Nat):Int)):=st;simp_all
        .have e:i+n+iO kQ ((bl s).drop (i+n))=i+(n+iO kQ ((bl s).drop (i+n))):=by omega
         refine(R.trans ?_).trans A;show rQ f_ (s,((i+n+iO kQ ((bl s).drop (i+n)):Nat):Int),O)=_;rw[e]
      .rw[cF _ _ q,h_,uD]at st;grind
  grind
end
end Go.Abs.iA
namespace Go.Abs.iA
open Go Go.Abs
noncomputable section
set_option maxRecDepth 100000
theorem Nk(s:ByteArray)(j n:Nat):(s.extract j s.size).extract 0 n=s.extract j (j+n):=by
 conv=>lhs;rw[<-uC s]
 conv=>rhs;rw[<-uC s]
 rw[wB,mQ,rN,wB,wB,vM,List.drop_take];simp
theorem Yxx(s:ByteArray)(i j:Nat):bl (s.extract i j)=((bl s).take j).drop i:=by
 conv=>lhs;rw[<-uC s]
 rw[wB,BF]
theorem Yqx(s:ByteArray)(i j:Nat)(h:i<=j):(bl s).take j=(bl s).take i++bl (s.extract i j):=by
 rw[Yxx];have:(bl s).take i=((bl s).take j).take i:=by grind
 simp_all
abbrev TB(x:Tok):Prop:=x.2.2.2.2.1.size<=200
theorem Yxy{s:ByteArray}(H:s.size<1000000){t:Int×Int×Int×ByteArray}(h:oP s=U t):t.2.2.2.size<=200:=by
 unfold oP at h;cases h1:kF s with
 |true=>rw[h1,cond_true]at h;rw[<-Option.some.inj h];trivial
 |false=>
  rw[h1,cond_false]at h;cases h2:sY s with
  |true=>rw[h2,cond_true]at h;rw[<-Option.some.inj h];trivial
  |false=>
   rw[h2,cond_false]at h;rcases Vi s H with⟨v,e,d,_,_⟩| ⟨e,_⟩
   .rw[e]at h;have g:=Option.some.inj h;rw[<-g];obtain⟨a,b,c⟩:=v;rcases F5 d with⟨_,_,k⟩| ⟨_,k⟩| ⟨_,_,k⟩| ⟨_,_,k⟩
    .show c.size<=200;rw[k];trivial
    .show c.size<=200;rw[k];trivial
    .exact k
    .show c.size<=200;rw[k];trivial
   simp_all
theorem Yxz(s:ByteArray)(hs:s.size<400000): ∀(k i:Nat) (O:List Tok),s.size-i<k->i<=s.size->O.length<=i->(∀x∈O,TB x)->
  ∃R:List Tok×Int×Int×Int,AZ f_ (s,(mG ((bl s).take i):Int),((i-jl ((bl s).take i):Nat):Int),(i:Int),O)=U R/\
   (rQ f_ (s,(i:Int),O)=U (.inl R)\/rQ f_ (s,(i:Int),O)=U (.inr R.1)/\R=(R.1,0,0,0))/\R.1.length<=s.size/\ ∀x∈R.1,TB x:=by
 have hm:c_=1073741824:=rfl;intro k;induction k with
 |zero=>omega
 |succ k ih=>
  intro i O h1 h2 h3 h4;obtain⟨m,m1,m2,M,m4⟩:=Yxw s hs i h2 O (s.size-i) 0 (by omega) (by omega);rw[sZ]at M;have F:LN f_ (s.extract i s.size)=U (m:Int):=by
   unfold LN;rw[show(0:Int)=((0:Nat):Int)from rfl];rcases m2 with e|e<;>rw[e]<;>rfl
  have G:(s.extract i (i+m)).size=m:=by simp_all
  have p:=Yqx s i (i+m) (by omega);have d:(bl (s.extract i (i+m))).length=m:=by trivial
  have I:=Nj ((bl s).take i);have K:=Nj ((bl s).take (i+m));have a5:=Nj (bl (s.extract i (i+m)));have a1:(bl (s.extract i (i+m))).count 10<=m:=by
   grind
  have a2:mG ((bl s).take i)<=i+1:=by
   have:=List.count_le_length (a:=(10:UInt8)) (l:=(bl s).take i);rw[xd,oZ]at this;unfold mG;omega
  rw[xd,oZ]at I K;have a6:mG ((bl s).take (i+m))=mG ((bl s).take i)+(bl (s.extract i (i+m))).count 10:=by rw[p,Yqs]
  have st:AZ f_ (s,(mG ((bl s).take i):Int),((i-jl ((bl s).take i):Nat):Int),(i:Int),O)=_:=jz (L5 f_) _;have e1:g_ .i64 ((i:Int)+(m:Int))=((i+m:Nat):Int):=by rw[lf (by omega) (by omega)];omega
  have e2:g_ .i64 ((mG ((bl s).take i):Int)+(((bl (s.extract i (i+m))).count 10:Nat):Int))=(mG ((bl s).take (i+m)):Int):=by rw[lf (by omega) (by omega)];omega
  simp only[L5,mN,F,h_,e1,Yxu,e2,Yxt (s.extract i (i+m)) (by omega),G]at st;rw[d_ _ (by omega),d_ _ (by omega)]at st;have hJ:(∀z,zH f_ (s,(mG ((bl s).take (i+m)):Int),((i+m-jl ((bl s).take (i+m)):Nat):Int),(i:Int),s.extract i (i+m),O)=U (.inl z)->AZ f_ (s,(mG ((bl s).take i):Int),((i-jl ((bl s).take i):Nat):Int),(i:Int),O)=U z)/\
    ∀z,zH f_ (s,(mG ((bl s).take (i+m)):Int),((i+m-jl ((bl s).take (i+m)):Nat):Int),(i:Int),s.extract i (i+m),O)=U (.inr z)->AZ f_ (s,(mG ((bl s).take i):Int),((i-jl ((bl s).take i):Nat):Int),(i:Int),O)=AZ f_ z:=by
   by_cases H:(10:UInt8)∈bl (s.extract i (i+m))
   .obtain⟨L,c2⟩:=Yxr ((bl s).take i) _ H;rw[<-p]at L;rw[d]at c2;have E:g_ .i64 ((i:Int)+((m-jl (bl (s.extract i (i+m)))-1:Nat):Int))=((i+(m-jl (bl (s.extract i (i+m)))-1):Nat):Int):=by rw[lf (by omega) (by omega)];omega
    have e4:g_ .i64 (((i+(m-jl (bl (s.extract i (i+m)))-1):Nat):Int)+1)=((i+m-jl ((bl s).take (i+m)):Nat):Int):=by rw[jZ _ (by omega)];omega
    simp only[if_pos H,E,e4]at st;rw[cT _ _ (by omega)]at st;exact⟨λz q=>by rw[q,h_,wC]at st;exact st,λz q=>by rw[q,h_,uD]at st;exact st⟩
   .have L:=Vm ((bl s).take i) _ H;rw[<-p,d]at L;have E:((i-jl ((bl s).take i):Nat):Int)=((i+m-jl ((bl s).take (i+m)):Nat):Int):=by omega
    simp only[if_neg H]at st;rw[cF _ _ (by omega),E]at st;rw[E];exact⟨λz q=>by rw[q,h_,wC]at st;exact st,λz q=>by rw[q,h_,uD]at st;exact st⟩
  clear st;have e5:g_ .i64 ((i:Int)+((s.extract i (i+m)).size:Int))=((i+m:Nat):Int):=by simp_all
  by_cases a3:i+m=s.size
  .have J:zH f_ (s,(mG ((bl s).take (i+m)):Int),((i+m-jl ((bl s).take (i+m)):Nat):Int),(i:Int),s.extract i (i+m),O)=U (.inl (O,0,0,0)):=by
    simp only[zH,e5];simp_all
   refine⟨(O,0,0,0),hJ.1 _ J,.inr ⟨?_,rfl⟩,⟨by grind,h4⟩⟩;rw[M];show lY (A6 f_) _=_;rw[jz];simp only[A6];simp_all
  .obtain⟨N,n9,P,Q⟩:=m4 (by omega);have S:(s.extract (i+m) s.size).size=s.size-(i+m):=by simp
   obtain⟨n,mm,q1,q2,q3,q4,q5,q6⟩:=Yxi (s.extract (i+m) s.size) (by omega) (by omega);rw[S]at q1 q2;rw[Nk]at q3;rw[Nk,Nk]at q5;rw[Nk]at q6;have A:(s.extract (i+m) (i+m+n)).size=n:=by rw[ByteArray.size_extract];omega
   have a7:(s.extract (i+m) (i+m+mm)).size=mm:=by rw[ByteArray.size_extract];omega
   obtain⟨T,V,W,X,t1,t2⟩:=Yw1 (s.extract (i+m) (i+m+n)) (by omega);have rT:=Yw2 (s.extract (i+m) (i+m+mm)) (by omega);rw[<-q5]at rT;have w:rQ f_ (s,((i+m:Nat):Int),O)=_:=jz (A6 f_) _;have g:(0:Int)<=((i+m:Nat):Int)/\ ((i+m:Nat):Int)< (s.size:Int):=by omega
   have e6:g_ .i64 (((i+m:Nat):Int)+(mm:Int))=((i+m+mm:Nat):Int):=by rw[lf (by omega) (by omega)];omega
   simp only[A6,Yxs s (by omega) (i+m) (by omega),h_,mN,q4,e6,rT]at w;rw[cT _ _ g.2,d_ _ g,cF _ _ N,d_ _ g,cF _ _ n9,d_ _ g,cF _ _ P,d_ _ g,cF _ _ Q,d_ _ (by omega),d_ _ (by omega)]at w;have B:g_ .i64 (g_ .i64 (((i+m:Nat):Int)-((i+m-jl ((bl s).take (i+m)):Nat):Int))+1)=((jl ((bl s).take (i+m))+1:Nat):Int):=by
    rw[lf (n:=((i+m:Nat):Int)-_) (by omega) (by omega),lf (by omega) (by omega)];omega
   have J:zH f_ (s,(mG ((bl s).take (i+m)):Int),((i+m-jl ((bl s).take (i+m)):Nat):Int),(i:Int),s.extract i (i+m),O)=bif !(oP (s.extract (i+m) (i+m+n))).isSome then U (.inl ([],(mG ((bl s).take (i+m)):Int),((jl ((bl s).take (i+m))+1:Nat):Int),2))else
     U (.inr (s,(mG ((bl s).take (i+m)):Int),((i+m-jl ((bl s).take (i+m)):Nat):Int),((i+m+n:Nat):Int),O++[(T,s.extract (i+m) (i+m+n),V,W,X,(mG ((bl s).take (i+m)):Int),((jl ((bl s).take (i+m))+1:Nat):Int))])):=by
    have e7:g_ .i64 (((i+m:Nat):Int)+(n:Int))=((i+m+n:Nat):Int):=by rw[lf (by omega) (by omega)];omega
    simp only[zH,e5,mN,q3,h_,t1,B,A,e7];rw[cF _ _ (by omega),d_ _ (by omega),d_ _ (by grind)]
   cases y:oP (s.extract (i+m) (i+m+n))with
   |none=>
    grind
   |some t=>
    have Y:mm=n:=q6 (by grind);subst Y;have ht:=t2 t y;subst ht;rw[y]at J w;simp only[Option.isSome_some,qJ,cond_false]at J;simp only[qJ,cond_false]at w;rw[d_ _ (by grind)]at w;have a4:0<mm:=by
     rcases Nat.eq_zero_or_pos mm with e|e
     .rw[e]at y;have:s.extract (i+m) (i+m+0)=jw:=by
       conv=>lhs;rw[<-uC s]
       rw[wB,sZ,List.drop_eq_nil_of_le (by grind)];rfl
      rw[this,Yqk]at y;cases y
     omega
    have C:=Yxo (s:=s.extract (i+m) (i+m+mm)) (by omega) (by grind);have D:=Yqx s (i+m) (i+m+mm) (by omega);have Z:mG ((bl s).take (i+m+mm))=mG ((bl s).take (i+m)):=by rw[D,Yxq _ _ C]
    have a8:jl ((bl s).take (i+m+mm))=jl ((bl s).take (i+m))+mm:=by rw[D,Vm _ _ C,oZ,A]
    obtain⟨R,r1,r2,r3⟩:=ih (i+m+mm) (O++[(T,s.extract (i+m) (i+m+mm),V,W,X,(mG ((bl s).take (i+m)):Int),((jl ((bl s).take (i+m))+1:Nat):Int))]) (by omega) (by omega) (by grind) (λx hx=>by
     rcases uE.1 hx with h|h
     .grind
     .rw[uV.1 h];exact Yxy (by omega) y)
    have a0:i+m+mm-jl ((bl s).take (i+m+mm))=i+m-jl ((bl s).take (i+m)):=by omega
    rw[Z,a0]at r1;refine⟨R,(hJ.2 _ J).trans r1,?_,r3⟩;rw[M];have a9:rQ f_ (s,((i+m:Nat):Int),O)=rQ f_ (s,((i+m+mm:Nat):Int),O++[(T,s.extract (i+m) (i+m+mm),V,W,X,(mG ((bl s).take (i+m)):Int),((jl ((bl s).take (i+m))+1:Nat):Int))]):=w;grind
theorem YxA(s:ByteArray)(H:s.size<400000): ∃R:List Tok×Int×Int×Int,L6 f_ s=U R/\MA f_ s=U R/\R.1.length<=s.size/\ ∀x∈R.1,TB x:=by
 unfold L6 MA;by_cases h:(65536:Int)< (s.size:Int)
 .simp_all
 .rw[cF _ _ h,cF _ _ h];obtain⟨R,d,g,k⟩:=Yxz s H (s.size+1) 0 [] (by omega) (by omega) (by simp) (by simp);have d:AZ f_ (s,1,0,0,[])=U R:=d;rw[d,h_];refine⟨R,rfl,?_,k⟩;rcases g with e| ⟨e,e'⟩
  .have e:rQ f_ (s,0,[])=U (.inl R):=e;rw[e];rfl
  .have e:rQ f_ (s,0,[])=U (.inr R.1):=e;rw[e,e'];rfl
end
end Go.Abs.iA
namespace Go.Abs.iA
open Go Go.Abs
noncomputable section
set_option maxRecDepth 100000
abbrev zT:Tok:=(0,a_ #[],0,0,a_ #[],0,0)
theorem YxB(l:List Tok)(hl:l.length<400000): ∀(k i fr:Nat) (O:List (List Tok)),l.length-i<=k->fr<=i->i<=l.length->(i=l.length->fr=i)->O.length<=i->(∀x∈O,x.length<=l.length/\ ∀t∈x,t∈l)->
  (∃(S:List (List Tok)),yf f_ (l,l,(l.length:Int),(i:Int),O,(l.take i).drop fr)=U (.inr S)/\A7 f_ (l,(fr:Int),(i:Int),O)=U (l,(l.length:Int),S)/\S.length<=l.length/\ ∀x∈S,x.length<=l.length/\ ∀t∈x,t∈l)\/
  (∃(f:Nat) (S:List (List Tok)),yf f_ (l,l,(l.length:Int),(i:Int),O,(l.take i).drop fr)=U (.inl ((l.getD (l.length-1) zT).2.2.2.2.2.1,2,[]))/\A7 f_ (l,(fr:Int),(i:Int),O)=U (l,(f:Int),S)/\f<l.length):=by
 have F:c_=1073741824:=rfl;intro k;induction k with
 |zero=>
  intro i fr O h1 h2 h3 h4 h5 h6;have w:i=l.length:=by omega
  left;refine⟨O,?_,?_,by omega,h6⟩
  .show lY (A0 f_) _=_;rw[jz];simp only[A0];rw[cF _ _ (by omega)]
  .show lY (yj f_) _=_;rw[jz];simp only[yj];rw[cF _ _ (by omega),h4 w,w]
 |succ k I=>
  intro i fr O h1 h2 h3 h4 h5 h6;by_cases w:i<l.length
  .have st:yf f_ (l,l,(l.length:Int),(i:Int),O,(l.take i).drop fr)=_:=jz (A0 f_) _;have R:A7 f_ (l,(fr:Int),(i:Int),O)=_:=jz (yj f_) _;have g:(0:Int)<=(i:Int)/\ (i:Int)< (l.length:Int):=by omega
   have e0:g_ .i64 ((l.length:Int)-1)=((l.length-1:Nat):Int):=by rw[lf (by omega) (by omega)];omega
   simp only[A0,mN,jZ i (by omega),e0]at st;simp only[yj,mN,jZ i (by omega)]at R;rw[cT _ _ g.2,d_ _ g]at st R;have A:((l.take i).drop fr).length<=l.length:=by rw[List.length_drop,xd];omega
   have B:(l.take (i+1)).drop fr=(l.take i).drop fr++[l.getD i zT]:=by
    rw[Yp2 (d:=zT) w,List.drop_append_of_le_length (by rw[xd];omega)]
   by_cases p:(l.getD i zT).1=3/\ (l.getD i zT).2.1=a_ #[59]
   .obtain⟨K,q⟩:=p;rw[cT _ _ K,cT _ _ q]at st;rw[cT _ _ K,d_ _ g,cT _ _ q]at R;rw[d_ _ (by simp;omega)]at st;rw[d_ _ (by omega),d_ _ (by simp;omega)]at R;have:=I (i+1) (i+1) (O++[(l.take i).drop fr]) (by omega) (by omega) (by omega) (λ_=>rfl) (by simp;omega)
     (λx D=>by
      rcases uE.1 D with h|h
      .exact h6 x h
      .rw[uV.1 h];exact⟨A,λt E=>List.mem_of_mem_take (List.mem_of_mem_drop E)⟩)
    have C:(l.take (i+1)).drop (i+1)=[]:=List.drop_eq_nil_of_le (by rw[xd];omega);rw[C]at this;rcases this with⟨S,a,b,c⟩| ⟨f,S,a,b,c⟩
    .exact .inl ⟨S,st.trans a,R.trans b,c⟩
    .exact .inr ⟨f,S,st.trans a,R.trans b,c⟩
   .have y:A7 f_ (l,(fr:Int),(i:Int),O)=A7 f_ (l,(fr:Int),((i+1:Nat):Int),O):=by
     by_cases K:(l.getD i zT).1=3
     .rw[cT _ _ K,d_ _ g,cF _ _ (λq=>p ⟨K,q⟩)]at R;exact R
     .rw[cF _ _ K]at R;exact R
    clear R;have z:(i=l.length-1->yf f_ (l,l,(l.length:Int),(i:Int),O,(l.take i).drop fr)=U (.inl ((l.getD i zT).2.2.2.2.2.1,2,[])))/\ (¬i=l.length-1->yf f_ (l,l,(l.length:Int),(i:Int),O,(l.take i).drop fr)=yf f_ (l,l,(l.length:Int),((i+1:Nat):Int),O,(l.take i).drop fr++[l.getD i zT])):=by
     constructor
     .intro H;by_cases K:(l.getD i zT).1=3
      .rw[cT _ _ K,cF _ _ (λq=>p ⟨K,q⟩),d_ _ (by simp;omega),cT _ _ (by omega)]at st;exact st
      .rw[cF _ _ K,d_ _ (by simp;omega),cT _ _ (by omega)]at st;exact st
     .intro H;by_cases K:(l.getD i zT).1=3
      .rw[cT _ _ K,cF _ _ (λq=>p ⟨K,q⟩),d_ _ (by simp;omega),cF _ _ (by omega)]at st;exact st
      .rw[cF _ _ K,d_ _ (by simp;omega),cF _ _ (by omega)]at st;exact st
    clear st;by_cases H:i=l.length-1
    .right;refine⟨fr,O,?_,?_,by omega⟩
     .rw[z.1 H,<-H]
     .rw[y];show lY (yj f_) _=_;rw[jz];simp only[yj];rw[cF _ _ (by omega)]
    .have:=I (i+1) fr O (by omega) (by omega) (by omega) (by omega) (by omega) h6;rw[B]at this;rcases this with⟨S,a,b,c⟩| ⟨f,S,a,b,c⟩
     .exact .inl ⟨S,(z.2 H).trans a,y.trans b,c⟩
     .exact .inr ⟨f,S,(z.2 H).trans a,y.trans b,c⟩
  .have w:i=l.length:=by omega
   left;refine⟨O,?_,?_,by omega,h6⟩
   .show lY (A0 f_) _=_;rw[jz];simp only[A0];rw[cF _ _ (by omega)]
   .show lY (yj f_) _=_;rw[jz];simp only[yj];rw[cF _ _ (by omega),h4 w,w]
theorem YxC(l:List (List Tok))(hl:l.length<400000):Ue f_ (l,0,[])=U (l.filter λv=> !v.isEmpty):=by
 have H:c_=1073741824:=rfl;refine M9 (st:=λn=>(l,(n:Int),(l.take n).filter λv=> !v.isEmpty)) (N:=l.length) rfl ?_ (λn hn=> ?_)
 .simp only[MB];simp
 .simp only[MB,mN,jZ n (by omega)];rw[cT _ _ (by omega),d_ _ (by omega),Yp2 (d:=[]) hn,List.filter_append];by_cases h:(l.getD n [])=[]
  .simp_all
  .have g:0< (l.getD n []).length:=List.length_pos_iff.2 h;rw[cT _ _ (by omega),d_ _ (by omega),d_ _ (by grind)];simp_all
theorem YxD(s:ByteArray)(H:s.size<300000): ∃(S:List (List Tok)) (L e:Int),L7 f_ s=U (S,L,e)/\MC f_ s=U (S,L,e)/\ ∀x∈S,x.length<=s.size/\x≠ []/\ ∀t∈x,TB t:=by
 obtain⟨R,h1,h2,h3,hT⟩:=YxA s (by omega);unfold L7 MC;rw[h1,h2,h_,h_];show∃S L e,(bif !decide (R.2.2.2=0)then U ([],R.2.1,R.2.2.2)else(FI f_ R.1).bind _)=U (S,L,e)/\ (bif !decide (R.2.2.2=0)then U ([],R.2.1,R.2.2.2)else(FT f_ R.1).bind _)=U (S,L,e)/\_;by_cases h:R.2.2.2=0
 .rw[decide_eq_true h];have k:(∃S:List (List Tok),FI f_ R.1=U (0,0,S)/\FT f_ R.1=U (S,0,0)/\S.length<=R.1.length/\ ∀x∈S,x.length<=R.1.length/\ ∀t∈x,t∈R.1)\/ ∃L:Int,FI f_ R.1=U (L,2,[])/\FT f_ R.1=U ([],L,2):=by
   unfold FI FT;have:=YxB R.1 (by omega) R.1.length 0 0 [] (by omega) (by omega) (by omega) (λ_=>rfl) (by simp) (by simp);rcases this with⟨S,a,b,c,d⟩| ⟨f,S,a,b,c⟩
   .have a:yf f_ (R.1,R.1,(R.1.length:Int),0,[],[])=_:=a;left;refine⟨S,by rw[a];rfl,?_,c,d⟩;simp_all
   .have a:yf f_ (R.1,R.1,(R.1.length:Int),0,[],[])=_:=a;have b:A7 f_ (R.1,0,0,[])=_:=b;right;refine⟨_,by rw[a];rfl,?_⟩;rw[b,h_];have e0:g_ .i64 ((R.1.length:Int)-1)=((R.1.length-1:Nat):Int):=by rw[lf (by omega) (by omega)];omega
    show(bif decide ((f:Int)< (R.1.length:Int))then _ else _)=_;rw[cT _ _ (by omega)];simp only[e0,mN];rw[d_ _ (by omega)]
  rcases k with⟨S,a,b,c,d⟩| ⟨L,a,b⟩
  .rw[a,b,h_,h_];dsimp only;rw[YxC S (by omega)];refine⟨_,0,0,rfl,rfl,λx g=> ?_⟩;grind
  simp_all
 simp_all
end
end Go.Abs.iA
namespace Go.Abs.iA
open Go Go.Abs
noncomputable section
set_option maxRecDepth 100000
section
variable(l:List Tok)(hl:l.length<400000)(n:Nat)(hn:n<=l.length)(b:Bool)
def tk(l:List Tok)(n:Nat):Tok:=l.getD n zT
theorem Er{l:List Tok}{n:Nat}(h:l.length<=n):tk l n=zT:=by
 unfold tk;simp_all
theorem vL{l:List Tok}{n:Nat}(h:(tk l n).1≠0):n<l.length:=by
 rcases Nat.lt_or_ge n l.length with e|e
 .exact e
 .rw[Er e]at h;trivial
include hl hn
theorem Nl:Dx f_ 0 l (n:Int) b=U ((tk l n).1,(tk l n).2.1,(tk l n).2.2.1,(tk l n).2.2.2.1,(tk l n).2.2.2.2.1,(tk l n).2.2.2.2.2.1,(tk l n).2.2.2.2.2.2,l,(n:Int),b):=by
 unfold Dx;have e:g_ .i64 ((n:Int)+0)=(n:Int):=by rw[lf (by omega) (by omega)];omega
 rw[e];by_cases h:n<l.length
 .rw[cT _ _ (by omega),d_ _ (by omega),mN];rfl
 .rw[cF _ _ (by omega),Er (by omega)]
theorem ox(k:Int)(d:k≠0):Dy f_ k l (n:Int) b=U (if(tk l n).1=k then((tk l n).1,(tk l n).2.1,(tk l n).2.2.1,(tk l n).2.2.2.1,(tk l n).2.2.2.2.1,(tk l n).2.2.2.2.2.1,(tk l n).2.2.2.2.2.2,l,((n+1:Nat):Int),b)else(0,a_ #[],0,0,a_ #[],0,0,l,(n:Int),zZ)):=by
 unfold Dy;rw[Nl l hl n hn b,h_];(try dsimp only);by_cases h:(tk l n).1=k
 .have H:=vL (l:=l) (n:=n) (by omega);simp only[h,decide_true,qJ,cond_false,if_true];rw[cF _ _ (by omega),jZ n (by omega)]
 simp_all
theorem JO:mX f_ l (n:Int) b=U (if(tk l n).1=1 then((tk l n).2.1,l,((n+1:Nat):Int),b)else(a_ #[],l,(n:Int),zZ)):=by
 unfold mX;rw[ox l hl n hn b 1 (by decide),h_];(try dsimp only);grind
def nP(l:List Tok)(n:Nat)(s:ByteArray):Bool:=decide ((tk l n).1=3)&&decide ((tk l n).2.1=s)
omit hl hn in
theorem xI{l:List Tok}{n:Nat}{s:ByteArray}(h:nP l n s=zZ):n<l.length:=by
 unfold nP at h;rw[iI,decide_eq_true_eq]at h;exact vL (by rw[h.1];decide)
theorem Nn(s:ByteArray):zI f_ 0 s l (n:Int) b=U (nP l n s,l,(n:Int),b):=by
 unfold zI nP;rw[Nl l hl n hn b,h_];(try dsimp only);grind
theorem Vn(s:ByteArray):A1 f_ s l (n:Int) b=U (bif nP l n s then(zZ,l,((n+1:Nat):Int),b)else(zj,l,(n:Int),b)):=by
 unfold A1;rw[Nn l hl n hn b,h_];(try dsimp only);cases h:nP l n s with
 |true=>
  simp only[qJ,cond_false,cond_true,jZ n (by omega)]
 |false=>rfl
theorem Vo(s:ByteArray):ov f_ s l (n:Int) b=U (bif nP l n s then(l,((n+1:Nat):Int),b)else(l,(n:Int),zZ)):=by
 unfold ov;rw[Vn l hl n hn b,h_];(try dsimp only);grind
theorem JP:Dz f_ l (n:Int) b=U (decide ((tk l n).1=1),l,(n:Int),b):=by
 unfold Dz;rw[Nl l hl n hn b,h_];(try dsimp only)
abbrev F6:ByteArray:=a_ #[44]
theorem Vp:qN f_ l (n:Int) b=U (bif !b&&nP l n F6 then(zZ,l,((n+1:Nat):Int),b)else(zj,l,(n:Int),b)):=by
 unfold qN;cases b with
 |true=>rfl
 |false=>
  rw[qz,cond_true,Vn l hl n hn zj,h_];(try dsimp only);rfl
theorem Vq:xC f_ l (n:Int) b=U (if(tk l n).1=2 then((tk l n).2.2.1,(tk l n).2.2.2.1,(tk l n).2.2.2.2.1,l,((n+1:Nat):Int),b)else(0,0,a_ #[],l,(n:Int),zZ)):=by
 unfold xC;rw[ox l hl n hn b 2 (by decide),h_];(try dsimp only);grind
theorem Vr:yg f_ l (n:Int) b=U (if(tk l n).1=2 then((tk l n).2.2.2.1,l,((n+1:Nat):Int),b|| !decide ((tk l n).2.2.1=1))else(0,l,(n:Int),zZ)):=by
 unfold yg;rw[Vq l hl n hn b,h_];(try dsimp only);grind
def JQ{α:Type}(l:List Tok)(n:Nat)(o:Option (α×List Tok×Int×Bool)):Prop:= ∃(t:α) (n':Nat) (B:Bool),o=U (t,l,(n':Int),B)/\n<=n'/\n'<=l.length
theorem qR:JQ l n (mX f_ l (n:Int) b):=by
 rw[JO l hl n hn b];by_cases h:(tk l n).1=1
 .have:=vL (l:=l) (n:=n) (by omega);rw[if_pos h];exact⟨_,n+1,b,rfl,by omega,by omega⟩
 .rw[if_neg h];exact⟨_,n,zZ,rfl,by omega,hn⟩
theorem Yqy(s:ByteArray):JQ l n (A1 f_ s l (n:Int) b):=by
 rw[Vn l hl n hn b];cases h:nP l n s with
 |true=>have:=xI h;exact⟨_,n+1,b,rfl,by omega,by omega⟩
 |false=>exact⟨_,n,b,rfl,by omega,hn⟩
theorem tU(s:ByteArray): ∃(n':Nat) (B:Bool),ov f_ s l (n:Int) b=U (l,(n':Int),B)/\n<=n'/\n'<=l.length:=by
 rw[Vo l hl n hn b];cases h:nP l n s with
 |true=>have:=xI h;exact⟨n+1,b,rfl,by omega,by omega⟩
 |false=>grind
theorem Es:(∃n':Nat,qN f_ l (n:Int) b=U (zZ,l,(n':Int),b)/\n<n'/\n'<=l.length)\/qN f_ l (n:Int) b=U (zj,l,(n:Int),b):=by
 rw[Vp l hl n hn b];cases h:(!b&&nP l n F6)with
 |true=>
  rw[iI]at h;have:=xI h.2;exact .inl ⟨n+1,rfl,by omega,by omega⟩
 |false=>simp
theorem Vs: ∃(x y:Int) (z:ByteArray) (n':Nat) (B:Bool),xC f_ l (n:Int) b=U (x,y,z,l,(n':Int),B)/\n<=n'/\n'<=l.length:=by
 rw[Vq l hl n hn b];by_cases h:(tk l n).1=2
 .have:=vL (l:=l) (n:=n) (by omega);rw[if_pos h];exact⟨_,_,_,n+1,b,rfl,by omega,by omega⟩
 .rw[if_neg h];grind
theorem No:JQ l n (yg f_ l (n:Int) b):=by
 rw[Vr l hl n hn b];by_cases h:(tk l n).1=2
 .have:=vL (l:=l) (n:=n) (by omega);rw[if_pos h];exact⟨_,n+1,_,rfl,by omega,by omega⟩
 .rw[if_neg h];exact⟨_,n,zZ,rfl,by omega,hn⟩
theorem Yqz(s:ByteArray): ∃(n':Nat) (B:Bool),IU f_ s l (n:Int) b=U (l,(n':Int),B)/\n<=n'/\n'<=l.length:=by
 unfold IU;obtain⟨t,n',B,e,h1,h2⟩:=qR l hl n hn b;grind
end
section
variable(l:List Tok)(hl:l.length<400000)
include hl
theorem YxE: ∀(k n:Nat) (b:Bool) (O:List ByteArray),l.length-n<=k->n<=l.length->O.length+k<1000000-> ∃(d:List ByteArray) (n':Nat) (B:Bool),IF f_ (l,(n:Int),b,O)=U (l,(n':Int),B,d)/\n<=n'/\n'<=l.length/\d.length<=O.length+k:=by
 have A:c_=1073741824:=rfl;intro k;induction k with
 |zero=>
  intro n b O h1 h2 h3;have st:IF f_ (l,(n:Int),b,O)=_:=jz (FJ f_) _;simp only[FJ]at st;rcases Es l hl n h2 b with⟨N,e,h4,h5⟩|e
  .omega
  grind
 |succ k h=>
  intro n b O h1 h2 h3;have st:IF f_ (l,(n:Int),b,O)=_:=jz (FJ f_) _;simp only[FJ]at st;rcases Es l hl n h2 b with⟨N,e,h4,h5⟩|e
  .obtain⟨t,g,p,E,h6,h7⟩:=qR l hl N h5 b;rw[e,h_]at st;rw[E,h_,d_ _ (by grind)]at st;obtain⟨o,q,w,y,h8,H,z⟩:=h g p (O++[t]) (by omega) h7 (by grind);refine⟨o,q,w,st.trans y,by omega,H,?_⟩;grind
  grind
theorem F7(n:Nat)(hn:n<=l.length)(b:Bool): ∃(t:List ByteArray) (n':Nat) (B:Bool),tS f_ l (n:Int) b=U (t,l,(n':Int),B)/\n<=n'/\n'<=l.length/\t.length<=400001:=by
 unfold tS;rw[JP l hl n hn b,h_];(try dsimp only);cases decide ((tk l n).1=1)with
 |false=>exact⟨[],n,b,rfl,by omega,hn,by simp⟩
 |true=>
  obtain⟨t,N,d,E,h1,h2⟩:=qR l hl n hn b;obtain⟨o,h,k,g,h3,h4,h5⟩:=YxE l hl l.length N d [t] (by omega) h2 (by grind);simp only[qJ,cond_false];rw[E,h_];(try dsimp only);rw[g,h_];(try dsimp only);grind
theorem Np(n:Nat)(hn:n<=l.length)(b:Bool): ∃(t:List ByteArray) (n':Nat) (B:Bool),DA f_ l (n:Int) b=U (t,l,(n':Int),B)/\n<=n'/\n'<=l.length:=by
 unfold DA;obtain⟨N,d,E,h1,h2⟩:=tU l hl n hn b (a_ #[40]);obtain⟨t,g,h,k,h3,h4,_⟩:=F7 l hl N h2 d;obtain⟨p,q,w,h5,h6⟩:=tU l hl g h4 h (a_ #[41]);grind
theorem YxF: ∀(k n:Nat) (b:Bool) (O:List ByteArray),l.length-n<=k->n<=l.length->O.length+k<1000000-> ∃(d:List ByteArray) (n':Nat) (B:Bool),IK f_ (l,(n:Int),b,O)=U (l,(n':Int),B,d)/\n<=n'/\n'<=l.length:=by
 have q:c_=1073741824:=rfl;intro k;induction k with
 |zero=>
  intro n b O h1 h2 h3;have st:IK f_ (l,(n:Int),b,O)=_:=jz (FK f_) _;simp only[FK,JP l hl n h2 b,h_]at st;rw[Er (by omega)]at st;grind
 |succ k I=>
  intro n b O h1 h2 h3;have st:IK f_ (l,(n:Int),b,O)=_:=jz (FK f_) _;simp only[FK,JP l hl n h2 b,JO l hl n h2 b,h_]at st;by_cases h:(tk l n).1=1
  .have H:=vL (l:=l) (n:=n) (by omega);rw[cT _ _ h]at st;simp only[if_pos h]at st;rw[d_ _ (by grind)]at st;obtain⟨o,N,g,E,h8,p⟩:=I (n+1) b (O++[(tk l n).2.1]) (by omega) (by omega) (by grind);exact⟨o,N,g,st.trans E,by omega,p⟩
  grind
theorem YqA(n:Nat)(hn:n<=l.length)(b:Bool): ∃(t:List ByteArray) (n':Nat) (B:Bool),zJ f_ l (n:Int) b=U (t,l,(n':Int),B)/\n<=n'/\n'<=l.length:=by
 unfold zJ;obtain⟨o,N,d,E,h3,h4⟩:=YxF l hl l.length n b [] (by omega) hn (by grind);rw[E,h_];(try dsimp only);grind
theorem Vt(n:Nat)(hn:n<=l.length)(b:Bool): ∃(a:ByteArray) (q:Bool) (x y:Int) (z:ByteArray) (n':Nat) (B:Bool),wz f_ l (n:Int) b=U (a,q,x,y,z,l,(n':Int),B)/\n<=n'/\n'<=l.length:=by
 unfold wz;obtain⟨t,N,d,E,h1,h2⟩:=qR l hl n hn b;obtain⟨q,g,h,k,h3,h4⟩:=Yqy l hl N h2 d (a_ #[61]);rw[E,h_];(try dsimp only);rw[k,h_];(try dsimp only);cases q with
 |true=>
  obtain⟨x,y,z,w,A,p,h5,h6⟩:=Vs l hl g h4 h;rw[p,h_];(try dsimp only);grind
 |false=>grind
theorem YqB(n:Nat)(hn:n<=l.length)(b:Bool): ∃(a:Int) (q:ByteArray) (x y:Int) (z:ByteArray) (n':Nat) (h:Bool),IN f_ l (n:Int) b=U (a,q,x,y,z,l,(n':Int),h)/\n<=n'/\n'<=l.length:=by
 unfold IN;obtain⟨x,y,z,d,B,E,h1,h2⟩:=Vs l hl n hn b;rw[E,h_];(try dsimp only);cases decide (x=1)with
 |false=>exact⟨_,_,_,_,_,d,B,rfl,h1,h2⟩
 |true=>
  obtain⟨q,N,g,k,h3,h4⟩:=Yqy l hl d h2 B (a_ #[46]);rw[k,h_];(try dsimp only);cases q with
  |false=>exact⟨_,_,_,_,_,N,g,rfl,by omega,h4⟩
  |true=>
   obtain⟨t,A,C,p,h5,h6⟩:=qR l hl N h4 zZ;obtain⟨t',D,F,w,h7,h8⟩:=qR l hl N h4 g;simp only[qJ,cond_false,p,w,h_];cases decide (y<1)with
   |true=>grind
   |false=>
    cases decide (3<y)with
    |true=>grind
    |false=>grind
theorem YxG(n:Nat)(hn:n<=l.length)(b:Bool)(k:Int)(H:k≠0): ∃(a:Int) (t:ByteArray) (x y:Int) (z:ByteArray) (u v:Int) (n':Nat) (B:Bool),Dy f_ k l (n:Int) b=U (a,t,x,y,z,u,v,l,(n':Int),B)/\n<=n'/\n'<=l.length:=by
 rw[ox l hl n hn b k H];by_cases h:(tk l n).1=k
 .have:=vL (l:=l) (n:=n) (by omega);rw[if_pos h];exact⟨_,_,_,_,_,_,_,n+1,b,rfl,by omega,by omega⟩
 .rw[if_neg h];grind
theorem YqC(n:Nat)(hn:n<=l.length)(b:Bool): ∃g c2 h k p q w y z C d,∃(n':Nat) (B:Bool),zK f_ l (n:Int) b=U (g,c2,h,k,p,q,w,y,z,C,d,l,(n':Int),B)/\n<=n'/\n'<=l.length:=by
 unfold zK;obtain⟨_,_,_,_,_,N,A,E,h1,h2⟩:=YqB l hl n hn b;obtain⟨_,t,_,_,_,_,_,D,F,G,h3,h4⟩:=YxG l hl N h2 A 3 (by decide);obtain⟨_,_,_,_,_,J,H,I,h5,h6⟩:=YqB l hl D h4 F;rw[E,h_];(try dsimp only);rw[G,h_];(try dsimp only);rw[Ng _ (by decide),h_];(try dsimp only);rw[I,h_];(try dsimp only);cases H with
 |true=>grind
 |false=>grind
end
end
end Go.Abs.iA
namespace Go.Abs.iA
open Go Go.Abs
noncomputable section
set_option maxRecDepth 100000
class oQ(β:Type)[e:Eqb β]:Prop where
 r: ∀y:β,e.eq y y=zZ
instance:oQ Int:=⟨λy=>decide_eq_true rfl⟩
instance:oQ Bool:=⟨λy=>decide_eq_true rfl⟩
instance:oQ ByteArray:=⟨λy=>decide_eq_true rfl⟩
instance{A B:Type}[Eqb A][Eqb B][a:oQ A][b:oQ B]:oQ (A×B):=⟨λy=>by show(_&&_)=zZ;rw[a.r,b.r];rfl⟩
instance{A:Type}[Eqb A][a:oQ A]:oQ (List A):=⟨λy=>by
 induction y with
 |nil=>rfl
 |cons x r h=>show(_&&_)=zZ;rw[a.r];exact h⟩
theorem JR{β:Type}[Eqb β][a:oQ β](x:Option β):xU x x=x:=by
 cases x with
 |none=>rfl
 |some y=>show(bif _ then _ else _)=_;rw[a.r];rfl
section
variable(l:List Tok)(hl:l.length<400000)
include hl
theorem YqD(n:Nat)(hn:n<=l.length)(b:Bool): ∃(x:Int) (y:ByteArray) (z:Int) (n':Nat) (d:Bool),IX f_ l (n:Int) b=U (x,y,z,l,(n':Int),d)/\n<=n'/\n'<=l.length:=by
 unfold IX;rw[JR,JR];obtain⟨T,g,h,E,h1,h2⟩:=qR l hl n hn b;obtain⟨t2,N,B,k,h3,h4⟩:=qR l hl g h2 h;rw[E,h_];(try dsimp only);rw[Ng _ (by decide),h_];(try dsimp only);rw[k,h_];(try dsimp only);generalize vJ _ _ _=q;simp only[IW];cases decide (q<1)with
 |true=>exact⟨_,_,_,N,zZ,rfl,by omega,h4⟩
 |false=>
  cases decide (q=1)with
  |true=>exact⟨_,_,_,N,B,rfl,by omega,h4⟩
  |false=>
   obtain⟨C,p,w,A,h5,h6⟩:=No l hl N h4 B;rw[A,h_];(try dsimp only);exact⟨_,_,_,p,w,rfl,by omega,h6⟩
abbrev AJ:=List Tok×Int×Bool×ByteArray×ByteArray×List (ByteArray×Int×Int×ByteArray)×List (ByteArray×Int×Int×ByteArray)
theorem YxH(v2 A:ByteArray)(h3:List (ByteArray×Int×Int×ByteArray)): ∀(k n:Nat) (b:Bool) (O:List (ByteArray×Int×Int×ByteArray)),l.length-n<k->n<=l.length->O.length+2*k<1000000->
  ∃(d:List (ByteArray×Int×Int×ByteArray)) (n':Nat) (w:Bool),A2 f_ (l,(n:Int),b,v2,A,h3,O)=U (l,(n':Int),w,v2,A,h3,d)/\n<=n'/\n'<=l.length:=by
 have G:c_=1073741824:=rfl;intro k;induction k with
 |zero=>omega
 |succ k I=>
  intro n b O h1 h2 J;have st:A2 f_ (l,(n:Int),b,v2,A,h3,O)=_:=jz (L8 f_) _;simp only[L8,Nn l hl n h2 b,JP l hl n h2 b,h_]at st;cases b with
  |true=>grind
  |false=>
   simp only[qz,cond_true]at st;cases D:nP l n (a_ #[41])with
   |true=>grind
   |false=>
    rw[D]at st;simp at st;have R: ∀(N:Nat) (B:Bool) (t:ByteArray×Int×Int×ByteArray),n<=N->N<=l.length-> ∃Z:AJ⊕AJ,IS f_ (l,(N:Int),B,v2,A,h3,O++[t])=U Z/\
      ((∃h,Z= .inl (l,(N:Int),h,v2,A,h3,O++[t]))\/ ∃(g:Nat) (h:Bool),Z= .inr (l,(g:Int),h,v2,A,h3,O++[t])/\N<g/\g<=l.length):=by
     intro N B t h4 h5;simp only[IS];rcases Es l hl N h5 B with⟨g,e,h6,h7⟩|e
     .rw[e,h_];(try dsimp only);simp only[qJ,cond_false];cases B with
      |true=>grind
      |false=>
       rw[cond_false,Nn l hl g h7 zj,h_];(try dsimp only);grind
     simp_all
    have F: ∀(N:Nat) (B:Bool) (t:ByteArray×Int×Int×ByteArray) (Z:AJ⊕AJ),n<=N->N<=l.length->((∃h,Z= .inl (l,(N:Int),h,v2,A,h3,O++[t]))\/ ∃(g:Nat) (h:Bool),Z= .inr (l,(g:Int),h,v2,A,h3,O++[t])/\N<g/\g<=l.length)->
      (∀y,Z= .inl y->A2 f_ (l,(n:Int),zj,v2,A,h3,O)=U y)->(∀y,Z= .inr y->A2 f_ (l,(n:Int),zj,v2,A,h3,O)=A2 f_ y)-> ∃(d:List (ByteArray×Int×Int×ByteArray)) (n':Nat) (w:Bool),A2 f_ (l,(n:Int),zj,v2,A,h3,O)=U (l,(n':Int),w,v2,A,h3,d)/\n<=n'/\n'<=l.length:=by
     intro N B t Z h4 h5 p K L;rcases p with⟨h,rfl⟩| ⟨g,h,rfl,h6,h7⟩
     .grind
     .obtain⟨o,M,P,Q,h8,S⟩:=I g h (O++[t]) (by omega) h7 (by grind);grind
    by_cases q:(tk l n).1=1
    .obtain⟨t,N,B,E,h4,h5⟩:=qR l hl n h2 zj;rw[cT _ _ q,E,h_,d_ _ (by grind)]at st;obtain⟨Z,p,C⟩:=R N B (t,0,0,a_ #[]) h4 h5;rw[p,h_]at st;exact F N B _ Z h4 h5 C (λy H=>by rw[H]at st;exact st) (λy H=>by rw[H]at st;exact st)
    .obtain⟨x,y,z,N,B,E,h4,h5⟩:=Vs l hl n h2 zj;rw[cF _ _ q,E,h_,d_ _ (by grind)]at st;obtain⟨Z,p,C⟩:=R N B (a_ #[],x,y,z) h4 h5;rw[p,h_]at st;exact F N B _ Z h4 h5 C (λy H=>by rw[H]at st;exact st) (λy H=>by rw[H]at st;exact st)
theorem YqE(n:Nat)(hn:n<=l.length)(b:Bool): ∃(a:ByteArray) (t:List (ByteArray×Int×Int×ByteArray)) (n':Nat) (B:Bool),zL f_ l (n:Int) b=U (a,t,l,(n':Int),B)/\n<=n'/\n'<=l.length:=by
 unfold zL;obtain⟨t,N,d,E,h1,h2⟩:=qR l hl n hn b;obtain⟨g,h,k,h3,h4⟩:=tU l hl N h2 d (a_ #[40]);obtain⟨o,p,q,w,h5,h6⟩:=YxH l hl (a_ #[]) t [] 400000 g h [] (by omega) h4 (by simp);obtain⟨z,A,y,h7,h8⟩:=tU l hl p h6 q (a_ #[41]);rw[E,h_];(try dsimp only);rw[k,h_];(try dsimp only);rw[w,h_];(try dsimp only);rw[y,h_];(try dsimp only);grind
section
variable(s0 s1 s2 s3:ByteArray)(s4 s5:List ByteArray)(s6 s7:Int)(s8:List ByteArray)(g2:List (Int×Int×ByteArray))(g3:List (ByteArray×Bool×Int×Int×ByteArray))(g4:List (Int×ByteArray×Int×Int×ByteArray×Int×Int×ByteArray×Int×Int×ByteArray))(g5:List (ByteArray×List (ByteArray×Int×Int×ByteArray)))
theorem YxI(g:List Int)(G:List (List (Int×ByteArray×Int))): ∀(k n:Nat) (b:Bool) (O:List (Int×ByteArray×Int)),l.length-n<k->n<=l.length->O.length+k<1000000->
  ∃(d:List (Int×ByteArray×Int)) (n':Nat) (B:Bool),Ma f_ (l,(n:Int),b,s0,s1,s2,s3,s4,s5,s6,s7,s8,g2,g3,g4,g5,g,O,G)=U (l,(n':Int),B,s0,s1,s2,s3,s4,s5,s6,s7,s8,g2,g3,g4,g5,g,d,G)/\n<=n'/\n'<=l.length:=by
 have D:c_=1073741824:=rfl;intro k;induction k with
 |zero=>omega
 |succ k h=>
  intro n b O h1 h2 F;have st:Ma f_ (l,(n:Int),b,s0,s1,s2,s3,s4,s5,s6,s7,s8,g2,g3,g4,g5,g,O,G)=_:=jz (L_ f_) _;simp only[L_]at st;rcases Es l hl n h2 b with⟨N,e,h4,h5⟩|e
  .obtain⟨x,y,z,p,q,E,h6,h7⟩:=YqD l hl N h5 b;rw[e,h_]at st;rw[E,h_,d_ _ (by grind)]at st;obtain⟨o,w,A,C,h8,H⟩:=h p q (O++[(x,y,z)]) (by omega) h7 (by grind);exact⟨o,w,A,st.trans C,by omega,H⟩
  grind
theorem YxJ(g:List Int): ∀(k n:Nat) (b:Bool) (O:List (List (Int×ByteArray×Int))),l.length-n<k->n<=l.length->O.length+k<1000000->
  ∃(d:List (List (Int×ByteArray×Int))) (n':Nat) (B:Bool),Mc f_ (l,(n:Int),b,s0,s1,s2,s3,s4,s5,s6,s7,s8,g2,g3,g4,g5,g,O)=U (l,(n':Int),B,s0,s1,s2,s3,s4,s5,s6,s7,s8,g2,g3,g4,g5,g,d)/\n<=n'/\n'<=l.length:=by
 have T:c_=1073741824:=rfl;intro k;induction k with
 |zero=>omega
 |succ k I=>
  intro n b O h1 h2 V;have st:Mc f_ (l,(n:Int),b,s0,s1,s2,s3,s4,s5,s6,s7,s8,g2,g3,g4,g5,g,O)=_:=jz (Mb f_) _;simp only[Mb,Nl l hl n h2 b,JP l hl n h2 b,h_]at st;cases b with
  |true=>grind
  |false=>
   simp at st;cases q:decide ((tk l n).2.1=a_ #[109,97,116,99,104])with
   |false=>grind
   |true=>
    rw[q]at st;simp only[cond_true]at st;by_cases h:(tk l n).1=1
    .have w:=vL (l:=l) (n:=n) (by omega);obtain⟨x,y,z,N,A,E,h6,h7⟩:=YqD l hl (n+1) (by omega) zj;rw[cT _ _ h,jZ n (by omega),E,h_]at st;simp only at st;obtain⟨o,C,D,F,h8,G⟩:=YxI l hl s0 s1 s2 s3 s4 s5 s6 s7 s8 g2 g3 g4 g5 g O 400001 N A [(x,y,z)] (by omega) h7 (by simp);obtain⟨J,K,L,M,H⟩:=tU l hl C G D (a_ #[124]);rw[F,h_]at st;simp only at st;rw[d_ _ (by grind),L,h_]at st;obtain⟨o',P,Q,R,S,p⟩:=I J K (O++[o]) (by omega) H (by grind);exact⟨o',P,Q,st.trans R,by omega,p⟩
    grind
theorem YxK(v:List ByteArray)(H:v.length<500000)(g:List (List (Int×ByteArray×Int)))(n:Nat): ∀(k i:Nat) (b:Bool) (O:List Int),v.length-i<k->i<=v.length->O.length+k<1000000->
  ∃(d:List Int) (p:Bool),Me f_ (v,(v.length:Int),(i:Int),l,(n:Int),b,s0,s1,s2,s3,s4,s5,s6,s7,s8,g2,g3,g4,g5,g,O)=U (l,(n:Int),p,s0,s1,s2,s3,s4,s5,s6,s7,s8,g2,g3,g4,g5,g,d):=by
 have w:c_=1073741824:=rfl;intro k;induction k with
 |zero=>omega
 |succ k h=>
  intro i b O h1 h2 y;have st:Me f_ (v,(v.length:Int),(i:Int),l,(n:Int),b,s0,s1,s2,s3,s4,s5,s6,s7,s8,g2,g3,g4,g5,g,O)=_:=jz (Md f_) _;simp only[Md]at st;by_cases z:i<v.length
  .rw[cT _ _ (by omega),d_ _ (by omega),Ng _ (by decide),h_,jZ i (by omega)]at st;generalize vJ _ _ _=q at st;cases b with
   |true=>
    rw[d_ _ (by grind)]at st;obtain⟨o,B,e⟩:=h (i+1) zZ (O++[q]) (by omega) (by omega) (by grind);exact⟨o,B,st.trans e⟩
   |false=>
    simp only[cond_false]at st;rw[d_ _ (by grind)]at st;obtain⟨o,B,e⟩:=h (i+1) (decide (q<1)) (O++[q]) (by omega) (by omega) (by grind);exact⟨o,B,st.trans e⟩
  simp_all
theorem YxL(G:List (List (Int×ByteArray×Int)))(g:List Int)(H:G.length<100000)(d:g.length<100000)(n:Nat)(hn:n<=l.length)(b:Bool):
  ∃(x:List ByteArray) (y:List (List (Int×ByteArray×Int))) (z:List Int) (n':Nat) (B:Bool),FL f_ l (n:Int) b s0 s1 s2 s3 s4 s5 s6 s7 s8 g2 g3 g4 g5 G g=U (l,(n':Int),B,s0,s1,s2,s3,x,s5,s6,s7,s8,g2,g3,g4,g5,y,z)/\n<=n'/\n'<=l.length:=by
 unfold FL;obtain⟨N,k,O,h1,h2⟩:=Yqz l hl n hn b (a_ #[98,108,111,99,107]);obtain⟨t,p,q,P,h3,h4,_⟩:=F7 l hl N h2 k;obtain⟨w,A,Q,h5,h6⟩:=tU l hl p h4 q (a_ #[124]);obtain⟨o,C,D,R,h7,h8⟩:=YxJ l hl s0 s1 s2 s3 t s5 s6 s7 s8 g2 g3 g4 g5 g 400001 w A G (by omega) h6 (by omega);obtain⟨E,F,S,T,h⟩:=Yqz l hl C h8 D (a_ #[115,117,114,118,105,118,101]);obtain⟨t2,I,J,V,K,L,M⟩:=F7 l hl E h F;obtain⟨W,X,Y⟩:=YxK l hl s0 s1 s2 s3 t s5 s6 s7 s8 g2 g3 g4 g5 t2 (by omega) o I 500000 0 J g (by omega) (by omega) (by omega);grind
end
end
end
end Go.Abs.iA
namespace Go.Abs.iA
open Go Go.Abs
noncomputable section
set_option maxRecDepth 100000
abbrev jT:=List (Int×Int×ByteArray)
abbrev nQ:=List (ByteArray×Bool×Int×Int×ByteArray)
abbrev oy:=List (Int×ByteArray×Int×Int×ByteArray×Int×Int×ByteArray×Int×Int×ByteArray)
abbrev kR:=List (ByteArray×List (ByteArray×Int×Int×ByteArray))
abbrev oR:=List (List (Int×ByteArray×Int))
theorem bind_none{A B:Type}(x:Option A):(d' x λ_=>(zz:Option B))=none:=by simp
section
variable(l:List Tok)(hl:l.length<400000)
variable(s0 s1 s2 s3:ByteArray)(s4 s5:List ByteArray)(s6 s7:Int)(s8:List ByteArray)(g2:jT)
include hl
theorem YxM(g4:oy)(g5:kR)(g:oR)(G:List Int): ∀(k n:Nat) (b:Bool) (O:nQ),l.length-n<k->n<=l.length->O.length+k<1000000->
  ∃(d:nQ) (n':Nat) (B:Bool),Mg f_ (l,(n:Int),b,s0,s1,s2,s3,s4,s5,s6,s7,s8,g2,O,g4,g5,g,G)=U (l,(n':Int),B,s0,s1,s2,s3,s4,s5,s6,s7,s8,g2,d,g4,g5,g,G)/\n<=n'/\n'<=l.length/\d.length+l.length<=O.length+l.length+k:=by
 have I:c_=1073741824:=rfl;intro k;induction k with
 |zero=>omega
 |succ k h=>
  intro n b O h1 h2 J;have st:Mg f_ (l,(n:Int),b,s0,s1,s2,s3,s4,s5,s6,s7,s8,g2,O,g4,g5,g,G)=_:=jz (Mf f_) _;simp only[Mf]at st;rcases Es l hl n h2 b with⟨N,e,h4,h5⟩|e
  .obtain⟨a,q,x,y,z,p,w,E,h6,h7⟩:=Vt l hl N h5 b;rw[e,h_]at st;rw[E,h_,d_ _ (by grind)]at st;obtain⟨o,A,C,D,h8,H,F⟩:=h p w (O++[(a,q,x,y,z)]) (by omega) h7 (by grind);refine⟨o,A,C,st.trans D,by omega,H,?_⟩;grind
  grind
theorem YxN(g3:nQ)(g5:kR)(g:oR)(G:List Int): ∀(k n:Nat) (b:Bool) (O:oy),l.length-n<k->n<=l.length->O.length+k<1000000->
  ∃(d:oy) (n':Nat) (B:Bool),Mi f_ (l,(n:Int),b,s0,s1,s2,s3,s4,s5,s6,s7,s8,g2,g3,O,g5,g,G)=U (l,(n':Int),B,s0,s1,s2,s3,s4,s5,s6,s7,s8,g2,g3,d,g5,g,G)/\n<=n'/\n'<=l.length:=by
 have Q:c_=1073741824:=rfl;intro k;induction k with
 |zero=>omega
 |succ k I=>
  intro n b O h1 h2 R;have st:Mi f_ (l,(n:Int),b,s0,s1,s2,s3,s4,s5,s6,s7,s8,g2,g3,O,g5,g,G)=_:=jz (Mh f_) _;simp only[Mh]at st;rcases Es l hl n h2 b with⟨N,e,h4,h5⟩|e
  .obtain⟨p,c2,q,w,y,z,A,D,E,C,h,F,H,J,h6,h7⟩:=YqC l hl N h5 b;rw[e,h_]at st;rw[J,h_,d_ _ (by grind)]at st;obtain⟨o,K,L,M,h8,P⟩:=I F H (O++[(p,c2,q,w,y,z,A,D,E,C,h)]) (by omega) h7 (by grind);exact⟨o,K,L,st.trans M,by omega,P⟩
  grind
theorem YxO(g3:nQ)(g4:oy)(g:oR)(G:List Int): ∀(k n:Nat) (b:Bool) (O:kR),l.length-n<k->n<=l.length->O.length+k<1000000->
  ∃(d:kR) (n':Nat) (B:Bool),Mk f_ (l,(n:Int),b,s0,s1,s2,s3,s4,s5,s6,s7,s8,g2,g3,g4,O,g,G)=U (l,(n':Int),B,s0,s1,s2,s3,s4,s5,s6,s7,s8,g2,g3,g4,d,g,G)/\n<=n'/\n'<=l.length:=by
 have A:c_=1073741824:=rfl;intro k;induction k with
 |zero=>omega
 |succ k h=>
  intro n b O h1 h2 C;have st:Mk f_ (l,(n:Int),b,s0,s1,s2,s3,s4,s5,s6,s7,s8,g2,g3,g4,O,g,G)=_:=jz (Mj f_) _;simp only[Mj]at st;rcases Es l hl n h2 b with⟨N,e,h4,h5⟩|e
  .obtain⟨a,t,p,q,E,h6,h7⟩:=YqE l hl N h5 b;rw[e,h_]at st;rw[E,h_,d_ _ (by grind)]at st;obtain⟨o,w,y,z,h8,H⟩:=h p q (O++[(a,t)]) (by omega) h7 (by grind);exact⟨o,w,y,st.trans z,by omega,H⟩
  grind
theorem YqF(g3:nQ)(g4:oy)(g5:kR)(g:oR)(G:List Int)(h3:g3.length<1000000)(n:Nat)(hn:n<=l.length)(b:Bool):
  ∃(x:nQ) (n':Nat) (B:Bool),I2 f_ (l,(n:Int),b,s0,s1,s2,s3,s4,s5,s6,s7,s8,g2,g3,g4,g5,g,G)=U (l,(n':Int),B,s0,s1,s2,s3,s4,s5,s6,s7,s8,g2,x,g4,g5,g,G)/\n'<=l.length:=by
 have H:c_=1073741824:=rfl;simp only[I2];obtain⟨N,d,E,h1,h2⟩:=tU l hl n hn b (a_ #[45,62]);obtain⟨a,q,x,y,z,k,p,h,h6,h7⟩:=Vt l hl N h2 d;rw[E,h_];(try dsimp only);rw[h,h_];(try dsimp only);rw[d_ _ (by grind)];grind
theorem YqG(v7:ByteArray)(V:Bool)(n:Nat)(hn:n<=l.length)(b:Bool):
  ∃(X F:List ByteArray) (G:nQ) (Y:oy) (I:kR) (J:oR) (K:List Int) (n':Nat) (L:Bool),I3 f_ (v7,V,l,(n:Int),b,s0,s1,s2,s3,s4,s5,s6,s7,s8,g2,[],[],[],[],[])=U (l,(n':Int),L,s0,s1,s2,s3,X,F,s6,s7,s8,g2,G,Y,I,J,K)/\n'<=l.length:=by
 have hm:c_=1073741824:=rfl;simp only[I3];cases V with
 |true=>
  obtain⟨T,k,p,A,h1,h2⟩:=YqA l hl n hn b;rw[cond_true,A,h_];(try dsimp only);obtain⟨N,B,E,h3,h4⟩:=tU l hl k h2 p (B9 sX s0 (oc sX (tq sX (0:Int) (a_ #[102,100]) ([]:List (Int×ByteArray×ByteArray))) (a_ #[109,118,100]) (a_ #[45,62,62]) (oc sX (0:Int) (a_ #[102,100]) (a_ #[45,62]) ([]:List (Int×ByteArray×ByteArray)))) (a_ #[]));obtain⟨M,g,h,d,h5,h6⟩:=YqA l hl N h4 B;rw[E,h_];(try dsimp only);rw[d,h_];(try dsimp only);grind
 |false=>
  rw[cond_false];cases decide (v7=a_ #[99,102,100])with
  |true=>
   rw[cond_true,Nn l hl n hn b,h_];(try dsimp only)
   (try simp only)
   cases nP l n (a_ #[45,62])with
   |true=>
    obtain⟨x,k,p,A,h1⟩:=YqF l hl s0 s1 s2 s3 s4 s5 s6 s7 s8 g2 [] [] [] [] [] (by simp) n hn b;grind
   |false=>
    obtain⟨a,q,x,y,z,N,B,E,h6,h7⟩:=Vt l hl n hn b;obtain⟨o,g,h,d,h8,H,O⟩:=YxM l hl s0 s1 s2 s3 s4 s5 s6 s7 s8 g2 [] [] [] [] 400001 N B ([]++[(a,q,x,y,z)]) (by omega) h7 (by simp);obtain⟨w,n4,b4,e4,P⟩:=YqF l hl s0 s1 s2 s3 s4 s5 s6 s7 s8 g2 o [] [] [] [] (by grind) g H h;simp only[qz,cond_true];rw[E,h_];(try dsimp only);rw[d_ _ (by simp_all)];grind
  |false=>
   rw[cond_false];cases decide (v7=a_ #[111,100])with
   |true=>
    obtain⟨T,k,p,A,h1,h2,_⟩:=F7 l hl n hn b;obtain⟨N,B,E,h3,h4⟩:=tU l hl k h2 p (a_ #[126,62]);obtain⟨M,g,h,d,h5,h6,_⟩:=F7 l hl N h4 B;rw[cond_true,A,h_];(try dsimp only);rw[E,h_];(try dsimp only);rw[d,h_];(try dsimp only);grind
   |false=>
    rw[cond_false];cases decide (v7=a_ #[100,101,110,121])with
    |true=>
     rw[cond_true];cases decide ((n:Int)< (l.length:Int))with
     |true=>
      obtain⟨Q,c2,R,S,W,Z,c7,c8,c9,C,D,N,B,E,h6,h7⟩:=YqC l hl n hn b;obtain⟨o,g,h,d,h8,H⟩:=YxN l hl s0 s1 s2 s3 s4 s5 s6 s7 s8 g2 [] [] [] [] 400001 N B ([]++[(Q,c2,R,S,W,Z,c7,c8,c9,C,D)]) (by omega) h7 (by simp);rw[cond_true,E,h_];(try dsimp only);rw[d_ _ (by simp_all)];grind
     |false=>grind
    |false=>
     rw[cond_false];cases decide (v7=a_ #[113,117,101,114,121])with
     |true=>
      obtain⟨a,t,N,B,E,h6,h7⟩:=YqE l hl n hn b;obtain⟨o,g,h,d,h8,H⟩:=YxO l hl s0 s1 s2 s3 s4 s5 s6 s7 s8 g2 [] [] [] [] 400001 N B ([]++[(a,t)]) (by omega) h7 (by simp);rw[cond_true,E,h_];(try dsimp only);rw[d_ _ (by simp_all)];grind
     |false=>
      rw[cond_false];cases decide (v7=a_ #[108,105,110,107])with
      |true=>
       obtain⟨x,y,z,g,h,d,h8,H⟩:=YxL l hl s0 s1 s2 s3 s4 s5 s6 s7 s8 g2 [] [] [] [] [] (by simp) (by simp) n hn b;rw[cond_true,d,h_];(try dsimp only);simp only;rw[d_ _ (by trivial),d_ _ (by trivial),d_ _ (by trivial),d_ _ (by trivial)];grind
      |false=>grind
end
end
end Go.Abs.iA
namespace Go.Abs.iA
open Go Go.Abs
noncomputable section
set_option maxRecDepth 100000
abbrev mn:ByteArray:=a_ #[114,111,119]
abbrev tW:ByteArray:=a_ #[107,101,121]
abbrev JS:ByteArray:=a_ #[100,101,110,121]
theorem Nq{A B:Type}(a:A)(k:A->Option B)(d:Option B):nf (U a) k d=k a:=rfl
theorem Nr{A B:Type}(k:A->Option B)(d:Option B):nf zz k d=d:=rfl
section
variable(l:List Tok)(hl:l.length<400000)
variable(s0 s1 s2 s3:ByteArray)(s4 s5:List ByteArray)(s6 s7:Int)(s8:List ByteArray)
include hl
theorem YqH(H:s0≠mn)(p:s0≠tW)(g2:jT)(n:Nat)(hn:n<=l.length)(b:Bool):
  ∃(X d:List ByteArray) (g:nQ) (y:oy) (Y:kR) (h:oR) (k:List Int) (n':Nat) (B:Bool),xE f_ l (n:Int) b s0 s1 s2 s3 s4 s5 s6 s7 s8 g2 [] [] [] [] []=U (l,(n':Int),B,s0,s1,s2,s3,X,d,s6,s7,s8,g2,g,y,Y,h,k):=by
 unfold xE;obtain⟨X,d,g,y,Y,h,k,N,q,E,_⟩:=YqG l hl s0 s1 s2 s3 s4 s5 s6 s7 s8 g2 s0 zZ n hn b;obtain⟨z,Z,w,W,A,C,D,F,G,I,_⟩:=YqG l hl s0 s1 s2 s3 s4 s5 s6 s7 s8 g2 s0 (decide (s0=a_ #[109,118,100])) n hn b;grind
omit hl in
theorem YqI(h:s0=mn\/s0=tW)(n:Int)(b:Bool)(g2:jT)(g3:nQ)(g4:oy)(g5:kR)(g6:oR)(g7:List Int):xE f_ l n b s0 s1 s2 s3 s4 s5 s6 s7 s8 g2 g3 g4 g5 g6 g7=none:=by
 unfold xE;rcases h with h|h
 .rw[cT _ _ h];exact bind_none _
 .rw[cF _ _ (by rw[h];decide),cT _ _ h];exact bind_none _
theorem YxP(n:Nat)(hn:n<=l.length)(b:Bool)(g2:jT)(g3:nQ)(g4:oy)(g5:kR)(g:oR)(G:List Int):
  ∃(X:List ByteArray) (n':Nat) (B:Bool),xD f_ l (n:Int) b tW s1 s2 s3 s4 s5 s6 s7 s8 g2 g3 g4 g5 g G=U (l,(n':Int),B,tW,s1,s2,s3,X,s5,s6,s7,s8,g2,g3,g4,g5,g,G):=by
 unfold xD;obtain⟨t,N,d,E,h1,h2,_⟩:=F7 l hl n hn b;rw[cF _ _ (by decide),cT _ _ (by trivial),E,h_];(try dsimp only);grind
omit hl in
theorem YxQ(n:Int)(b:Bool)(g2:jT)(g3:nQ)(g4:oy)(g5:kR)(g6:oR)(g7:List Int):xD f_ l n b mn s1 s2 s3 s4 s5 s6 s7 s8 g2 g3 g4 g5 g6 g7=none:=by
 unfold xD;rw[cT _ _ (by trivial)];exact bind_none _
variable(v0 v1 v2 v3:ByteArray)(v4 v5:List ByteArray)(v6 v7:Int)(v8:List ByteArray)(h3:jT)(h4:nQ)(h5:oy)(h6:kR)(h7:oR)(h8:List Int)
theorem YqJ(V:ByteArray)(d:Bool)(n:Nat)(hn:n<=l.length)(b:Bool):
  ∃(X k:ByteArray) (p:List ByteArray) (n':Nat) (q:Bool),I5 f_ (l,V,d,v0,v1,v2,v3,v4,v5,v6,v7,v8,l,(n:Int),b,s0,s1,s2,s3,s4,s5,s6,s7,s8,h3,h4,h5,h6,h7,h8,[],[],[],[],[],[])=U (l,v0,v1,v2,v3,v4,v5,v6,v7,v8,l,(n':Int),q,s0,X,k,s3,s4,s5,s6,s7,p,h3,h4,h5,h6,h7,h8,[],[],[],[],[],[])/\n'<=l.length:=by
 simp only[I5];cases d with
 |true=>
  obtain⟨t,N,B,E,h1,h2⟩:=qR l hl n hn b;rw[cond_true,E,h_];(try dsimp only);grind
 |false=>
  rw[cond_false];obtain⟨t,N,B,E,h1,h2⟩:=qR l hl n hn b;cases decide (V=a_ #[113,117,101,114,121])with
  |true=>
   obtain⟨t2,w,y,g,H,h⟩:=Np l hl N h2 B;rw[cond_true,E,h_];(try dsimp only);rw[g,h_];(try dsimp only);grind
  |false=>
   obtain⟨t2,w,y,g,H,h⟩:=qR l hl N h2 B;rw[cond_false,E,h_];(try dsimp only);rw[g,h_];(try dsimp only);grind
theorem YxR(w:s0≠mn)(V:Bool)(n:Nat)(hn:n<=l.length)(b:Bool):
  ∃Z,uA f_ (l,V,v0,v1,v2,v3,v4,v5,v6,v7,v8,l,(n:Int),b,s0,s1,s2,s3,s4,s5,s6,s7,s8,h3,h4,h5,h6,h7,h8,[],[],[],[],[],[])=U Z/\
   (match Z with| .inl y=>y.2.2.2.2.2.2.2.2.2.2.2.2.2.1=s0| .inr z=>z.1=2):=by
 simp only[uA];cases V with
 |false=>simp
 |true=>
  rw[cond_true,cF _ _ w];by_cases k:s0=tW
  .subst k;obtain⟨X,d,g,N,B,A,h1⟩:=YqJ l hl tW s1 s2 s3 s4 s5 s6 s7 s8 v0 v1 v2 v3 v4 v5 v6 v7 v8 h3 h4 h5 h6 h7 h8 tW zZ n hn b;obtain⟨C,D,F,K,h⟩:=tU l hl N h1 B (a_ #[58]);obtain⟨J,p,q,E⟩:=YxP l hl X d s3 s4 s5 s6 s7 g C h D [] [] [] [] [] [];rw[cT _ _ (by trivial),A,h_];(try dsimp only)
   (try simp only)
   rw[cF _ _ (by decide),F,h_];(try dsimp only)
   (try simp only)
   rw[YqI _ _ _ _ _ _ _ _ _ _ (.inr rfl),Nr,E,Nq];simp only;rw[d_ _ (by trivial),d_ _ (by trivial),d_ _ (by trivial),d_ _ (by trivial),d_ _ (by trivial),d_ _ (by trivial)];simp
  .rw[cF _ _ k];obtain⟨X,d,g,N,B,A,h1⟩:=YqJ l hl s0 s1 s2 s3 s4 s5 s6 s7 s8 v0 v1 v2 v3 v4 v5 v6 v7 v8 h3 h4 h5 h6 h7 h8 s0 (decide (s0=a_ #[108,105,110,107])) n hn b;rw[A,h_];(try dsimp only)
   (try simp only)
   by_cases hd:s0=JS
   .obtain⟨t,C,D,F,K,h⟩:=No l hl N h1 B;obtain⟨p,q,E,G,H⟩:=tU l hl C h D (a_ #[58]);obtain⟨J,L,M,Y,O,P,Q,R,S,I⟩:=YqH l hl s0 X d s3 s4 s5 s6 t g w k [] p H q;rw[cT _ _ hd,F,h_];(try dsimp only);rw[E,h_];(try dsimp only);rw[I,Nq];simp only;rw[d_ _ (by trivial)];simp
   .obtain⟨p,q,E,G,H⟩:=tU l hl N h1 B (a_ #[58]);obtain⟨J,L,M,Y,O,P,Q,R,S,I⟩:=YqH l hl s0 X d s3 s4 s5 s6 s7 g w k [] p H q;rw[cF _ _ hd,E,h_];(try dsimp only);rw[I,Nq];simp only;rw[d_ _ (by trivial)];simp
end
end
end Go.Abs.iA
namespace Go.Abs.iA
open Go Go.Abs
noncomputable section
set_option maxRecDepth 100000
theorem Ns: ∀x,∃z,rP f_ x=U z/\ (z.1=2\/z.1=0/\z.2.1=x.2.2.2.2.2.2.2.2.2.2.2.2.2.1):=by
 rintro⟨L,v0,v1,v2,v3,v4,v5,v6,v7,v8,l,n,b,s0,s1,s2,s3,s4,s5,s6,s7,s8,h3,h4,h5,h6,h7,h8,p,h,H,d,g,k⟩;simp only[rP];cases b with
 |true=>simp
 |false=>
  cases decide (n=(L.length:Int))with
  |true=>simp
  |false=>simp
theorem BL{A:Type}{c:Bool}{x y:Option A}{P:A->Prop}(h1: ∃z,x=U z/\P z)(h2: ∃z,y=U z/\P z): ∃z,(bif c then x else y)=U z/\P z:=by grind
section
variable(l:List Tok)(hl:l.length<400000)
include hl
theorem YxS(t:ByteArray)(n:Nat)(b:Bool)(hn:n<=l.length)(w:mX f_ l 0 zj=U (t,l,(n:Int),b))(k:t≠mn):
  ∃y,zO f_ l=U y/\ (y.2.2.2.2.2.2.2.2.2.2.2.2.2.2.2=2\/y.2.2.2.2.2.2.2.2.2.2.2.2.2.2.2=0/\y.1=t):=by
 unfold zO;rw[w,h_];(try dsimp only)
 (try simp only)
 by_cases K:t=a_ #[116,97,98,108,101]
 .obtain⟨t2,N,B,E,h1,h2⟩:=qR l hl n hn b;obtain⟨T,d,g,h,h3,h4⟩:=Np l hl N h2 B;rw[cT _ _ K,E,h_];(try dsimp only);rw[h,h_];(try dsimp only);obtain⟨z,p,h5⟩:=Ns (l,a_ #[],a_ #[],a_ #[],a_ #[],[],[],0,0,[],l,(d:Int),g,t,a_ #[],t2,a_ #[],T,[],0,0,[],[],[],[],[],[],[],[],[],[],[],[],[]);simp_all
 rw[cF _ _ K];by_cases q:t=a_ #[105,110,100]
 .obtain⟨t2,N,B,E,h1,h2⟩:=qR l hl n hn b;obtain⟨T,d,g,h,h3,h4⟩:=qR l hl N h2 B;obtain⟨A,C,D,p,h5,h6⟩:=Np l hl d h4 g;obtain⟨F,G,I,h7,h8⟩:=tU l hl C h6 D (a_ #[60,61]);obtain⟨L,M,O,P,h9,H⟩:=qR l hl F h8 G;obtain⟨Q,R,S,W,X,Y⟩:=Np l hl M H O;rw[cT _ _ q,E,h_];(try dsimp only);rw[h,h_];(try dsimp only);rw[p,h_];(try dsimp only);rw[I,h_];(try dsimp only);rw[P,h_];(try dsimp only);rw[W,h_];(try dsimp only);obtain⟨z,e8,a0⟩:=Ns (l,a_ #[],a_ #[],a_ #[],a_ #[],[],[],0,0,[],l,(R:Int),S,t,t2,T,L,A,Q,0,0,[],[],[],[],[],[],[],[],[],[],[],[],[]);simp_all
 rw[cF _ _ q,cF _ _ k];have J:=λV=>YxR l hl t (a_ #[]) (a_ #[]) (a_ #[]) [] [] 0 0 [] (a_ #[]) (a_ #[]) (a_ #[]) (a_ #[]) [] [] 0 0 [] [] [] [] [] [] [] k V n hn b;obtain⟨Z,e,hz⟩:=J zZ;obtain⟨Z',e',a1⟩:=J (decide (t=a_ #[113,117,101,114,121]));rw[e,e',h_];(try dsimp only);rw[h_];(try dsimp only);clear J e e'
 repeat' apply BL
 all_goals first
  | (cases Z with
    |inl y=>
     obtain⟨z,E,h2⟩:=Ns y;rw[wC];show∃r,d' (rP f_ y) _=U r/\_;rw[E,h_];(try dsimp only);refine⟨_,rfl,?_⟩;rcases h2 with h2| ⟨h2,h3⟩
     .simp_all
     .simp_all
    |inr z=>rw[uD];exact⟨_,rfl,.inl hz⟩)
  | (cases Z' with
    |inl y=>
     obtain⟨z,E,h2⟩:=Ns y;rw[wC];show∃r,d' (rP f_ y) _=U r/\_;simp_all
    |inr z=>rw[uD];simp_all)
end
end
end Go.Abs.iA
namespace Go.Abs.iA
open Go Go.Abs
noncomputable section
set_option maxRecDepth 100000
section
variable(l:List Tok)(hl:l.length<400000)(n:Nat)(hn:n<=l.length)(b:Bool)
include hl hn
theorem F8:yk f_ l (n:Int) b=U (decide ((tk l n).1=1),l,(n:Int),b):=by
 unfold yk;by_cases h:n<l.length
 .rw[cT _ _ (by omega),d_ _ (by omega),mN];rfl
 .rw[cF _ _ (by omega),Er (by omega)];rfl
theorem BM(h:n<l.length):g_ .i64 (g_ .i64 ((n:Int)+1)-1)=(n:Int):=by rw[jZ n (by omega),lf (by omega) (by omega)];omega
theorem JT:nE f_ l (n:Int) b=U (if(tk l n).1=1 then((tk l n).2.1,l,((n+1:Nat):Int),b)else(a_ #[],l,(n:Int),zZ)):=by
 unfold nE;rw[F8 l hl n hn b,h_];(try dsimp only);by_cases h:(tk l n).1=1
 .have H:=vL (l:=l) (n:=n) (by omega);rw[if_pos h,decide_eq_true h];simp;rw[BM l hl n hn H,jZ n (by omega),d_ _ (by omega)];rfl
 simp_all
theorem Ac(s:ByteArray):vI f_ s l (n:Int) b=U (nP l n s,l,(n:Int),b):=by
 unfold vI nP;by_cases h:n<l.length
 .rw[cT _ _ (by omega),d_ _ (by omega),mN];show(bif decide ((tk l n).1=3)then _ else _)=_;by_cases h3:(tk l n).1=3
  .rw[cT _ _ h3,d_ _ (by omega),decide_eq_true h3];rfl
  simp_all
 .rw[cF _ _ (by omega),Er (by omega)];rfl
theorem Nt(s:ByteArray):mF f_ s l (n:Int) b=U (bif nP l n s then(l,((n+1:Nat):Int),b)else(l,(n:Int),zZ)):=by
 unfold mF;rw[Ac l hl n hn b,h_];(try dsimp only);cases h:nP l n s with
 |true=>simp only[cond_true,jZ n (by omega)]
 |false=>rfl
theorem JU:yl f_ l (n:Int) b=U (if(tk l n).1=2 then((tk l n).2.2.1,(tk l n).2.2.2.1,(tk l n).2.2.2.2.1,l,((n+1:Nat):Int),b)else(0,0,a_ #[],l,(n:Int),zZ)):=by
 unfold yl;by_cases h:n<l.length
 .rw[cF _ _ (by omega),d_ _ (by omega),BM l hl n hn h,jZ n (by omega)];show(bif !decide ((tk l n).1=2)then _ else _)=_;by_cases h2:(tk l n).1=2
  .rw[decide_eq_true h2,if_pos h2];rw[d_ _ (by omega)];rfl
  simp_all
 .rw[cT _ _ (by omega),Er (by omega)];rfl
theorem YqK:A_ f_ l (n:Int) b=U (if(tk l n).1=2 then((tk l n).2.2.2.1,l,((n+1:Nat):Int),b|| !decide ((tk l n).2.2.1=1))else(0,l,(n:Int),zZ)):=by
 unfold A_;rw[JU l hl n hn b,h_];(try dsimp only);grind
theorem rF:JQ l n (nE f_ l (n:Int) b):=by
 rw[JT l hl n hn b,<-JO l hl n hn b];exact qR l hl n hn b
theorem oS(s:ByteArray): ∃(n':Nat) (B:Bool),mF f_ s l (n:Int) b=U (l,(n':Int),B)/\n<=n'/\n'<=l.length:=by
 rw[Nt l hl n hn b,<-Vo l hl n hn b];exact tU l hl n hn b s
theorem Vu: ∃(x y:Int) (z:ByteArray) (n':Nat) (B:Bool),yl f_ l (n:Int) b=U (x,y,z,l,(n':Int),B)/\n<=n'/\n'<=l.length/\ (n<n'\/B=zZ):=by
 rw[JU l hl n hn b];by_cases h:(tk l n).1=2
 .have:=vL (l:=l) (n:=n) (by omega);rw[if_pos h];exact⟨_,_,_,n+1,b,rfl,by omega,by omega,.inl (by omega)⟩
 .rw[if_neg h];grind
theorem YqL:JQ l n (A_ f_ l (n:Int) b):=by
 rw[YqK l hl n hn b,<-Vr l hl n hn b];exact No l hl n hn b
theorem YqM(s:ByteArray): ∃(n':Nat) (B:Bool),Jo f_ s l (n:Int) b=U (l,(n':Int),B)/\n<=n'/\n'<=l.length:=by
 unfold Jo;obtain⟨t,n',B,e,h1,h2⟩:=rF l hl n hn b;grind
theorem YxT: ∃(a:ByteArray) (x y:Int) (z:ByteArray) (n':Nat) (B:Bool),FU f_ l (n:Int) b=U (a,x,y,z,l,(n':Int),B)/\n<=n'/\n'<=l.length/\ (n<n'\/B=zZ):=by
 unfold FU;rw[F8 l hl n hn b,h_];(try dsimp only);by_cases h:(tk l n).1=1
 .have:=vL (l:=l) (n:=n) (by omega);rw[decide_eq_true h];rw[JT l hl n hn b,if_pos h,h_];(try dsimp only);exact⟨_,_,_,_,n+1,b,rfl,by omega,by omega,.inl (by omega)⟩
 .rw[decide_eq_false h];obtain⟨x,y,z,n',B,e,h1,h2,h3⟩:=Vu l hl n hn b;rw[e,h_];(try dsimp only);grind
end
section
variable(l:List Tok)(hl:l.length<400000)
include hl
theorem YxU: ∀(k n:Nat) (b:Bool) (O:List ByteArray),l.length-n<k->n<=l.length->O.length+k<1000000-> ∃(d:List ByteArray) (n':Nat) (B:Bool),ME f_ (l,(n:Int),b,O)=U (l,(n':Int),B,d)/\n<=n'/\n'<=l.length/\d.length<=O.length+k:=by
 have A:c_=1073741824:=rfl;intro k;induction k with
 |zero=>omega
 |succ k I=>
  intro n b O h1 h2 h3;have st:ME f_ (l,(n:Int),b,O)=_:=jz (MD f_) _;simp only[MD,Ac l hl n h2 b,h_]at st;cases h:nP l n (a_ #[44])with
  |true=>
   have H:=xI h;obtain⟨t,N,g,E,h6,h7⟩:=rF l hl (n+1) (by omega) b;rw[h]at st;simp only[cond_true,jZ n (by omega)]at st;rw[E,h_,d_ _ (by grind)]at st;obtain⟨o,p,q,w,h8,y,z⟩:=I N g (O++[t]) (by omega) h7 (by grind);refine⟨o,p,q,st.trans w,by omega,y,?_⟩;grind
  |false=>grind
theorem Ad(n:Nat)(hn:n<=l.length)(b:Bool): ∃(t:List ByteArray) (n':Nat) (B:Bool),wA f_ l (n:Int) b=U (t,l,(n':Int),B)/\n<=n'/\n'<=l.length/\t.length<=400003:=by
 have h:c_=1073741824:=rfl;unfold wA;rw[F8 l hl n hn b,h_];(try dsimp only);cases decide ((tk l n).1=1)with
 |false=>exact⟨[],n,b,rfl,by omega,hn,by simp⟩
 |true=>
  obtain⟨t,N,d,E,h1,h2⟩:=rF l hl n hn b;obtain⟨o,k,p,g,h3,h4,h5⟩:=YxU l hl 400001 N d [t] (by omega) h2 (by simp);simp only[qJ,cond_false];rw[E,h_];(try dsimp only);rw[d_ _ (by simp_all)];rw[g,h_];(try dsimp only);grind
theorem YxV: ∀(k n:Nat) (b:Bool) (O:List ByteArray),l.length-n<k->n<=l.length->O.length+k<1000000-> ∃(d:List ByteArray) (n':Nat) (B:Bool),M0 f_ (l,(n:Int),b,O)=U (l,(n':Int),B,d)/\n<=n'/\n'<=l.length:=by
 have q:c_=1073741824:=rfl;intro k;induction k with
 |zero=>omega
 |succ k I=>
  intro n b O h1 h2 h3;have st:M0 f_ (l,(n:Int),b,O)=_:=jz (MZ f_) _;simp only[MZ,F8 l hl n h2 b,JT l hl n h2 b,h_]at st;by_cases h:(tk l n).1=1
  .have H:=vL (l:=l) (n:=n) (by omega);rw[cT _ _ h]at st;simp only[if_pos h]at st;rw[d_ _ (by grind)]at st;obtain⟨o,N,g,E,h8,p⟩:=I (n+1) b (O++[(tk l n).2.1]) (by omega) (by omega) (by grind);exact⟨o,N,g,st.trans E,by omega,p⟩
  grind
theorem Vv(n:Nat)(hn:n<=l.length)(b:Bool): ∃(t:List ByteArray) (n':Nat) (B:Bool),FV f_ l (n:Int) b=U (t,l,(n':Int),B)/\n<=n'/\n'<=l.length:=by
 unfold FV;obtain⟨o,N,d,E,h3,h4⟩:=YxV l hl 400001 n b [] (by omega) hn (by simp);rw[E,h_];(try dsimp only);grind
abbrev QT:=ByteArray×Int×Int×ByteArray
theorem YxW(v2 A:ByteArray)(h3:List QT): ∀(k n:Nat) (b:Bool) (O:List QT),2*(l.length-n)+(bif b then 0 else 1)<k->n<=l.length->O.length+k<1000000->
  ∃(d:List QT) (n':Nat) (h:Bool),Eb f_ (l,(n:Int),b,v2,A,h3,O)=U (l,(n':Int),h,v2,A,h3,d)/\n<=n'/\n'<=l.length:=by
 have F:c_=1073741824:=rfl;intro k;induction k with
 |zero=>omega
 |succ k I=>
  intro n b O h1 h2 J;have st:Eb f_ (l,(n:Int),b,v2,A,h3,O)=_:=jz (MF f_) _;simp only[MF,Ac l hl n h2 b,h_]at st;cases q:nP l n (a_ #[41])with
  |true=>grind
  |false=>
   rw[q]at st;simp only[qz,cond_true]at st;cases b with
   |true=>grind
   |false=>
    simp only[qz,cond_true]at st;simp only[cond_false]at h1;have G: ∀(m:Nat) (g:Bool),n<=m->m<=l.length->(∀(a:ByteArray) (x y:Int) (z:ByteArray) (N:Nat) (B:Bool),FU f_ l (m:Int) g=U (a,x,y,z,l,(N:Int),B)->Eb f_ (l,(n:Int),zj,v2,A,h3,O)=Eb f_ (l,(N:Int),B,v2,A,h3,O++[(a,x,y,z)]))->
      ∃(d:List QT) (n':Nat) (h:Bool),Eb f_ (l,(n:Int),zj,v2,A,h3,O)=U (l,(n':Int),h,v2,A,h3,d)/\n<=n'/\n'<=l.length:=by
     intro m g L K M;obtain⟨a,x,y,z,N,B,E,h6,h7,h8⟩:=YxT l hl m K g;have H:2*(l.length-N)+(bif B then 0 else 1)<k:=by
      grind
     obtain⟨o,P,Q,R,S,w⟩:=I N B (O++[(a,x,y,z)]) H h7 (by grind);grind
    cases p:decide ((0:Int)< (O.length:Int))with
    |true=>
     rw[p]at st;obtain⟨C,g,D,h4,h5⟩:=oS l hl n h2 zj (a_ #[44]);simp only[cond_true]at st;rw[D,h_]at st;refine G C g h4 h5 (λa x y z N B E=> ?_);simp only at st;rw[E,h_,d_ _ (by grind)]at st;exact st
    |false=>
     rw[p]at st;simp only[cond_false]at st;refine G n zj (jG _) h2 (λa x y z N B E=> ?_);rw[E,h_,d_ _ (by simp_all)]at st;exact st
theorem YqN(n:Nat)(hn:n<=l.length)(b:Bool): ∃(a:ByteArray) (t:List QT) (n':Nat) (B:Bool),Jn f_ l (n:Int) b=U (a,t,l,(n':Int),B)/\n<=n'/\n'<=l.length:=by
 unfold Jn;obtain⟨t,N,d,E,h1,h2⟩:=rF l hl n hn b;obtain⟨g,h,k,h3,h4⟩:=oS l hl N h2 d (a_ #[40]);obtain⟨o,p,q,w,h5,h6⟩:=YxW l hl (a_ #[]) t [] 800002 g h [] (by grind) h4 (by simp);obtain⟨z,A,y,h7,h8⟩:=oS l hl p h6 q (a_ #[41]);rw[E,h_];(try dsimp only);rw[k,h_];(try dsimp only);rw[w,h_];(try dsimp only);rw[y,h_];(try dsimp only);grind
theorem YqO(v:List ByteArray)(d:v.length<1000000)(s:ByteArray): ∃i:Int,Jp f_ v s=U i/\ -1<=i/\i<1000000:=by
 have: ∃z,Ut f_ (v,s,0)=U z/\ ∀i,z= .inl i->0<=i/\i< (v.length:Int):=by
  refine⟨_,Eg (λn=>(v,s,(n:Int))) (λm=>bif decide (v.getD m (a_ #[])=s)then U (.inl (m:Int))else zz) v.length (.inr ()) rfl ?_ (λn hn=> ?_),λi h=> ?_⟩
  .simp[MJ]
  .simp only[MJ,mN,jZ n (by omega)];rw[cT _ _ (by omega),d_ _ (by omega)];grind
  .rcases U4 (f:=λm=>bif decide (v.getD m (a_ #[])=s)then U (.inl (m:Int))else zz) (r0:=(.inr ():Int⊕Unit)) v.length 0 with⟨m,r,k,K,g,p⟩| ⟨k,_⟩
   .grind
   simp_all
 obtain⟨z,e,H⟩:=this;unfold Jp Uu;rw[e,h_];(try dsimp only);cases z with
 |inl i=>have:=H i rfl;exact⟨i,rfl,by omega,by omega⟩
 |inr u=>exact⟨-1,rfl,by omega,by omega⟩
theorem YqP(n:Nat)(hn:n<=l.length)(b:Bool): ∃(w x y:Int) (z:ByteArray) (n':Nat) (B:Bool),Jr f_ l (n:Int) b=U (w,x,y,z,l,(n':Int),B)/\n<=n'/\n'<=l.length:=by
 unfold Jr Ur;obtain⟨d,N,g,E,h1,h2⟩:=rF l hl n hn b;obtain⟨i,h,_⟩:=YqO l hl [(a_ #[101,113,117,97,108]),(a_ #[101,100,105,116,115]),(a_ #[103,114,97,109,115]),(a_ #[108,101,97,100,105,110,103])] (by simp) d;rw[h_];(try dsimp only);rw[E,h_];(try dsimp only);rw[h,h_];(try dsimp only);generalize g_ .i64 (1+i)=q;have T: ∀c:Bool,∃(w x y:Int) (z:ByteArray) (n':Nat) (B:Bool),Jq f_ (l,(N:Int),c,0,0,0,a_ #[],0,q,0,a_ #[])=U (l,(n':Int),B,w,x,y,z)/\n<=n'/\n'<=l.length:=by
  intro c;simp only[Jq];obtain⟨t2,k,p,A,h3,h4⟩:=rF l hl N h2 c;rw[A,h_];(try dsimp only);cases decide (1<q)with
  |true=>
   obtain⟨J,K,L,C,h5,h6⟩:=YqL l hl k h4 p;rw[C,h_];(try dsimp only);grind
  |false=>grind
 obtain⟨w,x,y,z,n',B,D,h7,h8⟩:=T zZ;obtain⟨W,X,Y,Z,F,G,H,M,I⟩:=T g;rw[D,H,h_];(try dsimp only);rw[h_];(try dsimp only);cases decide (q=0)with
 |true=>grind
 |false=>grind
theorem YqQ(n:Nat)(hn:n<=l.length)(b:Bool): ∃(v:Int) (a:ByteArray) (x y:Int) (z:ByteArray) (n':Nat) (d:Bool),Js f_ l (n:Int) b=U (v,a,x,y,z,l,(n':Int),d)/\n<=n'/\n'<=l.length/\ (n<n'\/d=zZ):=by
 unfold Js;obtain⟨x,y,z,N,B,E,h1,h2,h3⟩:=Vu l hl n hn b;rw[E,h_];(try dsimp only);rw[Ac l hl N h2 B,h_];(try dsimp only);cases h:nP l N (a_ #[46])with
 |false=>exact⟨_,_,_,_,_,N,B,rfl,h1,h2,h3⟩
 |true=>
  have H:=xI h;simp only[qJ,cond_false,jZ N (by omega)];obtain⟨t,g,k,p,h4,h5⟩:=rF l hl (N+1) (by omega) B;rw[p,h_];(try dsimp only);cases decide (x=1)with
  |false=>exact⟨_,_,_,_,_,N+1,zZ,rfl,by omega,by omega,.inr rfl⟩
  |true=>
   cases decide (y<1)with
   |true=>exact⟨_,_,_,_,_,N+1,zZ,rfl,by omega,by omega,.inr rfl⟩
   |false=>
    cases decide (3<y)with
    |true=>exact⟨_,_,_,_,_,N+1,zZ,rfl,by omega,by omega,.inr rfl⟩
    |false=>exact⟨_,_,_,_,_,g,k,rfl,by omega,h5,.inl (by omega)⟩
theorem YxX(n:Nat)(hn:n<=l.length)(b:Bool): ∃(v:Int) (n':Nat) (B:Bool),MW f_ l (n:Int) b=U (v,l,(n':Int),B)/\n<=n'/\n'<=l.length/\ (b=zZ->B=zZ):=by
 unfold MW;have L: ∀(k i:Nat),4-i<k->(∃(v:Int) (n':Nat),Ec f_ ([(a_ #[61]),(a_ #[33,61]),(a_ #[60]),(a_ #[60,61])],(i:Int),l,(n:Int),b)=U (.inl (v,l,(n':Int),b))/\n<=n'/\n'<=l.length)\/Ec f_ ([(a_ #[61]),(a_ #[33,61]),(a_ #[60]),(a_ #[60,61])],(i:Int),l,(n:Int),b)=U (.inr (l,(n:Int),b)):=by
  intro k;induction k with
  |zero=>omega
  |succ k I=>
   intro i h;have st:Ec f_ ([(a_ #[61]),(a_ #[33,61]),(a_ #[60]),(a_ #[60,61])],(i:Int),l,(n:Int),b)=_:=jz (MU f_) _;simp only[MU,Ac l hl n hn b,h_]at st;by_cases d:i<4
   .rw[cT _ _ (by grind),d_ _ (by simp;omega),jZ i (by omega)]at st;generalize List.getD _ (Int.toNat (i:Int)) (a_ #[])=w at st;cases H:nP l n w with
    |true=>have:=xI H;rw[H]at st;simp only[cond_true,jZ n (by omega)]at st;exact .inl ⟨_,n+1,st,by omega,by omega⟩
    |false=>
     rw[H]at st;rcases I (i+1) (by omega)with⟨v,n',e,h1,h2⟩|e
     .exact .inl ⟨v,n',st.trans e,h1,h2⟩
     .exact .inr (st.trans e)
   .rw[cF _ _ (by grind)]at st;simp_all
 rcases L 5 0 (by omega)with⟨v,n',e,h1,h2⟩|e
 .have e:Ec f_ ([(a_ #[61]),(a_ #[33,61]),(a_ #[60]),(a_ #[60,61])],0,l,(n:Int),b)=_:=e;rw[e,h_];(try dsimp only);rw[wC];grind
 .have e:Ec f_ ([(a_ #[61]),(a_ #[33,61]),(a_ #[60]),(a_ #[60,61])],0,l,(n:Int),b)=_:=e;rw[e,h_];(try dsimp only);rw[uD];grind
end
end
end Go.Abs.iA
namespace Go.Abs.iA
open Go Go.Abs
noncomputable section
set_option maxRecDepth 100000
instance{A B:Type}[Eqb A][Eqb B][a:oQ A][b:oQ B]:oQ (A⊕B):=⟨λy=>by cases y with|inl x=>exact a.r x|inr x=>exact b.r x⟩
theorem YxY{B:Type}(p:Prop)[Decidable p]:e_ p (zz:Option B)=none:=by by_cases h:p<;>simp[e_,h]
abbrev nR:=List (Bool×Int×Int×ByteArray)
abbrev oz:=List (Int×ByteArray×Int×Int×ByteArray)
abbrev oT:=List (List (Int×Int×Int×ByteArray))
section
variable(l:List Tok)(hl:l.length<400000)
include hl
theorem YxZ(s0 s1 s2 s3:ByteArray)(s4:List ByteArray)(s5:Int)(s6:List ByteArray)(h2:List ByteArray)(h3:nR)(h4:jT)(h5:oz)(h6:List Int)(h8:oT)(h:List Int): ∀(k n:Nat) (b:Bool) (O:kR),l.length-n<k->n<=l.length->O.length+k<1000000->
  ∃(d:kR) (n':Nat) (B:Bool),MH f_ (l,(n:Int),b,s0,s1,s2,s3,s4,s5,s6,h2,h3,h4,h5,h6,O,h8,h)=U (l,(n':Int),B,s0,s1,s2,s3,s4,s5,s6,h2,h3,h4,h5,h6,d,h8,h)/\n<=n'/\n'<=l.length:=by
 have C:c_=1073741824:=rfl;intro k;induction k with
 |zero=>omega
 |succ k I=>
  intro n b O h1 H D;have st:MH f_ (l,(n:Int),b,s0,s1,s2,s3,s4,s5,s6,h2,h3,h4,h5,h6,O,h8,h)=_:=jz (MG f_) _;simp only[MG,Ac l hl n H b,h_]at st;cases g:nP l n (a_ #[44])with
  |false=>grind
  |true=>
   have p:=xI g;rw[g]at st;cases b with
   |true=>grind
   |false=>
    obtain⟨a,t,N,q,E,F,K⟩:=YqN l hl (n+1) (by omega) zj;simp only[qz,cond_true,jZ n (by omega)]at st;rw[E,h_,d_ _ (by grind)]at st;obtain⟨o,w,y,z,G,A⟩:=I N q (O++[(a,t)]) (by omega) K (by grind);exact⟨o,w,y,st.trans z,by omega,A⟩
theorem Yx0(s0 s1 s2 s3:ByteArray)(s4:Int)(n:Nat)(hn:n<=l.length)(b:Bool): ∃y,MI f_ l (n:Int) b s0 s1 s2 s3 s4=U y/\y.2.2.2.1=s0:=by
 have K:c_=1073741824:=rfl;unfold MI;obtain⟨N,B,E,h1,h2⟩:=oS l hl n hn b (a_ #[40]);obtain⟨t,d,g,k,h3,h4,_⟩:=Ad l hl N h2 B;obtain⟨p,q,z,h5,h6⟩:=oS l hl d h4 g (a_ #[41]);obtain⟨A,C,D,h7,h8⟩:=oS l hl p h6 q (a_ #[58]);obtain⟨a,w,F,G,H,L,h⟩:=YqN l hl A h8 C;obtain⟨o,M,O,P,I,J⟩:=YxZ l hl s0 s1 s2 s3 [] s4 t [] [] [] [] [] [] [] 400001 F G [(a,w)] (by omega) h (by simp);rw[E,h_];(try dsimp only);rw[k,h_];(try dsimp only);rw[z,h_];(try dsimp only);rw[D,h_];(try dsimp only);rw[H,h_];(try dsimp only);rw[d_ _ (by simp_all)];simp_all
section
variable(s0 s1 s2 s3:ByteArray)(s4 s5:List ByteArray)(s6:Int)(s7:List ByteArray)
theorem Vw(h3:nR)(h4:jT)(h5:oz)(h6:List Int)(h7:kR)(h8:oT)(h:List Int): ∀(k n:Nat) (b:Bool) (O:List (Int×Int×Int×ByteArray)),l.length-n<k->n<=l.length->O.length+k<1000000->
  ∃(d:List (Int×Int×Int×ByteArray)) (n':Nat) (B:Bool),MN f_ (l,(n:Int),b,s0,s1,s2,s3,s4,s5,s6,s7,O,h3,h4,h5,h6,h7,h8,h)=U (l,(n':Int),B,s0,s1,s2,s3,s4,s5,s6,s7,d,h3,h4,h5,h6,h7,h8,h)/\n<=n'/\n'<=l.length:=by
 have G:c_=1073741824:=rfl;intro k;induction k with
 |zero=>omega
 |succ k I=>
  intro n b O h1 H J;have st:MN f_ (l,(n:Int),b,s0,s1,s2,s3,s4,s5,s6,s7,O,h3,h4,h5,h6,h7,h8,h)=_:=jz (MM f_) _;simp only[MM,Ac l hl n H b,h_]at st;cases g:nP l n (a_ #[44])with
  |false=>grind
  |true=>
   have p:=xI g;rw[g]at st;cases b with
   |true=>grind
   |false=>
    obtain⟨w,x,y,z,N,q,E,L,K⟩:=YqP l hl (n+1) (by omega) zj;simp only[qz,cond_true,jZ n (by omega)]at st;rw[E,h_,d_ _ (by grind)]at st;obtain⟨o,A,C,D,M,F⟩:=I N q (O++[(w,x,y,z)]) (by omega) K (by grind);exact⟨o,A,C,st.trans D,by omega,F⟩
theorem Vx(h2:nR)(h3:jT)(h4:oz)(h5:List Int)(h6:kR)(h8:List Int): ∀(k n:Nat) (b:Bool) (O:oT),l.length-n<k->n<=l.length->O.length+k<1000000->
  ∃(d:oT) (n':Nat) (B:Bool),MP f_ (l,(n:Int),b,s0,s1,s2,s3,s4,s5,s6,s7,h2,h3,h4,h5,h6,O,h8)=U (l,(n':Int),B,s0,s1,s2,s3,s4,s5,s6,s7,h2,h3,h4,h5,h6,d,h8)/\n<=n'/\n'<=l.length:=by
 have T:c_=1073741824:=rfl;intro k;induction k with
 |zero=>omega
 |succ k I=>
  intro n b O h1 h V;have st:MP f_ (l,(n:Int),b,s0,s1,s2,s3,s4,s5,s6,s7,h2,h3,h4,h5,h6,O,h8)=_:=jz (MO f_) _;simp only[MO,F8 l hl n h b,h_]at st;by_cases H:(tk l n).1=1
  .have g:=vL (l:=l) (n:=n) (by omega);rw[cT _ _ H,d_ _ (by omega),mN]at st;cases q:decide ((l.getD n ((0:Int),(a_ #[]),(0:Int),(0:Int),(a_ #[]),(0:Int),(0:Int))).2.1=a_ #[109,97,116,99,104])with
   |false=>grind
   |true=>
    rw[q]at st;cases b with
    |true=>grind
    |false=>
     obtain⟨w,x,y,z,N,p,E,W,K⟩:=YqP l hl (n+1) (by omega) zj;obtain⟨o,A,C,D,X,F⟩:=Vw l hl s0 s1 s2 s3 s4 s5 s6 s7 h2 h3 h4 h5 h6 O h8 400001 N p [(w,x,y,z)] (by omega) K (by simp);obtain⟨G,J,L,Y,M⟩:=oS l hl A F C (a_ #[124]);simp only[qz,cond_true,jZ n (by omega)]at st;rw[E,h_]at st;simp only at st;rw[D,h_]at st;simp only at st;rw[L,h_,d_ _ (by grind)]at st;obtain⟨o',P,Q,R,Z,S⟩:=I G J (O++[o]) (by omega) M (by grind);exact⟨o',P,Q,st.trans R,by omega,S⟩
  grind
theorem rl1(v:List ByteArray)(w:v.length<500000)(h2:nR)(h3:jT)(h4:oz)(h5:List Int)(h6:kR)(h7:oT)(n:Nat): ∀(k i:Nat) (b:Bool) (O:List Int),v.length-i<k->i<=v.length->O.length+k<1000000->
  ∃(d:List Int) (g:Bool),MS f_ (v,(i:Int),l,(n:Int),b,s0,s1,s2,s3,s4,s5,s6,s7,h2,h3,h4,h5,h6,h7,O)=U (l,(n:Int),g,s0,s1,s2,s3,s4,s5,s6,s7,h2,h3,h4,h5,h6,h7,d):=by
 have y:c_=1073741824:=rfl;intro k;induction k with
 |zero=>omega
 |succ k h=>
  intro i b O h1 p z;have st:MS f_ (v,(i:Int),l,(n:Int),b,s0,s1,s2,s3,s4,s5,s6,s7,h2,h3,h4,h5,h6,h7,O)=_:=jz (MQ f_) _;simp only[MQ,Uy,h_]at st;by_cases A:i<v.length
  .obtain⟨q,E,_⟩:=YqO l hl [(a_ #[102,105,114,115,116]),(a_ #[102,114,101,113,117,101,110,116]),(a_ #[108,111,110,103,101,115,116]),(a_ #[108,101,97,115,116]),(a_ #[103,114,101,97,116,101,115,116])] (by simp) (v.getD i (a_ #[]));rw[cT _ _ (by omega),d_ _ (by omega),mN,E,h_,jZ i (by omega)]at st;generalize g_ .i64 (q+1)=Q at st;cases H:decide (q<0)with
   |true=>
    rw[H]at st;rw[d_ _ (by grind)]at st;obtain⟨o,B,e⟩:=h (i+1) zZ (O++[Q]) (by omega) (by omega) (by grind);exact⟨o,B,st.trans e⟩
   |false=>
    rw[H]at st;simp only[cond_false]at st;rw[d_ _ (by grind)]at st;obtain⟨o,B,e⟩:=h (i+1) b (O++[Q]) (by omega) (by omega) (by grind);exact⟨o,B,st.trans e⟩
  simp_all
end
theorem Yx1(s0 s1 s2 s3:ByteArray)(s4:Int)(n:Nat)(hn:n<=l.length)(b:Bool): ∃y,MT f_ l (n:Int) b s0 s1 s2 s3 s4=U y/\y.2.2.2.1=s0:=by
 unfold MT;obtain⟨N,B,G,h1,h2⟩:=YqM l hl n hn b (a_ #[98,108,111,99,107]);obtain⟨t,d,g,I,h3,h4,_⟩:=Ad l hl N h2 B;obtain⟨k,p,J,h5,h6⟩:=oS l hl d h4 g (a_ #[124]);obtain⟨o,q,w,K,h7,h8⟩:=Vx l hl s0 s1 s2 s3 t [] s4 [] [] [] [] [] [] [] 400001 k p [] (by omega) h6 (by simp);obtain⟨z,A,L,M,h⟩:=YqM l hl q h8 w (a_ #[115,117,114,118,105,118,101]);obtain⟨t2,C,D,O,H,E,F⟩:=Ad l hl z h A;obtain⟨P,Q,R⟩:=rl1 l hl s0 s1 s2 s3 t [] s4 [] t2 (by omega) [] [] [] [] [] o C 500000 0 D [] (by omega) (by omega) (by simp);simp_all
theorem Yx2(s0 s1 s2 s3:ByteArray)(s4:List ByteArray)(s5:Int)(s6:List ByteArray)(h2:List ByteArray)(h3:nR)(h4:jT)(h7:kR)(h8:oT)(h:List Int): ∀(k n:Nat) (b:Bool) (S:oz) (p:List Int),2*(l.length-n)+(bif b then 0 else 1)<k->n<=l.length->S.length+2*k<3000000->p.length+k<1500000->
  ∃(g:oz) (O:List Int) (n':Nat) (B:Bool),Ed f_ (l,(n:Int),b,s0,s1,s2,s3,s4,s5,s6,h2,h3,h4,S,p,h7,h8,h)=U (l,(n':Int),B,s0,s1,s2,s3,s4,s5,s6,h2,h3,h4,g,O,h7,h8,h):=by
 have Z:c_=1073741824:=rfl;intro k;induction k with
 |zero=>omega
 |succ k Q=>
  intro n b S p h1 H hk R;have st:Ed f_ (l,(n:Int),b,s0,s1,s2,s3,s4,s5,s6,h2,h3,h4,S,p,h7,h8,h)=_:=jz (MX f_) _;simp only[MX]at st;by_cases hi:n<l.length
  .rw[cT _ _ (by omega)]at st;cases b with
   |true=>grind
   |false=>
    simp only[qz,cond_true]at st;simp only[cond_false]at h1;have L: ∀(m:Nat) (w:Bool),n<=m->m<=l.length-> ∃(n':Nat) (B:Bool) (x y:Int×ByteArray×Int×Int×ByteArray) (v:Int),Jt f_ (l,(m:Int),w,s0,s1,s2,s3,s4,s5,s6,h2,h3,h4,S,p,h7,h8,h)=U (l,(n':Int),B,s0,s1,s2,s3,s4,s5,s6,h2,h3,h4,S++[x]++[y],p++[v],h7,h8,h)/\n'<=l.length/\ (n<n'\/B=zZ)/\n<=n':=by
     intro m w K q;simp only[Jt];obtain⟨v1,a1,x1,y1,z1,A,T,C,z,M,k5⟩:=YqQ l hl m q w;obtain⟨v2,N,c2,E,k6,V,k8⟩:=YxX l hl A M T;obtain⟨v3,a3,x3,y3,z3,n3,c3,W,k9,X,Y⟩:=YqQ l hl N V c2;rw[C,h_];(try dsimp only);rw[d_ _ (by grind)]
     (try simp only)
     rw[E,h_];(try dsimp only);rw[d_ _ (by grind)]
     (try simp only)
     rw[W,h_];(try dsimp only);rw[d_ _ (by grind)];grind
    have F: ∀(n':Nat) (B:Bool) (x y:Int×ByteArray×Int×Int×ByteArray) (v:Int),n'<=l.length->(n<n'\/B=zZ)->n<=n'->Ed f_ (l,(n:Int),zj,s0,s1,s2,s3,s4,s5,s6,h2,h3,h4,S,p,h7,h8,h)=Ed f_ (l,(n':Int),B,s0,s1,s2,s3,s4,s5,s6,h2,h3,h4,S++[x]++[y],p++[v],h7,h8,h)->
      ∃(g:oz) (O:List Int) (n':Nat) (B:Bool),Ed f_ (l,(n:Int),zj,s0,s1,s2,s3,s4,s5,s6,h2,h3,h4,S,p,h7,h8,h)=U (l,(n':Int),B,s0,s1,s2,s3,s4,s5,s6,h2,h3,h4,g,O,h7,h8,h):=by
     intro n' B x y v K q z M;have D:2*(l.length-n')+(bif B then 0 else 1)<k:=by
      grind
     obtain⟨a,c,d,e,f⟩:=Q n' B (S++[x]++[y]) (p++[v]) D K (by grind) (by grind);grind
    cases P:decide ((0:Int)< (p.length:Int))with
    |true=>
     rw[P]at st;obtain⟨A,w,C,G,I⟩:=oS l hl n H zj (a_ #[44]);obtain⟨N,J,x,y,v,E,K,q,z⟩:=L A w G I;simp only[cond_true]at st;rw[C,h_]at st;simp only at st;rw[E,h_]at st;exact F N J x y v K q z st
    |false=>
     rw[P]at st;obtain⟨N,J,x,y,v,E,K,q,z⟩:=L n zj (jG _) H;simp only[cond_false]at st;rw[E,h_]at st;exact F N J x y v K q z st
  grind
theorem Yx3(s0 s1 s2 s3:ByteArray)(s4:Int)(n:Nat)(hn:n<=l.length)(b:Bool): ∃y,MY f_ l (n:Int) b s0 s1 s2 s3 s4=U y/\y.2.2.2.1=s0:=by
 unfold MY;obtain⟨d,p,N,B,e⟩:=Yx2 l hl s0 s1 s2 s3 [] s4 [] [] [] [] [] [] [] 800002 n b [] [] (by grind) hn (by simp) (by simp);simp_all
theorem Nu(s0 s1 s2 s3:ByteArray)(s4:List ByteArray)(s5:Int)(s6:List ByteArray)(h2:List ByteArray)(h3:nR)(h4:jT)(h5:oz)(h6:List Int)(h7:kR)(h8:oT)(h:List Int)(H:h3.length<1000000)(n:Nat)(hn:n<=l.length)(b:Bool):
  ∃(a:ByteArray) (c:Bool×Int×Int×ByteArray) (n':Nat) (d:Bool),sK f_ l (n:Int) b s0 s1 s2 s3 s4 s5 s6 h2 h3 h4 h5 h6 h7 h8 h=U (a,l,(n':Int),d,s0,s1,s2,s3,s4,s5,s6,h2,h4,h5,h6,h7,h8,h,h3++[c])/\n<=n'/\n'<=l.length:=by
 have w:c_=1073741824:=rfl;unfold sK;obtain⟨t,N,B,E,K,k⟩:=rF l hl n hn b;rw[E,h_];(try dsimp only);rw[Ac l hl N k B,h_];(try dsimp only);cases g:nP l N (a_ #[61])with
 |false=>
  simp only[qz,cond_true];rw[d_ _ (by grind)];grind
 |true=>
  have p:=xI g;obtain⟨x,y,z,A,C,q,D,F,_⟩:=Vu l hl (N+1) (by omega) B;simp only[qJ,cond_false,jZ N (by omega)];rw[q,h_];(try dsimp only);rw[d_ _ (by grind)];grind
end
end
end Go.Abs.iA
namespace Go.Abs.iA
open Go Go.Abs
noncomputable section
set_option maxRecDepth 100000
set_option synthInstance.maxSize 100000
set_option synthInstance.maxHeartbeats 0
section
variable(l:List Tok)(hl:l.length<400000)
include hl
theorem Yx4(s0 s1 s2 s3:ByteArray)(s4:List ByteArray)(s5:Int)(s6:List ByteArray)(h4:jT)(h5:oz)(h6:List Int)(h7:kR)(h8:oT)(h:List Int): ∀(k n:Nat) (b:Bool) (L:List ByteArray) (C:nR),l.length-n<k->n<=l.length->L.length+k<900000->C.length+k<900000->
  ∃(g:List ByteArray) (d:nR) (n':Nat) (B:Bool),Ju f_ (l,(n:Int),b,s0,s1,s2,s3,s4,s5,s6,h4,h5,h6,h7,h8,h,L,C)=U (l,(n':Int),B,s0,s1,s2,s3,s4,s5,s6,h4,h5,h6,h7,h8,h,g,d)/\n'<=l.length/\d.length<900000:=by
 have G:c_=1073741824:=rfl;intro k;induction k with
 |zero=>omega
 |succ k I=>
  intro n b L C h1 H J q;have st:Ju f_ (l,(n:Int),b,s0,s1,s2,s3,s4,s5,s6,h4,h5,h6,h7,h8,h,L,C)=_:=jz (M1 f_) _;simp only[M1,Ac l hl n H b,h_,JR]at st;cases p:nP l n (a_ #[44])with
  |false=>grind
  |true=>
   have w:=xI p;obtain⟨a,c,N,y,E,M,K⟩:=Nu l hl s0 s1 s2 s3 s4 s5 s6 L C h4 h5 h6 h7 h8 h (by omega) (n+1) (by omega) b;rw[p]at st;simp only[cond_true,jZ n (by omega)]at st;rw[E,h_]at st;rw[d_ _ (by trivial),d_ _ (by trivial),d_ _ (by trivial),d_ _ (by trivial),d_ _ (by trivial),d_ _ (by trivial),d_ _ (by trivial),d_ _ (by grind)]at st
   try rw[JR]at st
   obtain⟨o,O,z,A,D,F⟩:=I N y (L++[a]) (C++[c]) (by omega) K (by grind) (by grind);exact⟨o,O,z,A,st.trans D,F⟩
theorem Yx5(s0 s1 s2 s3:ByteArray)(s4:List ByteArray)(s5:Int)(s6:List ByteArray)(n:Nat)(hn:n<=l.length)(b:Bool):
  (Jv f_ l (n:Int) b s0 s1 s2 s3 s4 s5 s6 [] [] [] [] [] [] [] []=zz/\ ∃(r:List ByteArray) (L:List ByteArray) (C:nR) (n':Nat) (B:Bool),M2 f_ l (n:Int) b s0 s1 s2 s3 s4 s5 s6 [] [] [] [] [] [] [] []=U (l,(n':Int),B,s0,s1,s2,s3,r,s5,s6,[],[],[],[],[],[],L,C))\/
  ∃(r:List ByteArray) (C:nR) (n':Nat) (B:Bool),Jv f_ l (n:Int) b s0 s1 s2 s3 s4 s5 s6 [] [] [] [] [] [] [] []=U (l,(n':Int),B,s0,s1,s2,s3,r,s5,s6,[],[],[],[],[],[],[],C):=by
 have P:c_=1073741824:=rfl;unfold Jv M2;rw[F8 l hl n hn b,h_];(try dsimp only);rw[h_];(try dsimp only);cases decide ((tk l n).1=1)with
 |true=>
  left;simp only[cond_true,YxY,bind_none,JR,true_and];obtain⟨a,c,h,p,q,Q,K⟩:=Nu l hl s0 s1 s2 s3 s4 s5 s6 [] [] [] [] [] [] [] [] (by simp) n hn b;obtain⟨L,C,w,y,z,A,D⟩:=Yx4 l hl s0 s1 s2 s3 s4 s5 s6 [] [] [] [] [] [] 400001 h p ([]++[a]) ([]++[c]) (by omega) K (by simp) (by simp);obtain⟨N,d,E,F,k⟩:=oS l hl w A y (a_ #[45,62]);obtain⟨G,H,I,J,g,M,O⟩:=Nu l hl s0 s1 s2 s3 s4 s5 s6 L C [] [] [] [] [] [] (by omega) N k d;rw[q,h_];(try dsimp only);rw[d_ _ (by trivial),d_ _ (by trivial),d_ _ (by trivial),d_ _ (by trivial),d_ _ (by trivial),d_ _ (by trivial),d_ _ (by trivial),d_ _ (by simp_all),z,h_];(try dsimp only);rw[E,h_];(try dsimp only);rw[g,h_];(try dsimp only);rw[d_ _ (by trivial),d_ _ (by trivial),d_ _ (by trivial),d_ _ (by trivial),d_ _ (by trivial),d_ _ (by trivial),d_ _ (by trivial)];grind
 |false=>
  right;obtain⟨N,d,E,F,k⟩:=oS l hl n hn b (a_ #[45,62]);obtain⟨G,H,I,J,g,M,O⟩:=Nu l hl s0 s1 s2 s3 s4 s5 s6 [] [] [] [] [] [] [] [] (by simp) N k d;rw[E,h_];(try dsimp only);rw[g,h_];(try dsimp only);simp only;rw[d_ _ (by trivial),d_ _ (by trivial),d_ _ (by trivial),d_ _ (by trivial),d_ _ (by trivial),d_ _ (by trivial),d_ _ (by trivial)];grind
theorem YqR(v7:ByteArray)(V:Bool)(v0 v1 v2 v3:ByteArray)(v4:List ByteArray)(v5:Int)(v6:List ByteArray)(s0 s1 s2 s3:ByteArray)(s4:List ByteArray)(s5:Int)(s6:List ByteArray)(n:Nat)(hn:n<=l.length)(b:Bool):
  ∃y,Jx f_ (l,v7,V,v0,v1,v2,v3,v4,v5,v6,l,(n:Int),b,s0,s1,s2,s3,s4,s5,s6,[],[],[],[],[],[],[],[],[],[],[],[],[],[],[],[])=U y/\y.2.2.2.2.2.2.2.2.2.2.2.1=s0:=by
 simp only[Jx];cases V with
 |true=>
  obtain⟨T,N,B,E,h1,h2⟩:=Vv l hl n hn b;obtain⟨d,g,p,h3,h4⟩:=oS l hl N h2 B (a_ #[45,62]);obtain⟨q,w,z,A,h5,h6⟩:=Vv l hl d h4 g;obtain⟨h,k,C,D,H⟩:=oS l hl N h2 B (a_ #[45,62,62]);obtain⟨F,G,I,J,K,L⟩:=Vv l hl h H k;cases decide (s0=a_ #[102,100])with
  |true=>simp_all
  |false=>simp_all
 |false=>
  cases decide (v7=a_ #[99,102,100])with
  |true=>
   rcases Yx5 l hl s0 s1 s2 s3 s4 s5 s6 n hn b with⟨e,r,O,M,N,B,E⟩| ⟨r,M,N,B,E⟩
   .rw[e,Nr,E,h_];(try dsimp only);rw[d_ _ (by trivial),d_ _ (by trivial),d_ _ (by trivial),d_ _ (by trivial),d_ _ (by trivial),d_ _ (by trivial)];simp
   .rw[E,Nq];rw[d_ _ (by trivial),d_ _ (by trivial),d_ _ (by trivial),d_ _ (by trivial),d_ _ (by trivial),d_ _ (by trivial),d_ _ (by trivial)];simp
  |false=>
   obtain⟨T,N,B,E,h1,h2,_⟩:=Ad l hl n hn b;obtain⟨d,g,p,h3,h4⟩:=oS l hl N h2 B (a_ #[126,62]);obtain⟨q,w,z,A,h5,h6,_⟩:=Ad l hl d h4 g;simp_all
theorem YqS(V:Bool)(v0 v1 v2 v3:ByteArray)(v4:List ByteArray)(v5:Int)(v6:List ByteArray)(s0 s1 s2 s3:ByteArray)(s4:List ByteArray)(s5:Int)(s6:List ByteArray)(n:Nat)(hn:n<=l.length)(b:Bool):
  ∃Z,Ee f_ (l,V,v0,v1,v2,v3,v4,v5,v6,l,(n:Int),b,s0,s1,s2,s3,s4,s5,s6,[],[],[],[],[],[],[],[],[],[],[],[],[],[],[],[])=U Z/\ (match Z with| .inl y=>y.2.2.2.2.2.2.2.2.2.2.2.1=s0| .inr z=>z.1=zj):=by
 simp only[Ee];cases V with
 |false=>simp
 |true=>
  obtain⟨T,d,g,p,h1,h2⟩:=rF l hl n hn b;obtain⟨t2,h,k,q,h3,h4⟩:=rF l hl d h2 g;obtain⟨N,B,w,h5,h6⟩:=oS l hl h h4 k (a_ #[58]);obtain⟨y,A,h7⟩:=YqR l hl s0 zZ v0 v1 v2 v3 v4 v5 v6 s0 T t2 s3 s4 s5 s6 N h6 B;obtain⟨Y,E,H⟩:=YqR l hl s0 (decide (s0=a_ #[109,118,100])) v0 v1 v2 v3 v4 v5 v6 s0 T t2 s3 s4 s5 s6 N h6 B;cases decide (s0=a_ #[102,100])with
  |true=>simp_all
  |false=>simp_all
omit hl in
theorem Nv: ∀x,∃z,sN f_ x=U z/\z.2.1=x.2.2.2.2.2.2.2.2.2.2.2.1:=by
 rintro⟨l0,v0,v1,v2,v3,v4,v5,v6,l,n,b,s0,s1,s2,s3,s4,s5,s6,s7,h3,h4,h5,h6,h7,h8,h9,h10,h11,h12,h13,h14,h15,h16,h17⟩;simp only[sN];cases b with
 |true=>exact⟨_,rfl,rfl⟩
 |false=>exact⟨_,rfl,rfl⟩
omit hl in
theorem JV{B:Type}{P:B->Prop}(x)(f)(h: ∀z,z.2.1=x.2.2.2.2.2.2.2.2.2.2.2.1-> ∃y:B,f z=U y/\P y): ∃y,d' (sN f_ x) f=U y/\P y:=by
 obtain⟨z,e,hz⟩:=Nv x;rw[e,h_];(try dsimp only);exact h z hz
theorem Yx6(t:ByteArray)(n:Nat)(b:Bool)(hn:n<=l.length)(Q:nE f_ l 0 zj=U (t,l,(n:Int),b))(R:t≠mn):
  ∃y,zX f_ l=U y/\ (y.2.2.2.2.2.2.2.2.2.2.2.2.2.2.2=zj\/y.1=t):=by
 unfold zX;rw[Q,h_];(try dsimp only)
 (try simp only)
 refine BL ?_ ?_
 .obtain⟨t2,N,B,E,h1,h2⟩:=rF l hl n hn b;obtain⟨g,h,d,h3,h4⟩:=oS l hl N h2 B (a_ #[40]);obtain⟨T,p,q,k,h5,h6,_⟩:=Ad l hl g h4 h;obtain⟨A,C,D,h7,h8⟩:=oS l hl p h6 q (a_ #[41]);rw[E,h_];(try dsimp only);rw[d,h_];(try dsimp only);rw[k,h_];(try dsimp only);rw[D,h_];(try dsimp only);obtain⟨z,F,G⟩:=Nv (l,a_ #[],a_ #[],a_ #[],a_ #[],[],0,[],l,(A:Int),C,t,a_ #[],t2,a_ #[],T,[],0,[],[],[],[],[],[],[],[],[],[],[],[],[],[],[],[]);simp_all
 rw[cF _ _ R];refine BL ?_ ?_
 .obtain⟨t2,N,B,E,h1,h2⟩:=rF l hl n hn b;obtain⟨g,h,d,h3,h4⟩:=oS l hl N h2 B (a_ #[58]);obtain⟨T,p,q,k,h5,h6,_⟩:=Ad l hl g h4 h;rw[E,h_];(try dsimp only);rw[d,h_];(try dsimp only);rw[k,h_];(try dsimp only);obtain⟨z,F,G⟩:=Nv (l,a_ #[],a_ #[],a_ #[],a_ #[],[],0,[],l,(p:Int),q,t,a_ #[],t2,a_ #[],T,[],0,[],[],[],[],[],[],[],[],[],[],[],[],[],[],[],[]);simp_all
 refine BL ?_ ?_
 .obtain⟨t2,N,B,E,h1,h2⟩:=rF l hl n hn b;obtain⟨I,g,h,d,h3,h4⟩:=rF l hl N h2 B;obtain⟨p,q,k,h5,h6⟩:=oS l hl g h4 h (a_ #[40]);obtain⟨S,A,C,D,h7,h8,_⟩:=Ad l hl p h6 q;obtain⟨V,W,F,G,J⟩:=oS l hl A h8 C (a_ #[41]);obtain⟨X,Y,e7,a0,K⟩:=oS l hl V J W (a_ #[60,61]);obtain⟨t8,n8,b8,e8,a1,L⟩:=rF l hl X K Y;obtain⟨n9,b9,e9,a2,M⟩:=oS l hl n8 L b8 (a_ #[40]);obtain⟨ta,na,ba,ea,a3,O,_⟩:=Ad l hl n9 M b9;obtain⟨nb,bb,eb,a4,a5⟩:=oS l hl na O ba (a_ #[41]);rw[E,h_];(try dsimp only);rw[d,h_];(try dsimp only);rw[k,h_];(try dsimp only);rw[D,h_];(try dsimp only);rw[F,h_];(try dsimp only);rw[e7,h_];(try dsimp only);rw[e8,h_];(try dsimp only);rw[e9,h_];(try dsimp only);rw[ea,h_];(try dsimp only);rw[eb,h_];(try dsimp only);obtain⟨z,ez,H⟩:=Nv (l,a_ #[],a_ #[],a_ #[],a_ #[],[],0,[],l,(nb:Int),bb,t,t2,I,t8,S,ta,0,[],[],[],[],[],[],[],[],[],[],[],[],[],[],[],[]);simp_all
 refine BL ?_ ?_
 .obtain⟨t2,N,B,E,h1,h2⟩:=rF l hl n hn b;obtain⟨y,d,h3⟩:=Yx0 l hl t t2 (a_ #[]) (a_ #[]) 0 N h2 B;rw[E,h_];(try dsimp only);rw[d,h_];(try dsimp only);refine JV _ _ λz H=>⟨_,rfl,.inr (H.trans h3)⟩
 refine BL ?_ ?_
 .obtain⟨t2,N,B,E,h1,h2⟩:=rF l hl n hn b;obtain⟨g,h,d,h3,h4⟩:=oS l hl N h2 B (a_ #[58]);obtain⟨y,k,h5⟩:=Yx1 l hl t (a_ #[]) t2 (a_ #[]) 0 g h4 h;rw[E,h_];(try dsimp only);rw[d,h_];(try dsimp only);rw[k,h_];(try dsimp only);refine JV _ _ λz H=>⟨_,rfl,.inr (H.trans h5)⟩
 refine BL ?_ ?_
 .obtain⟨t2,N,B,E,h1,h2⟩:=rF l hl n hn b;obtain⟨I,g,h,d,h3,h4⟩:=rF l hl N h2 B;obtain⟨x4,p,q,k,h5,h6⟩:=YqL l hl g h4 h;obtain⟨A,C,D,h7,h8⟩:=oS l hl p h6 q (a_ #[58]);obtain⟨y,F,G⟩:=Yx3 l hl t t2 I (a_ #[]) x4 A h8 C;rw[E,h_];(try dsimp only);rw[d,h_];(try dsimp only);rw[k,h_];(try dsimp only);rw[D,h_];(try dsimp only);rw[F,h_];(try dsimp only);refine JV _ _ λz H=>⟨_,rfl,.inr (H.trans G)⟩
 obtain⟨Z,e,H⟩:=YqS l hl zZ (a_ #[]) (a_ #[]) (a_ #[]) (a_ #[]) [] 0 [] t (a_ #[]) (a_ #[]) (a_ #[]) [] 0 [] n hn b;obtain⟨Z',e',P⟩:=YqS l hl (decide (t=a_ #[111,100])) (a_ #[]) (a_ #[]) (a_ #[]) (a_ #[]) [] 0 [] t (a_ #[]) (a_ #[]) (a_ #[]) [] 0 [] n hn b;rw[e,h_];(try dsimp only)
 try rw[e',h_]
 clear e e'
 repeat' apply BL
 all_goals first
  | (cases Z with
    |inl y=>
     rw[wC];exact JV y _ λz w=>⟨_,rfl,.inr (w.trans H)⟩
    |inr z=>rw[uD];exact⟨_,rfl,.inl H⟩)
  | (cases Z' with
    |inl y=>
     rw[wC];exact JV y _ λz w=>⟨_,rfl,.inr (w.trans P)⟩
    |inr z=>rw[uD];simp_all)
  |trace_state
end
end
end Go.Abs.iA
namespace Go.Abs.iA
open Go Go.Abs
noncomputable section
set_option maxRecDepth 100000
set_option synthInstance.maxSize 100000
set_option synthInstance.maxHeartbeats 0
abbrev bE:ByteArray:=a_ #[]
abbrev lE:List ByteArray:=[]
abbrev PST:=List Tok×Int×Bool×ByteArray×ByteArray×ByteArray×ByteArray×List ByteArray×List ByteArray×Int×Int×List ByteArray×nQ×oy×kR×oR×List Int×jT
abbrev RST:=List Tok×ByteArray×ByteArray×ByteArray×ByteArray×List ByteArray×Int×List ByteArray×List Tok×Int×Bool×ByteArray×ByteArray×ByteArray×ByteArray×List ByteArray×Int×List ByteArray×List ByteArray×nR×jT×oz×List Int×kR×oT×List Int×List ByteArray×nR×jT×oz×List Int×kR×oT×List Int
abbrev pS(l:List Tok)(t2:ByteArray)(num:Int)(n:Nat)(b:Bool)(o:jT):PST:=(l,(n:Int),b,mn,bE,t2,bE,lE,lE,num,(0:Int),lE,([]:nQ),([]:oy),([]:kR),([]:oR),([]:List Int),o)
abbrev rS(l:List Tok)(t2:ByteArray)(num:Int)(n:Nat)(b:Bool)(o:jT):RST:=(l,bE,bE,bE,bE,lE,(0:Int),lE,l,(n:Int),b,mn,bE,t2,bE,lE,num,lE,lE,([]:nR),([]:jT),([]:oz),([]:List Int),([]:kR),([]:oT),([]:List Int),lE,([]:nR),o,([]:oz),([]:List Int),([]:kR),([]:oT),([]:List Int))
def vC(l:List Tok)(n:Nat):Int×Int×ByteArray:=((tk l n).2.2.1,(tk l n).2.2.2.1,(tk l n).2.2.2.2.1)
section
variable(l:List Tok)(hl:l.length<400000)(t2:ByteArray)(num:Int)
theorem Et(n:Nat)(b:Bool)(o:jT)(h:b=zZ\/l.length<=n):uB f_ (rS l t2 num n b o)=U (rS l t2 num n b o):=by
 have st:uB f_ (rS l t2 num n b o)=_:=jz (ym f_) _;simp only[ym,rS]at st;grind
theorem Vy(n:Nat)(b:Bool)(o:jT)(h:b=zZ\/l.length<=n):zM f_ (pS l t2 num n b o)=U (pS l t2 num n b o):=by
 have st:zM f_ (pS l t2 num n b o)=_:=jz (FN f_) _;simp only[FN,pS]at st;grind
def sO(n:Nat)(o:jT):=if(tk l n).1=2 then uB f_ (rS l t2 num (n+1) zj (o++[vC l n]))else uB f_ (rS l t2 num n zZ (o++[(0,0,bE)]))
def JW(x:Option PST)(y:Option RST):Prop:= ∃(N:Nat) (B:Bool) (O:jT) (d:Nat) (g:Bool) (h:jT),x=U (pS l t2 num N B O)/\y=U (rS l t2 num d g h)/\ ((B=zZ\/N≠l.length)/\ (g=zZ\/d≠l.length)\/N=l.length/\d=l.length/\B=zj/\g=zj/\O=h/\O.length<1000000/\ ∀v∈O,v.2.2.size<=200)
variable(hT: ∀t∈l,TB t)
theorem Yx7(hT: ∀t∈l,TB t)(n:Nat)(hn:n<l.length):(vC l n).2.2.size<=200:=by
 have:tk l n∈l:=by
  unfold tk;simp_all
 exact hT _ this
include hl
theorem Yx8(n:Nat)(o:jT)(hn:n<l.length)(h:o≠ [])(H:o.length<1000000):uB f_ (rS l t2 num n zj o)=bif nP l n F6 then sO l t2 num (n+1) o else uB f_ (rS l t2 num n zj o):=by
 have g:c_=1073741824:=rfl;have p:0<o.length:=List.length_pos_iff.2 h;cases d:nP l n F6 with
 |false=>rfl
 |true=>
  have st:uB f_ (rS l t2 num n zj o)=_:=jz (ym f_) _;simp only[ym,rS,qz,cond_true]at st;rw[cT _ _ (by omega),cT _ _ (by omega),Nt l hl n (by omega) zj,d,cond_true,h_]at st;rw[JU l hl (n+1) (by omega) zj,h_]at st;rw[cond_true,sO];by_cases h2:(tk l (n+1)).1=2
  .rw[if_pos h2]at st⊢;rw[d_ _ (by grind)]at st;exact st
  .rw[if_neg h2]at st⊢;rw[d_ _ (by grind)]at st;exact st
theorem Yx9(n:Nat)(o:jT)(hn:n<l.length)(h:o≠ [])(H:o.length<1000000)(d:nP l n F6=zj): ∃(N:Nat) (O:jT),uB f_ (rS l t2 num n zj o)=U (rS l t2 num N zZ O):=by
 have g:c_=1073741824:=rfl;have p:0<o.length:=List.length_pos_iff.2 h;have st:uB f_ (rS l t2 num n zj o)=_:=jz (ym f_) _;simp only[ym,rS,qz,cond_true]at st;rw[cT _ _ (by omega),cT _ _ (by omega),Nt l hl n (by omega) zj,d,cond_false,h_]at st;rw[JU l hl n (by omega) zZ,h_]at st;by_cases h2:(tk l n).1=2
 .rw[if_pos h2]at st;rw[d_ _ (by grind)]at st;exact⟨n+1,_,st.trans (Et l t2 num (n+1) zZ _ (.inl rfl))⟩
 .rw[if_neg h2]at st;rw[d_ _ (by grind)]at st;exact⟨n,_,st.trans (Et l t2 num n zZ _ (.inl rfl))⟩
include hT in
theorem Yya: ∀(k n:Nat) (o:jT),l.length-n<k->n<l.length->o.length+k<900000->(∀v∈o,v.2.2.size<=200)->JW l t2 num (zM f_ (pS l t2 num n zj o)) (sO l t2 num n o):=by
 have hm:c_=1073741824:=rfl;intro k;induction k with
 |zero=>intro n o h1;omega
 |succ k ih=>
  intro n o h1 hn hk hO;have st:zM f_ (pS l t2 num n zj o)=_:=jz (FN f_) _;simp only[FN,pS,qz,cond_true]at st;rw[cT _ _ (by omega),Vq l hl n (by omega) zj,h_]at st;by_cases h2:(tk l n).1=2
  .rw[if_pos h2]at st;simp only at st;rw[d_ _ (by simp only[qG];omega),Vp l hl (n+1) (by omega) zj,h_]at st;simp only[qz,Bool.true_and]at st;rw[sO,if_pos h2];have F_:o++[vC l n]≠ []:=by simp
   have hO2: ∀v∈o++[vC l n],v.2.2.size<=200:=by
    intro v hv;rcases uE.1 hv with h|h
    .exact hO v h
    .rw[uV.1 h];exact Yx7 l hT n hn
   have hle:(o++[vC l n]).length<1000000:=by simp only[nV,qG];omega
   cases hs:nP l (n+1) F6 with
   |false=>
    rw[hs]at st;simp only[cond_false,qz,cond_true]at st;by_cases he:n+1=l.length
    .exact⟨n+1,zj,_,n+1,zj,_,st,Et l t2 num (n+1) zj _ (.inr (by omega)),.inr ⟨he,he,rfl,rfl,rfl,hle,hO2⟩⟩
    .obtain⟨n2,o2,e⟩:=Yx9 l hl t2 num (n+1) (o++[vC l n]) (by omega) F_ hle hs;exact⟨n+1,zj,_,n2,zZ,o2,st,e,.inl ⟨.inr he,.inl rfl⟩⟩
   |true=>
    have PO:=xI hs;rw[hs]at st;simp only[cond_true,qJ,cond_false]at st;rw[Yx8 l hl t2 num (n+1) _ PO F_ hle,hs,cond_true];by_cases he:n+1+1=l.length
    .have hd:decide (((n+1+1:Nat):Int)=(l.length:Int))=true:=decide_eq_true (by omega);rw[hd]at st;have e2: ¬ (tk l (n+1+1)).1=2:=by rw[Er (by omega)];decide
     refine⟨n+1+1,zZ,o++[vC l n],n+1+1,zZ,(o++[vC l n])++[(0,0,bE)],st.trans (Vy l t2 num (n+1+1) zZ _ (.inl rfl)),?_,.inl ⟨.inl rfl,.inl rfl⟩⟩;rw[sO,if_neg e2];exact Et l t2 num (n+1+1) zZ _ (.inl rfl)
    .have hd:decide (((n+1+1:Nat):Int)=(l.length:Int))=false:=decide_eq_false (by omega);rw[hd]at st;have:=ih (n+1+1) (o++[vC l n]) (by omega) (by omega) (by simp only[nV,qG];omega) hO2;rw[show zM f_ (pS l t2 num n zj o)=zM f_ (pS l t2 num (n+1+1) zj (o++[vC l n]))from st];exact this
  .rw[if_neg h2]at st;simp only at st;rw[d_ _ (by simp only[qG];omega),Vp l hl n (by omega) zZ,h_]at st;simp only[qJ,Bool.false_and,cond_false,qz,cond_true]at st;rw[sO,if_neg h2];exact⟨n,zZ,_,n,zZ,_,st,Et l t2 num n zZ _ (.inl rfl),.inl ⟨.inl rfl,.inl rfl⟩⟩
include hT in
theorem Yyb(n:Nat)(b:Bool)(hn:n<=l.length):JW l t2 num (zM f_ (pS l t2 num n b [])) (uB f_ (rS l t2 num n b [])):=by
 have hm:c_=1073741824:=rfl;cases b with
 |true=>exact⟨n,zZ,[],n,zZ,[],Vy l t2 num n zZ _ (.inl rfl),Et l t2 num n zZ _ (.inl rfl),.inl ⟨.inl rfl,.inl rfl⟩⟩
 |false=>
  by_cases hi:n<l.length
  .have e:uB f_ (rS l t2 num n zj [])=sO l t2 num n []:=by
    have st:uB f_ (rS l t2 num n zj [])=_:=jz (ym f_) _;simp only[ym,rS,qz,cond_true]at st;rw[cT _ _ (by omega),cF _ _ (by simp only[uU];omega),JU l hl n (by omega) zj,h_]at st;rw[sO];by_cases h2:(tk l n).1=2
    .rw[if_pos h2]at st⊢;simp only at st;rw[d_ _ (by simp only[qG,uU];omega)]at st;exact st
    .rw[if_neg h2]at st⊢;simp only at st;rw[d_ _ (by simp only[qG,uU];omega)]at st;exact st
   rw[e];exact Yya l hl t2 num hT 400001 n [] (by omega) hi (by simp) (by simp)
  .exact⟨n,zj,[],n,zj,[],Vy l t2 num n zj _ (.inr (by omega)),Et l t2 num n zj _ (.inr (by omega)),.inr ⟨by omega,by omega,rfl,rfl,rfl,by simp,by simp⟩⟩
include hT in
theorem Yyc(n:Nat)(b:Bool)(hn:n<=l.length)(ht:mX f_ l 0 zj=U (mn,l,(n:Int),b))(ht':nE f_ l 0 zj=U (mn,l,(n:Int),b)):
  ∃y z,zO f_ l=U y/\zX f_ l=U z/\ (y.2.2.2.2.2.2.2.2.2.2.2.2.2.2.2=2/\z.2.2.2.2.2.2.2.2.2.2.2.2.2.2.2=zj\/
   y.2.2.2.2.2.2.2.2.2.2.2.2.2.2.2=0/\z.2.2.2.2.2.2.2.2.2.2.2.2.2.2.2=zZ/\y.1=mn/\z.1=mn/\y.2.2.1=z.2.2.1/\y.2.2.2.2.2.2.1=z.2.2.2.2.2.2.2.1/\y.2.2.2.2.2.2.2.1=z.2.2.2.2.2.2.2.2.1/\y.2.2.2.2.2.2.2.1.length<1000000/\ ∀v∈y.2.2.2.2.2.2.2.1,v.2.2.size<=200):=by
 have hm:c_=1073741824:=rfl;obtain⟨t2,n1,b1,e1,k1,k2,e1'⟩: ∃(t2:ByteArray) (n1:Nat) (b1:Bool),mX f_ l (n:Int) b=U (t2,l,(n1:Int),b1)/\n<=n1/\n1<=l.length/\nE f_ l (n:Int) b=U (t2,l,(n1:Int),b1):=by
  obtain⟨t2,n1,b1,e1,k1,k2⟩:=qR l hl n hn b;exact⟨t2,n1,b1,e1,k1,k2,by rw[JT l hl n hn b,<-JO l hl n hn b,e1]⟩
 obtain⟨num,n2,b2,e2,k3,k4,e2'⟩: ∃(num:Int) (n2:Nat) (b2:Bool),yg f_ l (n1:Int) b1=U (num,l,(n2:Int),b2)/\n1<=n2/\n2<=l.length/\A_ f_ l (n1:Int) b1=U (num,l,(n2:Int),b2):=by
  obtain⟨num,n2,b2,e2,k3,k4⟩:=No l hl n1 k2 b1;exact⟨num,n2,b2,e2,k3,k4,by rw[YqK l hl n1 k2 b1,<-Vr l hl n1 k2 b1,e2]⟩
 obtain⟨n3,b3,e3,k5,k6,e3'⟩: ∃(n3:Nat) (b3:Bool),ov f_ (a_ #[58]) l (n2:Int) b2=U (l,(n3:Int),b3)/\n2<=n3/\n3<=l.length/\mF f_ (a_ #[58]) l (n2:Int) b2=U (l,(n3:Int),b3):=by
  obtain⟨n3,b3,e3,k5,k6⟩:=tU l hl n2 k4 b2 (a_ #[58]);exact⟨n3,b3,e3,k5,k6,by rw[Nt l hl n2 k4 b2,<-Vo l hl n2 k4 b2,e3]⟩
 obtain⟨m1,c1,o1,m2,c2,o2,f1,f2,hv⟩:=Yyb l hl t2 num hT n3 b3 k6;have hb:zN f_ l (n3:Int) b3 mn bE t2 bE lE lE num 0 lE [] [] [] [] [] []=U (l,(m1:Int),c1,mn,bE,t2,bE,lE,lE,num,0,lE,[],[],[],[],[],o1):=by
  unfold zN;rw[cT _ _ (by trivial),f1,h_];(try dsimp only)
 have hJ:uA f_ (l,zZ,bE,bE,bE,bE,lE,lE,0,0,lE,l,(n:Int),b,mn,bE,bE,bE,lE,lE,0,0,lE,[],[],[],[],[],[],[],[],[],[],[],[])=U (.inl (l,bE,bE,bE,bE,lE,lE,0,0,lE,l,(m1:Int),c1,mn,bE,t2,bE,lE,lE,num,0,lE,[],[],[],[],[],[],o1,[],[],[],[],[])):=by
  simp only[uA,cond_true];rw[cT _ _ (by trivial),e1,h_];(try dsimp only)
  (try simp only)
  rw[e2,h_];(try dsimp only)
  (try simp only)
  rw[cF _ _ (by decide),e3,h_];(try dsimp only)
  (try simp only)
  rw[YqI (h:=.inl rfl),YxQ,Nr,Nr,hb,h_];(try dsimp only);simp only;rw[d_ _ (by trivial),d_ _ (by trivial),d_ _ (by trivial),d_ _ (by trivial),d_ _ (by trivial)]
 have hP:zO f_ l=d' (rP f_ (l,bE,bE,bE,bE,lE,lE,0,0,lE,l,(m1:Int),c1,mn,bE,t2,bE,lE,lE,num,0,lE,[],[],[],[],[],[],o1,[],[],[],[],[])) λy=>U (y.2.1,y.2.2.1,y.2.2.2.1,y.2.2.2.2.1,y.2.2.2.2.2.1,y.2.2.2.2.2.2.1,y.2.2.2.2.2.2.2.1,y.2.2.2.2.2.2.2.2.1,y.2.2.2.2.2.2.2.2.2.1,y.2.2.2.2.2.2.2.2.2.2.1,y.2.2.2.2.2.2.2.2.2.2.2.1,y.2.2.2.2.2.2.2.2.2.2.2.2.1,y.2.2.2.2.2.2.2.2.2.2.2.2.2.1,y.2.2.2.2.2.2.2.2.2.2.2.2.2.2.1,y.2.2.2.2.2.2.2.2.2.2.2.2.2.2.2,y.1):=by
  unfold zO;rw[ht,h_];(try dsimp only);simp only;rw[cF _ _ (by decide),cF _ _ (by decide),cT _ _ (by trivial),hJ,h_];(try dsimp only);rw[wC]
 have hR:zX f_ l=d' (sN f_ (l,bE,bE,bE,bE,lE,0,lE,l,(m2:Int),c2,mn,bE,t2,bE,lE,lE,num,lE,lE,[],[],[],[],[],[],[],[],o2,[],[],[],[],[])) λy=>U (y.2.1,y.2.2.1,y.2.2.2.1,y.2.2.2.2.1,y.2.2.2.2.2.1,y.2.2.2.2.2.2.1,y.2.2.2.2.2.2.2.1,y.2.2.2.2.2.2.2.2.1,y.2.2.2.2.2.2.2.2.2.1,y.2.2.2.2.2.2.2.2.2.2.1,y.2.2.2.2.2.2.2.2.2.2.2.1,y.2.2.2.2.2.2.2.2.2.2.2.2.1,y.2.2.2.2.2.2.2.2.2.2.2.2.2.1,y.2.2.2.2.2.2.2.2.2.2.2.2.2.2.1,y.2.2.2.2.2.2.2.2.2.2.2.2.2.2.2,y.1):=by
  unfold zX;rw[ht',h_];(try dsimp only);simp only;rw[cF _ _ (by decide),cT _ _ (by trivial),e1',h_];(try dsimp only)
  (try simp only)
  rw[e2',h_];(try dsimp only)
  (try simp only)
  rw[e3',h_];(try dsimp only)
  (try simp only)
  rw[f2,h_];(try dsimp only)
 rw[hP,hR];simp only[rP,sN];rcases hv with⟨h1,h2⟩| ⟨h1,h2,h3,h4,h5,h6⟩
 .cases c1 with
  |true=>
   cases c2 with
   |true=>exact⟨_,_,rfl,rfl,.inl ⟨rfl,rfl⟩⟩
   |false=>
    have hd:decide ((m2:Int)=(l.length:Int))=false:=decide_eq_false (by have:=h2.resolve_left (by decide);omega);rw[hd];exact⟨_,_,rfl,rfl,.inl ⟨rfl,rfl⟩⟩
  |false=>
   have HE:decide ((m1:Int)=(l.length:Int))=false:=decide_eq_false (by have:=h1.resolve_left (by decide);omega);rw[HE];cases c2 with
   |true=>exact⟨_,_,rfl,rfl,.inl ⟨rfl,rfl⟩⟩
   |false=>
    have hd:decide ((m2:Int)=(l.length:Int))=false:=decide_eq_false (by have:=h2.resolve_left (by decide);omega);rw[hd];exact⟨_,_,rfl,rfl,.inl ⟨rfl,rfl⟩⟩
 .subst h3;subst h4;subst h5;have HE:decide ((m1:Int)=(l.length:Int))=true:=decide_eq_true (by omega);have hd2:decide ((m2:Int)=(l.length:Int))=true:=decide_eq_true (by omega);rw[HE,hd2];exact⟨_,_,rfl,rfl,.inr ⟨rfl,rfl,rfl,rfl,rfl,rfl,rfl,h6⟩⟩
end
end
end Go.Abs.iA
namespace Go.Abs.iA
open Go Go.Abs
noncomputable section
set_option maxRecDepth 100000
set_option synthInstance.maxSize 100000
set_option synthInstance.maxHeartbeats 0
theorem Nx(a:Int):Bv f_ a a=U 0:=by
 unfold Bv;simp
theorem Yyd(a:ByteArray)(H:a.size<=200): ∀(k i:Nat),a.size-i<=k->FX f_ (a,a,(i:Int))=U (.inr (a,a)):=by
 intro k;induction k with
 |zero=>
  intro i h;have st:FX f_ (a,a,(i:Int))=_:=jz (FW f_) _;simp only[FW]at st;grind
 |succ k I=>
  intro i h;have st:FX f_ (a,a,(i:Int))=_:=jz (FW f_) _;simp only[FW]at st;by_cases d:i<a.size
  .rw[cT _ _ (by omega),cT _ _ (by omega),d_ _ (by omega),d_ _ (by omega)]at st;simp only[decide_true,qJ,cond_false,jZ i (by omega)]at st;exact st.trans (I (i+1) (by omega))
  simp_all
theorem Yye(a:ByteArray)(h:a.size<=200):M4 f_ a a=U 0:=by
 unfold M4;have e:FX f_ (a,a,0)=_:=Yyd a h a.size 0 (by omega);rw[e,h_];(try dsimp only);rw[uD];rw[Nx,h_];(try dsimp only)
theorem Yyf(a b:Int)(c:ByteArray)(h:c.size<=200):M5 f_ a b c a b c=U 0:=by
 unfold M5;rw[Nx,h_];(try dsimp only);rw[Nx,h_];(try dsimp only);simp only[decide_true,qJ,cond_false];rw[Yye c h,h_];(try dsimp only)
theorem Yyg(a:jT)(hl:a.length<1000000)(H: ∀v∈a,v.2.2.size<=200): ∀(k i:Nat),a.length-i<=k->FZ f_ (a,a,(i:Int))=U (.inr (a,a)):=by
 intro k;induction k with
 |zero=>
  intro i h;have st:FZ f_ (a,a,(i:Int))=_:=jz (FY f_) _;simp only[FY]at st;grind
 |succ k I=>
  intro i h;have st:FZ f_ (a,a,(i:Int))=_:=jz (FY f_) _;simp only[FY]at st;by_cases g:i<a.length
  .have d:a.getD i ((0:Int),(0:Int),a_ #[])∈a:=by
    simp_all
   rw[cT _ _ (by omega),cT _ _ (by omega),d_ _ (by omega),d_ _ (by omega),mN,Yyf _ _ _ (H _ d),h_]at st;simp only[decide_true,qJ,cond_false,jZ i (by omega)]at st;exact st.trans (I (i+1) (by omega))
  simp_all
theorem Yyh(a:jT)(hl:a.length<1000000)(h: ∀v∈a,v.2.2.size<=200):M6 f_ a a=U true:=by
 unfold M6 UR;have e:FZ f_ (a,a,0)=_:=Yyg a hl h a.length 0 (by omega);rw[e,h_];(try dsimp only);rw[uD];rw[Nx,h_];(try dsimp only);rfl
theorem Yyi(n:Int)(a:jT)(hl:a.length<1000000)(h: ∀v∈a,v.2.2.size<=200):M7 f_ n a n a=U true:=by
 unfold M7;rw[cT _ _ (by trivial),Yyh a hl h,h_];(try dsimp only)
theorem Yyj(s:ByteArray)(F:s.size<=300): ∃R:ByteArray×Int×jT×Int,Mq f_ s=U R/\M3 f_ s=U R/\R.2.2.1.length<1000000/\ ∀v∈R.2.2.1,v.2.2.size<=200:=by
 obtain⟨S,L,e,h1,h2,h3⟩:=YxD s (by omega);unfold Mq M3 Sz UL;rw[h1,h2,h_];(try dsimp only);rw[h_];(try dsimp only);by_cases B:e=0
 .subst B;simp only[decide_true,qJ,cond_false];by_cases C:S.length=1
  .obtain⟨l,hl⟩: ∃l,S=[l]:=List.length_eq_one_iff.1 C;subst hl;obtain⟨K,G,hT⟩:=h3 l (uV.2 rfl);have h:l.length<400000:=by omega
   have H:decide ((([l]:List (List Tok)).length:Int)=1)=true:=rfl;rw[H];simp only[qJ,cond_false];rw[d_ _ (by simp),d_ _ (by simp)];have I:([l]:List (List Tok)).getD 0 []=l:=rfl;obtain⟨t,n,b,D,J,k⟩:=qR l h 0 (by omega) zj;have N:mX f_ l 0 zj=U (t,l,(n:Int),b):=D;have g:nE f_ l 0 zj=U (t,l,(n:Int),b):=by
    rw[<-N];have Q:=JT l h 0 (by omega) zj;have M:=JO l h 0 (by omega) zj;simp_all
   by_cases p:t=mn
   .subst p;obtain⟨y,z,q,w,A⟩:=Yyc l h hT n b k N g;have E:zO f_ (([l]:List (List Tok)).getD 0 [])=U y:=q;have d:zX f_ (([l]:List (List Tok)).getD 0 [])=U z:=w;rw[E,d,h_];(try dsimp only);rw[h_];(try dsimp only);rw[h_];(try dsimp only)
    (try simp only)
    rcases A with⟨v1,v2⟩| ⟨v1,v2,v3,v4,v5,v6,v7,v8,V⟩
    .simp_all
    .rw[v1,v2,v3];grind
   .obtain⟨y,q,A⟩:=YxS l h t n b k N p;obtain⟨z,w,O⟩:=Yx6 l h t n b k g p;have E:zO f_ (([l]:List (List Tok)).getD 0 [])=U y:=q;have d:zX f_ (([l]:List (List Tok)).getD 0 [])=U z:=w;rw[E,d,h_];(try dsimp only);rw[h_];(try dsimp only);rw[h_];(try dsimp only)
    (try simp only)
    refine⟨(a_ #[],0,[],2),?_,?_,by simp,by simp⟩
    .grind
    grind
  .have H:decide ((S.length:Int)=1)=false:=decide_eq_false (by omega);simp_all
 simp_all
theorem Ae(s:ByteArray)(h:D8 f_=U zZ):iR f_ s=U true:=by
 unfold iR;rw[h,h_];(try dsimp only);simp only[qJ,cond_false];by_cases H:(300:Int)< (s.size:Int)
 .simp_all
 .rw[cF _ _ H];obtain⟨R,h1,h2,h3,h4⟩:=Yyj s (by omega);rw[h1,h2,h_];(try dsimp only);rw[h_];(try dsimp only);simp only[decide_true,cond_true];rw[Yyi _ _ h3 h4,h_];(try dsimp only)
end
end Go.Abs.iA
