/- Helpers of the plain laws: loops as states by number, tables, short words. No condition. -/
import Derived.Test.YtgegamaadohibaaB
import Derived.Test.YtgegamaadohibaaG
set_option linter.unusedVariables false
set_option linter.unusedSimpArgs false
set_option linter.unusedSectionVars false
open List renaming getElem?_eq_some_iff → Yz9, getElem?_eq_getElem → YAa, mem_of_getElem? → YAb, map_cons → YAd, map_nil → YAg, mem_cons → YAi, getD_eq_getElem?_getD → YAj, length_eq_zero_iff → YAk, length_cons → YAl, length_set → YAm, all_eq_true → YAn, length_map → YAp, mem_cons_self → YAq, mem_map → YAs, getElem?_eq_none → YAt, length_append → YAu, take_length → YAv, mem_cons_of_mem → YAx, length_singleton → YAy, append_assoc → YAz, ext_getElem? → YAA, mem_singleton → YAB, mem_append → YAD, any_eq_true → YAE, getElem?_replicate → YAF, nil_append → YAG, map_append → YAH, drop_zero → YAJ, length_nil → YAK, drop_eq_nil_of_le → YAM
open Nat renaming le_refl → YAO, ble → YAR, zero_add → YAS, le_trans → YAT
open Option renaming bind → YAZ, getD_some → YA4
open Bool renaming and_eq_true → YA7, not_true → YA8, eq_iff_iff → YA9
open Int renaming toNat_natCast → YBb
open Go.IntKind renaming wrap → YBh
namespace Go.Abs
theorem wr6{n:Int}(h0: -9223372036854775808<=n)(h1:n<9223372036854775808):YBh .i64 n=n:=by
 have e:(2:Int)^IntKind.bits .i64=18446744073709551616:=rfl
 have e':(2:Int)^(IntKind.bits .i64-1)=9223372036854775808:=rfl
 have s:IntKind.signed .i64=true:=rfl
 simp only[YBh,e,e',s,Bool.true_and,ge_iff_le,decide_eq_true_eq]
 omega
theorem chkT{β:Type}{p:Prop}[Decidable p](x:Option β)(h:p):chk p x=x:=by simp[chk,h]
theorem cT{β:Type}{p:Prop}[Decidable p](x y:β)(h:p):(bif decide p then x else y)=x:=by simp[h]
theorem cF{β:Type}{p:Prop}[Decidable p](x y:β)(h: ¬p):(bif decide p then x else y)=y:=by simp[h]
theorem YwU{α β:Type}(a:α)(f:α->Option β):YAZ (some a) f=f a:=rfl
theorem YmV{S R:Type}{step:S->Option (S⊕R)}(st:Nat->S)(N:Nat)(r:R)(he:step (st N)=some (.inr r))(hs: ∀n,n<N->step (st n)=some (.inl (st (n+1)))): ∀k n,n+k=N->Yw7 step (st n)=some r
 |0,n,h=>by rw[Yaf];simp_all
 |k+1,n,h=>by rw[Yaf,hs n (by omega)];exact YmV st N r he hs k (n+1) (by omega)
theorem YaH{S R:Type}{step:S->Option (S⊕R)}{st:Nat->S}{N:Nat}{r:R}{s:S}(hst:s=st 0)(he:step (st N)=some (.inr r))(hs: ∀n,n<N->step (st n)=some (.inl (st (n+1)))):Yw7 step s=some r:=by
 subst hst;exact YmV st N r he hs N 0 (by omega)
def tab{α:Type}(n:Nat)(f:Nat->α):List α:=(List.range n).map f
theorem Yb0{α:Type}(n:Nat)(f:Nat->α):(tab n f).length=n:=by simp[tab]
theorem Yb1{α:Type}(n:Nat)(f:Nat->α)(i:Nat)(d:α)(h:i<n):(tab n f).getD i d=f i:=by simp[tab,YAj,h]
theorem YmW{α:Type}(n:Nat)(f:Nat->α)(i:Nat)(v:α):(tab n f).set i v=tab n (fun k=>if k=i then v else f k):=by
 apply YAA
 intro k
 by_cases h:k<n
 ·by_cases e:k=i
  ·subst e;simp[tab,h]
  ·simp[tab,h,e,Ne.symm e]
 ·simp[tab,h]
theorem YgS{α:Type}{n:Nat}{f g:Nat->α}(h: ∀k,k<n->f k=g k):tab n f=tab n g:=
 List.map_congr_left (fun k hk=>h k (by simp_all))
theorem YmX{α:Type}(l:List α)(d:α):l=tab l.length (fun k=>l.getD k d):=by
 apply List.ext_getElem (Yb0 _ _).symm
 intro k h1 h2
 simp only[tab,List.getElem_map,List.getElem_range,YAj,YAa h1,YA4]
def bl(s:ByteArray):List UInt8:=s.data.toList
end Go.Abs
namespace Go.Abs.G39
open Go Go.Abs
set_option maxRecDepth 100000
theorem aw:q53 loO=some true:=(congrArg q53 (Ywi 400)).symm.trans (show q53 (loM 400)=some true by kernel_rfl)
theorem runO{S R:Type}(step:S->Option (S⊕R))(x:S):loO.run step x=Yw7 step x:=rfl
theorem YeX{A B C:Type}(a:A)(f:A->Option C)(g:B->Option C):alt2 (.inl a:A⊕B) f g=f a:=rfl
theorem YaU{A B C:Type}(b:B)(f:A->Option C)(g:B->Option C):alt2 (.inr b:A⊕B) f g=g b:=rfl
theorem YbB{α:Type}(l:List α)(d:α)(q:α->Bool):(List.range l.length).any (fun i=>q (l.getD i d))=l.any q:=by
 have h:=YmX l d
 have:(List.range l.length).any (fun i=>q (l.getD i d))=(tab l.length (fun i=>l.getD i d)).any q:=by simp[tab,List.any_map,Function.comp_def]
 rw[this,<-h]
theorem YeY{S R:Type}{step:S->Option (S⊕R)}(st:Nat->S)(N:Nat)(p:Nat->Bool)(yes no:R)(he:step (st N)=some (.inr no))
  (hs: ∀n,n<N->step (st n)=bif p n then some (.inr yes)else some (.inl (st (n+1)))):Yw7 step (st 0)=some (bif(List.range N).any p then yes else no):=by
 have go: ∀k n,n+k=N->Yw7 step (st n)=some (bif(List.range' n k).any p then yes else no):=by
  intro k
  induction k with
  |zero=>intro n h;rw[Yaf];simp only[Nat.add_zero]at h;subst h;rw[he];rfl
  |succ k ih=>
   intro n h
   rw[Yaf,hs n (by omega)]
   cases hp:p n with
   |true=>simp[List.range'_succ,hp]
   |false=>simp only[cond_false];rw[ih (n+1) (by omega)];simp[List.range'_succ,hp]
 have:=go N 0 (by omega)
 rw[<-List.range_eq_range']at this
 exact this
structure In8(w:List Int)(es:List (List Int)):Prop where
 wl:w.length<=8
 wv: ∀x∈w,1<=x/\x<=20
 el:es.length<=12
 ev: ∀e∈es,e≠ []/\e.Pairwise (· < ·)/\ ∀v∈e,0<=v/\v< (w.length:Int)
theorem gmem{α:Type}(l:List α)(d:α)(i:Nat)(h:i<l.length):l.getD i d∈l:=by
 rw[YAj,YAa h];exact List.getElem_mem h
theorem YmY{l:List Int}(h:l.Pairwise (· < ·))(i j:Nat)(hij:i<j)(hj:j<l.length):l.getD i 0<l.getD j 0:=by
 have:=List.pairwise_iff_getElem.1 h i j (by omega) hj hij
 simpa[YAj,YAa hj,YAa (show i<l.length by omega)]using this
theorem asc_len': ∀(l:List Int) (m n:Nat),l.Pairwise (· < ·)->(∀v∈l,(m:Int)<=v/\v< (n:Int))->m<=n->l.length+m<=n
 | [],m,n,_,_,h=>by simpa using h
 |x::r,m,n,hp,hr,hm=>by
  rw[List.pairwise_cons]at hp
  have hx:=hr x (by simp)
  have:=asc_len' r (x.toNat+1) n hp.2 (fun v hv=>⟨by have:=hp.1 v hv;omega,(hr v (by simp[hv])).2⟩) (by omega)
  simp only[YAl]
  omega
theorem Ywj{n:Nat}{l:List Int}(hd:l.Pairwise (· < ·))(hr: ∀v∈l,0<=v/\v< (n:Int)):l.length<=n:=by
 have:=asc_len' l 0 n hd (by simpa using hr) (by omega)
 omega
theorem YdM{l:List Int}(h:l.Pairwise (· < ·)):l.Nodup:=h.imp (fun hab=>by omega)
theorem In8.e8{w:List Int}{es:List (List Int)}(h:In8 w es){e:List Int}(he:e∈es):e.length<=8:=by
 obtain⟨_,h1,h2⟩:=h.ev e he
 have:=Ywj h1 h2
 have:=h.wl
 omega
theorem Yb2(l:List Int)(v:Int)(hl:l.length<=100000):q58 loO l v=some (decide (v∈l)):=by
 have h:=YeY (step:=Ydz loO) (fun n=>(l,v,(n:Int))) l.length (fun n=>decide (l.getD n 0=v)) (.inl true) (.inr ())
  (by simp only[Ydz];rw[cF _ _ (by omega)])
  (fun n hn=>by
   have e1:YBh .i64 ((n:Int)+1)=((n+1:Nat):Int):=by rw[wr6 (by omega) (by omega)];omega
   simp only[Ydz,YBb,e1]
   rw[cT _ _ (by omega),chkT _ (by omega)])
 have e:(List.range l.length).any (fun n=>decide (l.getD n 0=v))=decide (v∈l):=by
  rw[YbB l 0 (fun x=>decide (x=v))]
  by_cases hv:v∈l
  ·simp[hv]
  ·simp only[hv,decide_false,List.any_eq_false,decide_eq_true_eq]
   intro x hx e;subst e;exact hv hx
 rw[e]at h
 have h':YgL loO (l,v,(0:Int))=some (bif decide (v∈l)then .inl true else .inr ()):=h
 simp only[q58,h',YwU]
 cases decide (v∈l)<;>rfl
theorem YmZ(a l:List Int)(ha:a.length<=100000)(hl:l.length<=100000):q61 loO a l=some (a.any fun x=>decide (x∈l)):=by
 have h:=YeY (step:=YdB loO) (fun n=>(a,l,(n:Int))) a.length (fun n=>decide (a.getD n 0∈l)) (.inl true) (.inr ())
  (by simp only[YdB];rw[cF _ _ (by omega)])
  (fun n hn=>by
   have e1:YBh .i64 ((n:Int)+1)=((n+1:Nat):Int):=by rw[wr6 (by omega) (by omega)];omega
   simp only[YdB,YBb,e1,Yb2 _ _ hl,YwU]
   rw[cT _ _ (by omega),chkT _ (by omega)])
 rw[YbB a 0 (fun x=>decide (x∈l))]at h
 have h':YgN loO (a,l,(0:Int))=some (bif(a.any fun x=>decide (x∈l))then .inl true else .inr ()):=h
 simp only[q61,h',YwU]
 cases(a.any fun x=>decide (x∈l))<;>rfl
def hitB(es:List (List Int))(l:List Int):Bool:=es.all fun e=>e.any fun x=>decide (x∈l)
theorem Ywk{w:List Int}{es:List (List Int)}(h8:In8 w es)(l:List Int)(hl:l.length<=100000):q62 loO w es l=some (hitB es l):=by
 have hel:=h8.el
 have h:=YeY (step:=YdC loO) (fun n=>(l,(n:Int),w,es)) es.length (fun n=> !((es.getD n []).any fun x=>decide (x∈l))) (.inl false) (.inr ())
  (by simp only[YdC];rw[cF _ _ (by omega)])
  (fun n hn=>by
   have e1:YBh .i64 ((n:Int)+1)=((n+1:Nat):Int):=by rw[wr6 (by omega) (by omega)];omega
   have:=h8.e8 (gmem es [] n hn)
   simp only[YdC,YBb,e1,YmZ (es.getD n []) l (by omega) hl,YwU]
   rw[cT _ _ (by omega),chkT _ (by omega)])
 rw[YbB es [] (fun e=> !(e.any fun x=>decide (x∈l)))]at h
 have h':YgO loO (l,(0:Int),w,es)=some (bif(es.any fun e=> !(e.any fun x=>decide (x∈l)))then .inl false else .inr ()):=h
 have e:hitB es l= !(es.any fun e=> !(e.any fun x=>decide (x∈l))):=by simp[hitB,List.any_eq_not_all_not]
 simp only[q62,h',YwU,e]
 cases(es.any fun e=> !(e.any fun x=>decide (x∈l)))<;>rfl
theorem Ym0{w:List Int}{es:List (List Int)}(h8:In8 w es):q54 loO w es=some 0:=by
 have hwl:=h8.wl
 have hel:=h8.el
 have h1:YgF loO ((0:Int),w,es)=some (.inr (w,es)):=YaH (step:=Ydt loO) (st:=fun n=>((n:Int),w,es)) (N:=w.length) rfl
  (by simp only[Ydt];rw[cF _ _ (by omega)])
  (fun n hn=>by
   have e1:YBh .i64 ((n:Int)+1)=((n+1:Nat):Int):=by rw[wr6 (by omega) (by omega)];omega
   have:=h8.wv _ (gmem w 0 n hn)
   simp only[Ydt,YBb,e1]
   rw[cT _ _ (by omega),chkT _ (by omega),cF _ _ (by omega),chkT _ (by omega),cF _ _ (by omega)])
 have h2:YgH loO ((0:Int),w,es)=some (.inr ()):=YaH (step:=Ydv loO) (st:=fun n=>((n:Int),w,es)) (N:=es.length) rfl
  (by simp only[Ydv];rw[cF _ _ (by omega)])
  (fun n hn=>by
   have e1:YBh .i64 ((n:Int)+1)=((n+1:Nat):Int):=by rw[wr6 (by omega) (by omega)];omega
   obtain⟨hne,hp,hr⟩:=h8.ev _ (gmem es [] n hn)
   have h8e:=h8.e8 (gmem es [] n hn)
   have hpos:0< (es.getD n []).length:=List.length_pos_iff.2 hne
   have h3:YgG loO ((n:Int),(-1:Int),(0:Int),w,es)=some (.inr ((n:Int),(es.getD n []).getD ((es.getD n []).length-1) 0,w,es)):=YaH (step:=Ydu loO) (st:=fun k=>((n:Int),(if k=0 then-1 else(es.getD n []).getD (k-1) 0),(k:Int),w,es)) (N:=(es.getD n []).length) rfl
    (by simp only[Ydu,YBb];rw[chkT _ (by omega),cF _ _ (by omega),if_neg (by omega)])
    (fun k hk=>by
     have e1:YBh .i64 ((k:Int)+1)=((k+1:Nat):Int):=by rw[wr6 (by omega) (by omega)];omega
     have hv:=hr _ (gmem _ 0 k hk)
     have hlt:(if k=0 then-1 else(es.getD n []).getD (k-1) 0)< (es.getD n []).getD k 0:=by
      split
      ·omega
      ·exact YmY hp (k-1) k (by omega) hk
     simp only[Ydu,YBb,e1]
     rw[chkT _ (by omega),cT _ _ (by omega),chkT _ (by omega),chkT _ (by omega),cF _ _ (by omega),cF _ _ (by omega)]
     simp)
   have hv:=hr _ (gmem _ 0 ((es.getD n []).length-1) (by omega))
   simp only[Ydv,h3,YwU,YaU,e1]
   rw[cT _ _ (by omega),cF _ _ (by omega)])
 simp only[q54,h1,h2,YwU,YaU]
 rw[cF _ _ (by omega),cF _ _ (by omega)]
def sumw(w:List Int)(l:List Int):Int:=(l.map fun v=>w.getD v.toNat 0).sum
theorem Ym1(w a c:List Int):sumw w (a++c)=sumw w a+sumw w c:=by simp[sumw]
theorem YgT{w:List Int}(hw: ∀x∈w,1<=x/\x<=20): ∀l:List Int,0<=sumw w l/\sumw w l<=20*(l.length:Int)
 | []=>by simp[sumw]
 |v::r=>by
  have ih:=YgT hw r
  have:0<=w.getD v.toNat 0/\w.getD v.toNat 0<=20:=by
   by_cases h:v.toNat<w.length
   ·have:=hw _ (gmem w 0 v.toNat h);omega
   ·rw[YAj,YAt (by omega)];simp
  have e:sumw w (v::r)=w.getD v.toNat 0+sumw w r:=by simp[sumw]
  rw[e,YAl]
  omega
theorem take_succ'{α:Type}(l:List α)(d:α)(n:Nat)(h:n<l.length):l.take (n+1)=l.take n++[l.getD n d]:=by
 rw[<-List.take_append_getElem h,YAj,YAa h];rfl
theorem YeZ{l:List Int}(h:l.Nodup)(n:Nat)(hn:n<l.length):l.getD n 0∉l.take n:=by
 have h1:(l.take (n+1)).Nodup:=h.sublist (List.take_sublist _ _)
 rw[take_succ' l 0 n hn,List.nodup_append]at h1
 intro hm
 exact h1.2.2 _ hm _ (by simp) rfl
theorem Ywl{w:List Int}{es:List (List Int)}(h8:In8 w es)(l:List Int)(hd:l.Nodup)(hl:l.length<=100)(hr: ∀v∈l,0<=v/\v< (w.length:Int)):q59 loO w es l=some (sumw w l,0):=by
 have hwl:=h8.wl
 have h1:YgM loO (l,(0:Int),(0:Int),w,es)=some (.inr (sumw w l)):=YaH (step:=YdA loO) (st:=fun n=>(l,sumw w (l.take n),(n:Int),w,es)) (N:=l.length) rfl
  (by simp only[YdA];rw[cF _ _ (by omega),List.take_of_length_le (by omega)])
  (fun n hn=>by
   have e1:YBh .i64 ((n:Int)+1)=((n+1:Nat):Int):=by rw[wr6 (by omega) (by omega)];omega
   have hv:=hr _ (gmem l 0 n hn)
   have hm:=YeZ hd n hn
   have hb:=YgT h8.wv (l.take n)
   have hlt:(l.take n).length<=n:=by simp;omega
   have hx:=h8.wv _ (gmem w 0 (l.getD n 0).toNat (by omega))
   have e2:sumw w (l.take (n+1))=YBh .i64 (sumw w (l.take n)+w.getD (l.getD n 0).toNat 0):=by
    rw[wr6 (by omega) (by omega),take_succ' l 0 n hn,Ym1]
    simp[sumw]
   simp only[YdA,YBb,e1,YAJ,Yb2 _ _ (show(l.take n).length<=100000 by omega),YwU,hm,decide_false,cond_false,e2]
   rw[cT _ _ (by omega),chkT _ (by omega),cF _ _ (by omega),chkT _ (by omega),cF _ _ (by omega),chkT _ (by omega),chkT _ (by omega),chkT _ (by omega),chkT _ (by omega)])
 simp only[q59,Ym0 h8,h1,YwU,YaU,decide_true,YA8,cond_false]
end Go.Abs.G39
namespace Go.Abs.G39
open Go Go.Abs
set_option maxRecDepth 100000
theorem bit1(m:Nat)(h:m<65536):bits .and .i64 (m:Int) (1:Int)=((m % 2:Nat):Int):=by
 have hk:IntKind.bits .i64=64:=rfl
 have e:(BitVec.ofInt 64 (m:Int)&&&BitVec.ofInt 64 ((1:Nat):Int)).toNat=m % 2:=by
  rw[BitVec.toNat_and,BitVec.ofInt_natCast,BitVec.ofInt_natCast,BitVec.toNat_ofNat,BitVec.toNat_ofNat,Nat.mod_eq_of_lt (by omega),Nat.mod_eq_of_lt (by omega),Nat.and_one_is_mod]
 show YBh .i64 ((BitVec.ofInt 64 (m:Int)&&&BitVec.ofInt 64 ((1:Nat):Int)).toNat:Nat)=_
 rw[e,wr6 (by omega) (by omega)]
theorem Ym2(b i:Nat)(hb:b<65536)(hi:i<=60):(bits .and .i64 ((b:Int).fdiv (2^(min i (IntKind.bits .i64)))) (1:Int)=1)↔b.testBit i=true:=by
 have hk:IntKind.bits .i64=64:=rfl
 rw[hk,Nat.min_eq_left (by omega)]
 have e1:((2:Int)^i)=((2^i:Nat):Int):=by simp
 rw[e1,Int.fdiv_eq_ediv_of_nonneg _ (Int.natCast_nonneg _)]
 have e2:((b:Int)/((2^i:Nat):Int))=((b/2^i:Nat):Int):=rfl
 rw[e2,bit1 _ (Nat.lt_of_le_of_lt (Nat.div_le_self _ _) hb),Nat.testBit_eq_decide_div_mod_eq]
 simp only[decide_eq_true_eq]
 omega
def subB(b n:Nat):List Int:=((List.range n).filter fun i=>b.testBit i).map fun(i:Nat)=>(i:Int)
theorem YgU(b n:Nat):subB b (n+1)=subB b n++(if b.testBit n then[(n:Int)]else[]):=by
 unfold subB
 rw[List.range_succ,List.filter_append,YAH]
 cases h:b.testBit n<;>simp[h]
theorem Ym3(b n:Nat):(subB b n).length<=n:=by
 unfold subB
 rw[YAp]
 exact YAT (List.length_filter_le _ _) (by simp)
theorem YdN(b n:Nat)(v:Int):v∈subB b n↔0<=v/\v< (n:Int)/\b.testBit v.toNat=true:=by
 unfold subB
 simp only[YAs,List.mem_filter,List.mem_range]
 constructor
 ·rintro⟨i,⟨h1,h2⟩,rfl⟩;simp;exact⟨by omega,h2⟩
 ·rintro⟨h1,h2,h3⟩;exact⟨v.toNat,⟨by omega,h3⟩,by omega⟩
theorem YdO(b n:Nat):(subB b n).Pairwise (· < ·):=by
 unfold subB
 rw[List.pairwise_map]
 exact(List.pairwise_lt_range.filter _).imp (fun h=>by omega)
theorem Ym4(b n:Nat)(hb:b<65536)(hn:n<=16):q56 loO (b:Int) (n:Int)=some (subB b n):=by
 have hmx:maxEl>=100000:=by decide
 have h1:YgI loO ((b:Int),(n:Int),(0:Int),[])=some (subB b n):=YaH (step:=Ydw loO) (st:=fun k=>((b:Int),(n:Int),(k:Int),subB b k)) (N:=n) rfl
  (by simp only[Ydw];rw[cF _ _ (by omega)])
  (fun k hk=>by
   have e1:YBh .i64 ((k:Int)+1)=((k+1:Nat):Int):=by rw[wr6 (by omega) (by omega)];omega
   have hl:=Ym3 b k
   simp only[Ydw,YBb,e1]
   rw[cT _ _ (by omega),chkT _ (by omega)]
   by_cases h:b.testBit k=true
   ·rw[cT _ _ ((Ym2 b k hb (by omega)).2 h),chkT _ (by simp only[YAl,YAK];omega),YgU,if_pos h]
   ·rw[cF _ _ (fun x=>h ((Ym2 b k hb (by omega)).1 x)),YgU,if_neg h,List.append_nil])
 simp only[q56,h1,YwU]
theorem YgV(p:Nat->Bool): ∀n,∃b,b<2^n/\ ∀i,i<n->b.testBit i=p i
 |0=>⟨0,by simp,fun i h=>by omega⟩
 |n+1=>by
  obtain⟨b,hb,h⟩:=YgV p n
  cases hp:p n with
  |false=>
   refine⟨b,by rw[Nat.pow_succ];omega,fun i hi=> ?_⟩
   by_cases e:i=n
   ·subst e;rw[hp];exact Nat.testBit_lt_two_pow hb
   ·exact h i (by omega)
  |true=>
   refine⟨2^n+b,by rw[Nat.pow_succ];omega,fun i hi=> ?_⟩
   by_cases e:i=n
   ·subst e;rw[Nat.testBit_two_pow_add_eq,hp,Nat.testBit_lt_two_pow hb];rfl
   ·rw[Nat.testBit_two_pow_add_gt (by omega)];exact h i (by omega)
theorem Ywm(n:Nat)(l:List Int)(ha:l.Pairwise (· < ·))(hr: ∀v∈l,0<=v/\v< (n:Int)): ∃b,b<2^n/\subB b n=l:=by
 obtain⟨b,hb,h⟩:=YgV (fun i=>decide ((i:Int)∈l)) n
 refine⟨b,hb,?_⟩
 refine List.Perm.eq_of_pairwise (fun a c _ _ (h1:a<c) (h2:c<a)=>by omega) (YdO b n) ha ?_
 refine(List.perm_ext_iff_of_nodup (YdM (YdO b n)) (YdM ha)).2 fun v=> ?_
 rw[YdN]
 constructor
 ·rintro⟨h1,h2,h3⟩
  rw[h v.toNat (by omega)]at h3
  have e:((v.toNat:Nat):Int)=v:=by omega
  rw[e]at h3
  simpa using h3
 ·intro hv
  obtain⟨h1,h2⟩:=hr v hv
  refine⟨h1,h2,?_⟩
  rw[h v.toNat (by omega)]
  have e:((v.toNat:Nat):Int)=v:=by omega
  rw[e]
  simpa using hv
def LB(w:List Int)(es:List (List Int))(k:Nat)(m:Int):Prop:=
 (m= -1/\ ∀b,b<k->hitB es (subB b w.length)=false)\/
 (0<=m/\ (∃b,b<k/\hitB es (subB b w.length)=true/\m=sumw w (subB b w.length))/\ ∀b,b<k->hitB es (subB b w.length)=true->m<=sumw w (subB b w.length))
theorem Ywn{w:List Int}{es:List (List Int)}(h8:In8 w es): ∀(j k:Nat) (m:Int),k+j=2^w.length->LB w es k m-> ∃r,YbZ loO (m,(k:Int),w,es)=some r/\LB w es (2^w.length) r:=by
 have hwl:=h8.wl
 have hp:2^w.length<=2^8:=Nat.pow_le_pow_right (by decide) hwl
 have hp:2^w.length<=256:=hp
 have hk:IntKind.bits .i64=64:=rfl
 have hlim:YBh .i64 ((1:Int)*2^(min (w.length:Int).toNat (IntKind.bits .i64)))=((2^w.length:Nat):Int):=by
  rw[hk,YBb,Nat.min_eq_left (by omega),Int.one_mul]
  have e1:((2:Int)^w.length)=((2^w.length:Nat):Int):=by simp
  rw[e1]
  revert hp
  generalize 2^w.length=N
  intro hp
  exact wr6 (by omega) (by omega)
 revert hp hlim
 generalize 2^w.length=N
 intro hp hlim j
 induction j with
 |zero=>
  intro k m hj hm
  refine⟨m,?_,by have:k=N:=by omega
                 rw[this]at hm;exact hm⟩
  simp only[YbZ,runO]
  rw[Yaf]
  simp only[YbY,hlim]
  rw[chkT _ (by omega),cF _ _ (by omega)]
 |succ j ih=>
  intro k m hj hm
  have e1:YBh .i64 ((k:Int)+1)=((k+1:Nat):Int):=by rw[wr6 (by omega) (by omega)];omega
  have hs:=Ym4 k w.length (by omega) (by omega)
  have hsl:=Ym3 k w.length
  have hw:=Ywl h8 (subB k w.length) (YdM (YdO _ _)) (by omega) (fun v hv=>by have:=(YdN _ _ _).1 hv;omega)
  have hh:=Ywk h8 (subB k w.length) (by omega)
  have hb:=YgT h8.wv (subB k w.length)
  have step: ∀m',LB w es (k+1) m'->(∃x,YbY loO (m,(k:Int),w,es)=some (.inl x)/\x=(m',((k+1:Nat):Int),w,es))-> ∃r,YbZ loO (m,(k:Int),w,es)=some r/\LB w es (N) r:=by
   rintro m' hm' ⟨x,hx,rfl⟩
   obtain⟨r,hr,hl⟩:=ih (k+1) m' (by omega) hm'
   refine⟨r,?_,hl⟩
   simp only[YbZ,runO]at*
   rw[Yaf,hx]
   exact hr
  cases hc:hitB es (subB k w.length)with
  |false=>
   refine step m ?_ ⟨_,?_,rfl⟩
   ·rcases hm with⟨h1,h2⟩| ⟨h1,⟨b,hb1,hb2⟩,h3⟩
    ·exact .inl ⟨h1,fun b hb=>by
      by_cases e:b=k
      ·subst e;exact hc
      ·exact h2 b (by omega)⟩
    ·exact .inr ⟨h1,⟨b,by omega,hb2⟩,fun b hb h=>by
      by_cases e:b=k
      ·subst e;rw[hc]at h;cases h
      ·exact h3 b (by omega) h⟩
   ·simp only[YbY,hlim,hs,hw,hh,hc,YwU,cond_false,e1]
    rw[chkT _ (by omega),cT _ _ (by omega)]
  |true=>
   by_cases hcond:m<0\/sumw w (subB k w.length)<m
   ·refine step (sumw w (subB k w.length)) ?_ ⟨_,?_,rfl⟩
    ·refine .inr ⟨hb.1,⟨k,by omega,hc,rfl⟩,fun b hbk h=> ?_⟩
     by_cases e:b=k
     ·subst e;omega
     ·rcases hm with⟨h1,h2⟩| ⟨h1,_,h3⟩
      ·rw[h2 b (by omega)]at h;cases h
      ·have:=h3 b (by omega) h;omega
    ·simp only[YbY,hlim,hs,hw,hh,hc,YwU,cond_true,e1]
     rw[chkT _ (by omega),cT _ _ (by omega)]
     by_cases hm0:m<0
     ·rw[cT _ _ hm0]
     ·rw[cF _ _ hm0,cT _ _ (by omega)]
   ·refine step m ?_ ⟨_,?_,rfl⟩
    ·rcases hm with⟨h1,h2⟩| ⟨h1,⟨b,hb1,hb2⟩,h3⟩
     ·omega
     ·exact .inr ⟨h1,⟨b,by omega,hb2⟩,fun b hb h=>by
       by_cases e:b=k
       ·subst e;omega
       ·exact h3 b (by omega) h⟩
    ·simp only[YbY,hlim,hs,hw,hh,hc,YwU,cond_true,e1]
     rw[chkT _ (by omega),cT _ _ (by omega),cF _ _ (by omega),cF _ _ (by omega)]
theorem Ywo{w:List Int}{es:List (List Int)}(h8:In8 w es): ∃m,q64 loO w es=some m/\LB w es (2^w.length) m:=by
 obtain⟨r,hr,hl⟩:=Ywn h8 (2^w.length) 0 (-1) (by omega) (.inl ⟨rfl,fun b h=>by omega⟩)
 refine⟨r,?_,hl⟩
 have hr':YbZ loO ((-1:Int),(0:Int),w,es)=some r:=hr
 simp only[q64,hr',YwU]
theorem Ywp{w:List Int}{es:List (List Int)}{m:Int}(h:LB w es (2^w.length) m)(l:List Int)(ha:l.Pairwise (· < ·))(hr: ∀v∈l,0<=v/\v< (w.length:Int))(hh:hitB es l=true):0<=m/\m<=sumw w l:=by
 obtain⟨b,hb,e⟩:=Ywm w.length l ha hr
 rcases h with⟨h1,h2⟩| ⟨h1,_,h3⟩
 ·have:=h2 b hb;rw[e,hh]at this;cases this
 ·have:=h3 b hb (by rw[e];exact hh)
  rw[e]at this
  exact⟨h1,this⟩
theorem Ywq(c d:List Int)(hc: ∀x∈c,0<=x/\x<=255)(hd: ∀x∈d,0<=x/\x<=65535): ∃w es ok,q57 loO c d=some (w,es,ok)/\ (ok=true->In8 w es):=by
 have hmx:maxEl>=100000:=by decide
 by_cases h1:8<c.length
 ·refine⟨_,_,_,by simp only[q57];rw[cT _ _ (by omega)],fun h=>by cases h⟩
 by_cases h2:12<d.length
 ·refine⟨_,_,_,by simp only[q57];rw[cF _ _ (by omega),cT _ _ (by omega)],fun h=>by cases h⟩
 have hm: ∀x:Int,0<=x->x<=255->YBh .i64 ((1:Int)+(YBh .i64 (x.tmod (20:Int))))=1+x % 20:=by
  intro x h0 h1
  rw[Int.tmod_eq_emod_of_nonneg h0,wr6 (n:=x % 20) (by omega) (by omega),wr6 (by omega) (by omega)]
 let f:Int->Int:=fun x=>1+x % 20
 have l1:YgJ loO ((0:Int),c,d,([]:List Int),([]:List ((List Int))),[],[])=some (c,d,[],[],c.map f,[]):=YaH (step:=Ydx loO) (st:=fun n=>((n:Int),c,d,([]:List Int),([]:List ((List Int))),(c.take n).map f,[])) (N:=c.length) rfl
  (by simp only[Ydx];rw[cF _ _ (by omega),List.take_of_length_le (by omega)])
  (fun n hn=>by
   have e1:YBh .i64 ((n:Int)+1)=((n+1:Nat):Int):=by rw[wr6 (by omega) (by omega)];omega
   have hx:=hc _ (gmem c 0 n hn)
   have ll:((c.take n).map f).length=n:=by rw[YAp,List.length_take];omega
   simp only[Ydx,YBb,e1,hm _ hx.1 hx.2,ll,YAl,YAK]
   rw[cT _ _ (by omega),chkT _ (by omega),chkT _ (by omega),chkT _ (by omega),take_succ' c 0 n hn,YAH]
   rfl)
 let g:Int->List Int:=fun x=>subB x.toNat c.length
 let q:List Int->Bool:=fun e=>decide (0<e.length)
 have l2:YgK loO ((0:Int),c,d,([]:List Int),([]:List ((List Int))),c.map f,[])=some ([],[],c.map f,(d.map g).filter q):=YaH (step:=Ydy loO) (st:=fun n=>((n:Int),c,d,([]:List Int),([]:List ((List Int))),c.map f,((d.take n).map g).filter q)) (N:=d.length) rfl
  (by simp only[Ydy];rw[cF _ _ (by omega),List.take_of_length_le (by omega)])
  (fun n hn=>by
   have e1:YBh .i64 ((n:Int)+1)=((n+1:Nat):Int):=by rw[wr6 (by omega) (by omega)];omega
   have hx:=hd _ (gmem d 0 n hn)
   have e2:YBh .i64 (d.getD n 0)=(((d.getD n 0).toNat:Nat):Int):=by rw[wr6 (by omega) (by omega)];omega
   have ll:(((d.take n).map g).filter q).length<=n:=YAT (List.length_filter_le _ _) (by rw[YAp,List.length_take];omega)
   have e3:((d.take (n+1)).map g).filter q=((d.take n).map g).filter q++(if 0< (g (d.getD n 0)).length then[g (d.getD n 0)]else[]):=by
    rw[take_succ' d 0 n hn,YAH,List.filter_append]
    simp only[YAd,YAg,List.filter_cons,List.filter_nil]
    simp[q]
   have hs:=Ym4 (d.getD n 0).toNat c.length (by omega) (by omega)
   simp only[Ydy,YBb,e1,e2,hs,YwU]
   rw[cT _ _ (by omega),chkT _ (by omega),e3]
   by_cases h:0< (subB (d.getD n 0).toNat c.length).length
   ·rw[cT _ _ (by omega),chkT _ (by simp only[YAl,YAK];omega),if_pos h]
   ·rw[cF _ _ (by omega),if_neg h,List.append_nil])
 refine⟨c.map f,(d.map g).filter q,true,?_,fun _=> ?_⟩
 ·simp only[q57,l1,l2,YwU]
  rw[cF _ _ (by omega),cF _ _ (by omega)]
 ·refine⟨by rw[YAp];omega,?_,?_,?_⟩
  ·intro x hx
   obtain⟨y,hy,rfl⟩:=YAs.1 hx
   have:=hc y hy
   show 1<=1+y % 20/\1+y % 20<=20
   omega
  ·exact YAT (List.length_filter_le _ _) (by rw[YAp];omega)
  ·intro e he
   obtain⟨h3,h4⟩:=List.mem_filter.1 he
   obtain⟨y,hy,rfl⟩:=YAs.1 h3
   refine⟨?_,YdO _ _,fun v hv=> ?_⟩
   ·intro h0
    have h4:decide (0< (g y).length)=true:=h4
    rw[h0]at h4
    cases h4
   ·have:=(YdN _ _ _).1 hv
    rw[YAp];omega
end Go.Abs.G39
namespace Go.Abs.G39
open Go Go.Abs
set_option maxRecDepth 100000
theorem Ym5{w:List Int}{es:List (List Int)}(h8:In8 w es):q1 loO w es=some 0:=by
 have hwl:=h8.wl
 have hel:=h8.el
 have h1:Ygs loO (w,(w.length:Int),(0:Int),w,es)=some (.inr (w,es)):=YaH (step:=Ydf loO) (st:=fun n=>(w,(w.length:Int),(n:Int),w,es)) (N:=w.length) rfl
  (by simp only[Ydf];rw[cF _ _ (by omega)])
  (fun n hn=>by
   have e1:YBh .i64 ((n:Int)+1)=((n+1:Nat):Int):=by rw[wr6 (by omega) (by omega)];omega
   have:=h8.wv _ (gmem w 0 n hn)
   simp only[Ydf,YBb,e1]
   rw[cT _ _ (by omega),chkT _ (by omega),cF _ _ (by omega),cF _ _ (by omega)])
 have h2:Ygu loO (es,(es.length:Int),(0:Int),w,es)=some (.inr ()):=YaH (step:=Ydh loO) (st:=fun n=>(es,(es.length:Int),(n:Int),w,es)) (N:=es.length) rfl
  (by simp only[Ydh];rw[cF _ _ (by omega)])
  (fun n hn=>by
   have e1:YBh .i64 ((n:Int)+1)=((n+1:Nat):Int):=by rw[wr6 (by omega) (by omega)];omega
   obtain⟨hne,hp,hr⟩:=h8.ev _ (gmem es [] n hn)
   have h8e:=h8.e8 (gmem es [] n hn)
   have hpos:0< (es.getD n []).length:=List.length_pos_iff.2 hne
   have h3:Ygt loO (es.getD n [],(-1:Int),es,(es.length:Int),(n:Int),es.getD n [],((es.getD n []).length:Int),(0:Int),w,es)=some (.inr (es.getD n [],es,(es.length:Int),(n:Int),w,es)):=YaH (step:=Ydg loO) (st:=fun k=>(es.getD n [],(if k=0 then-1 else(es.getD n []).getD (k-1) 0),es,(es.length:Int),(n:Int),es.getD n [],((es.getD n []).length:Int),(k:Int),w,es)) (N:=(es.getD n []).length) rfl
    (by simp only[Ydg,YBb];rw[cF _ _ (by omega)])
    (fun k hk=>by
     have e1:YBh .i64 ((k:Int)+1)=((k+1:Nat):Int):=by rw[wr6 (by omega) (by omega)];omega
     have hv:=hr _ (gmem _ 0 k hk)
     have hlt:(if k=0 then-1 else(es.getD n []).getD (k-1) 0)< (es.getD n []).getD k 0:=by
      split
      ·omega
      ·exact YmY hp (k-1) k (by omega) hk
     simp only[Ydg,YBb,e1]
     rw[cT _ _ (by omega),chkT _ (by omega),cF _ _ (by omega),cF _ _ (by omega)]
     simp)
   simp only[Ydh,YBb,h3,YwU,YaU,e1]
   rw[cT _ _ (by omega),chkT _ (by omega),cF _ _ (by omega)])
 simp only[q1,h1,h2,YwU,YaU]
 rw[cF _ _ (by omega),cF _ _ (by omega)]
def atE(es:List (List Int))(n:Nat)(v:Nat):List Int:=((List.range n).filter fun i=>decide ((v:Int)∈es.getD i [])).map fun(i:Nat)=>(i:Int)
theorem Ywr(es:List (List Int))(n v:Nat):(atE es n v).length<=n:=by
 unfold atE
 rw[YAp]
 exact YAT (List.length_filter_le _ _) (by simp)
theorem YdP(es:List (List Int))(n v:Nat)(i:Int):i∈atE es n v↔0<=i/\i< (n:Int)/\ (v:Int)∈es.getD i.toNat []:=by
 unfold atE
 simp only[YAs,List.mem_filter,List.mem_range,decide_eq_true_eq]
 constructor
 ·rintro⟨k,⟨h1,h2⟩,rfl⟩;simp;exact⟨by omega,by simpa using h2⟩
 ·rintro⟨h1,h2,h3⟩;exact⟨i.toNat,⟨by omega,h3⟩,by omega⟩
theorem Yws(es:List (List Int))(n v:Nat):(atE es n v).Nodup:=by
 unfold atE List.Nodup
 rw[List.pairwise_map]
 exact(List.nodup_range.filter _).imp (fun h=>by omega)
end Go.Abs.G39
namespace Go.Abs.G39
open Go Go.Abs
set_option maxRecDepth 100000
theorem Ye0{S R:Type}{step:S->Option (S⊕R)}(st:Nat->S)(N:Nat)(p:Nat->Bool)(yes:Nat->R)(no:R)(he:step (st N)=some (.inr no))
  (hs: ∀n,n<N->step (st n)=bif p n then some (.inr (yes n))else some (.inl (st (n+1)))):((List.range N).any p=false/\Yw7 step (st 0)=some no)\/((List.range N).any p=true/\ ∃n,n<N/\Yw7 step (st 0)=some (yes n)):=by
 have go: ∀k n,n+k=N->((List.range' n k).any p=false/\Yw7 step (st n)=some no)\/((List.range' n k).any p=true/\ ∃m,m<N/\Yw7 step (st n)=some (yes m)):=by
  intro k
  induction k with
  |zero=>intro n h;rw[Yaf];simp only[Nat.add_zero]at h;subst h;rw[he];exact .inl ⟨rfl,rfl⟩
  |succ k ih=>
   intro n h
   rw[Yaf,hs n (by omega)]
   cases hp:p n with
   |true=>exact .inr ⟨by simp[List.range'_succ,hp],n,by omega,rfl⟩
   |false=>
    simp only[cond_false,List.range'_succ,List.any_cons,hp,Bool.false_or]
    exact ih (n+1) (by omega)
 have:=go N 0 (by omega)
 rw[<-List.range_eq_range']at this
 exact this
theorem Ywt(s h:List Int)(hs:s.length<=1000)(hr: ∀i∈s,0<=i/\i< (h.length:Int)):q9 loO s h=some (s.any fun i=>decide (h.getD i.toNat 0=1),h):=by
 have hf:=Ye0 (step:=Ycs loO) (fun n=>(s,(s.length:Int),(n:Int),h)) s.length (fun n=>decide (h.getD (s.getD n 0).toNat 0=1)) (fun n=>.inl ((n:Int),h)) (.inr h)
  (by simp only[Ycs];rw[cF _ _ (by omega)])
  (fun n hn=>by
   have e1:YBh .i64 ((n:Int)+1)=((n+1:Nat):Int):=by rw[wr6 (by omega) (by omega)];omega
   have hi:=hr _ (gmem s 0 n hn)
   have hg:q7 loO (s.getD n 0) h=some (decide (h.getD (s.getD n 0).toNat 0=1),h):=by
    simp only[q7];rw[chkT _ (by omega)]
   simp only[Ycs,YBb,e1,hg,YwU]
   rw[cT _ _ (by omega),chkT _ (by omega),chkT _ trivial])
 rw[YbB s 0 (fun i=>decide (h.getD i.toNat 0=1))]at hf
 have e0:Ygv loO (s,(s.length:Int),(0:Int),h)=Yw7 (Ycs loO) (s,(s.length:Int),((0:Nat):Int),h):=rfl
 rcases hf with⟨h1,h2⟩| ⟨h1,n,hn,h2⟩
 ·simp only[q9,q8,e0,h2,YwU,YaU,h1]
  rw[chkT _ trivial];rfl
 ·simp only[q9,q8,e0,h2,YwU,YeX,h1]
  rw[chkT _ trivial]
  have:decide ((0:Int)<=(n:Int))=true:=by simp
  rw[this]
def rest(e rem:List Int):List Int:=e.filter fun x=>decide (x∉rem)
theorem Ym6(e rem:List Int)(v:Int):rest e (v::rem)=(rest e rem).filter (· !=v):=by
 unfold rest
 rw[List.filter_filter]
 refine List.filter_congr fun x _=> ?_
 by_cases h1:x=v<;>by_cases h2:x∈rem<;>simp[h1,h2]
theorem Ym7(e rem:List Int)(v:Int)(hd:e.Nodup):((rest e (v::rem)).length:Int)=((rest e rem).length:Int)-(if v∈rest e rem then 1 else 0):=by
 have hd':(rest e rem).Nodup:=hd.sublist List.filter_sublist
 rw[Ym6,<-hd'.erase_eq_filter,List.length_erase]
 by_cases h:v∈rest e rem
 ·rw[if_pos h,if_pos h]
  have:=List.length_pos_of_mem h
  omega
 ·rw[if_neg h,if_neg h];omega
structure GI(es:List (List Int))(order:List Int)(k:Nat)(out rem h3:List Int):Prop where
 mem: ∀v,v∈order.take k↔v∈out\/v∈rem
 sub:out.Sublist (order.take k)
 hh:h3=tab es.length (fun i=>((rest (es.getD i []) rem).length:Int))
 ne: ∀e∈es,rest e rem≠ []
 key: ∀v∈out,∃e∈es,rest e rem=[v]
theorem g6{es:List (List Int)}(hel:es.length<=12)(at6:List (List Int))(a:List Int)(x y:Int)(out ord:List Int)(c:Nat->Int)(hc: ∀i,i<es.length->0<=c i/\c i<=100)(hd:a.Nodup)(hal:a.length<=12)(hr: ∀i∈a,0<=i/\i< (es.length:Int)):
  Ygz loO (at6,x,y,a,(a.length:Int),(0:Int),out,ord,tab es.length c)=some (at6,x,y,out,ord,tab es.length fun i=>c i-(if(i:Int)∈a then 1 else 0)):=by
 refine YaH (step:=Ydl loO) (st:=fun m=>(at6,x,y,a,(a.length:Int),(m:Int),out,ord,tab es.length fun i=>c i-(if(i:Int)∈a.take m then 1 else 0))) (N:=a.length) ?_ ?_ ?_
 ·simp
 ·simp only[Ydl]
  rw[cF _ _ (by omega),YAv]
 ·intro m hm
  have e1:YBh .i64 ((m:Int)+1)=((m+1:Nat):Int):=by rw[wr6 (by omega) (by omega)];omega
  have hv:=hr _ (gmem _ 0 m hm)
  have hni:=YeZ hd m hm
  obtain⟨v,hv'⟩: ∃v:Nat,a.getD m 0=(v:Int):=⟨(a.getD m 0).toNat,by omega⟩
  rw[hv']at hv hni
  have hvl:v<es.length:=by omega
  have hcv:=hc v hvl
  simp only[Ydl,YBb,e1,hv',Yb0]
  rw[cT _ _ (by omega),chkT _ (by omega),chkT _ (by omega),chkT _ (by omega),Yb1 _ _ _ _ hvl,if_neg hni,YmW,wr6 (by omega) (by omega)]
  rw[YgS (g:=fun i=>c i-(if(i:Int)∈a.take (m+1)then 1 else 0)) (fun k hk=>by
   rw[take_succ' _ 0 m hm,hv']
   by_cases e:k=v
   ·subst e;simp
   ·have:(k:Int)≠ (v:Int):=by omega
    simp[e,this])]
theorem g4{w:List Int}{es:List (List Int)}(h8:In8 w es)(order:List Int)(hd:order.Nodup)(hol:order.length<=8)(hr: ∀v∈order,0<=v/\v< (w.length:Int)): ∀(j k:Nat) (out rem h3:List Int),k+j=order.length->GI es order k out rem h3->
  ∃out' rem' h3',Yct loO (tab w.length (atE es es.length),(order.length:Int),(k:Int),out,order,h3)=some out'/\GI es order order.length out' rem' h3'
 |0,k,out,rem,h3,hk,hg=>by
  refine⟨out,rem,h3,?_,by have:k=order.length:=by omega
                          subst this;exact hg⟩
  simp only[Yct,runO]
  rw[Yaf]
  simp only[Ydm]
  rw[cF _ _ (by omega)]
 |j+1,k,out,rem,h3,hk,hg=>by
  have hmx:maxEl>=100000:=by decide
  have hwl:=h8.wl
  have hel:=h8.el
  have e1:YBh .i64 ((k:Int)+1)=((k+1:Nat):Int):=by rw[wr6 (by omega) (by omega)];omega
  have hv:=hr _ (gmem order 0 k (by omega))
  have hni:=YeZ hd k (by omega)
  obtain⟨v,hv'⟩: ∃v:Nat,order.getD k 0=(v:Int):=⟨(order.getD k 0).toNat,by omega⟩
  rw[hv']at hv hni
  have hvl:v<w.length:=by omega
  have hno:(v:Int)∉out:=fun h=>hni ((hg.mem _).2 (.inl h))
  have hnr:(v:Int)∉rem:=fun h=>hni ((hg.mem _).2 (.inr h))
  have hal:=Ywr es es.length v
  have hdn: ∀e∈es,e.Nodup:=fun e he=>YdM (h8.ev e he).2.1
  have hol':out.length<=order.length:=YAT hg.sub.length_le (by rw[List.length_take];omega)
  have h3l:h3.length=es.length:=by rw[hg.hh,Yb0]
  have har: ∀i∈atE es es.length v,0<=i/\i< (h3.length:Int):=fun i hi=>by have:=(YdP _ _ _ _).1 hi;omega
  have hcon:=Ywt (atE es es.length v) h3 (by omega) har
  have hmemr: ∀e∈es,((v:Int)∈rest e rem↔ (v:Int)∈e):=fun e he=>by
   unfold rest;simp[hnr]
  have tk: ∀u,u∈order.take (k+1)↔u∈order.take k\/u=(v:Int):=fun u=>by
   rw[take_succ' order 0 k (by omega),hv'];simp
  cases hB:(atE es es.length v).any fun i=>decide (h3.getD i.toNat 0=1)with
  |true=>
   have hg':GI es order (k+1) (out++[(v:Int)]) rem h3:=by
    refine⟨fun u=> ?_,?_,hg.hh,hg.ne,fun u hu=> ?_⟩
    ·rw[tk,hg.mem];simp only[YAD,YAB]
     exact⟨fun h=>by rcases h with(h|h)|h<;>simp[h],fun h=>by rcases h with(h|h)|h<;>simp[h]⟩
    ·rw[take_succ' order 0 k (by omega),hv']
     exact hg.sub.append (List.Sublist.refl _)
    ·rcases YAD.1 hu with hu|hu
     ·exact hg.key u hu
     ·have:u=(v:Int):=by simpa using hu
      subst this
      obtain⟨i,hi,h1⟩:=YAE.1 hB
      have h1:=of_decide_eq_true h1
      obtain⟨i1,i2,i3⟩:=(YdP _ _ _ _).1 hi
      rw[hg.hh,Yb1 _ _ _ _ (by omega)]at h1
      have hme:=gmem es [] i.toNat (by omega)
      refine⟨_,hme,?_⟩
      have hvm:=(hmemr _ hme).2 i3
      obtain⟨z,hz⟩:=List.length_eq_one_iff.1 (show(rest (es.getD i.toNat []) rem).length=1 by omega)
      rw[hz]at hvm⊢
      simp at hvm
      rw[hvm]
   obtain⟨out',rem',h3',r1,r2⟩:=g4 h8 order hd hol hr j (k+1) _ rem h3 (by omega) hg'
   refine⟨out',rem',h3',?_,r2⟩
   simp only[Yct,runO]at*
   rw[Yaf]
   simp only[Ydm,YBb,e1,hv',Yb0]
   rw[cT _ _ (by omega),chkT _ (by omega),chkT _ (by omega),Yb1 _ _ _ _ hvl,hcon]
   simp only[YwU,hB,cond_true]
   rw[chkT _ trivial,chkT _ (by simp only[YAl,YAK];omega)]
   exact r1
  |false=>
   have hne1: ∀e∈es,(v:Int)∈e->(rest e rem).length≠1:=by
    intro e he hve h1
    obtain⟨i,hi,rfl⟩:=List.mem_iff_getElem.1 he
    have hgi:es.getD i []=es[i]:=by rw[YAj,YAa hi];rfl
    have:=List.any_eq_false.1 hB (i:Int) ((YdP _ _ _ _).2 ⟨by omega,by omega,by rw[YBb,hgi];exact hve⟩)
    apply this
    rw[YBb,hg.hh,Yb1 _ _ _ _ hi,hgi,h1]
    rfl
   have hg':GI es order (k+1) out ((v:Int)::rem) (tab es.length fun i=>((rest (es.getD i []) rem).length:Int)-(if(i:Int)∈atE es es.length v then 1 else 0)):=by
    refine⟨fun u=> ?_,?_,?_,fun e he=> ?_,fun u hu=> ?_⟩
    ·rw[tk,hg.mem];simp only[YAi]
     exact⟨fun h=>by rcases h with(h|h)|h<;>simp[h],fun h=>by rcases h with h|h|h<;>simp[h]⟩
    ·rw[take_succ' order 0 k (by omega),hv']
     exact hg.sub.trans (List.sublist_append_left _ _)
    ·refine YgS fun i hi=> ?_
     have hme:=gmem es [] i hi
     rw[Ym7 _ _ _ (hdn _ hme)]
     congr 1
     have:((i:Int)∈atE es es.length v)↔ (v:Int)∈rest (es.getD i []) rem:=by
      rw[YdP,hmemr _ hme,YBb]
      exact⟨fun h=>h.2.2,fun h=>⟨by omega,by omega,h⟩⟩
     by_cases h:(i:Int)∈atE es es.length v
     ·rw[if_pos h,if_pos (this.1 h)]
     ·rw[if_neg h,if_neg (fun x=>h (this.2 x))]
    ·intro h0
     have hl:=Ym7 e rem (v:Int) (hdn e he)
     rw[h0]at hl
     have:=List.length_pos_iff.2 (hg.ne e he)
     by_cases h:(v:Int)∈rest e rem
     ·have:=hne1 e he ((hmemr e he).1 h)
      rw[if_pos h]at hl
      simp at hl;omega
     ·rw[if_neg h]at hl
      simp at hl;omega
    ·obtain⟨e,he,h1⟩:=hg.key u hu
     refine⟨e,he,?_⟩
     have:u≠ (v:Int):=fun h=>hno (h▸hu)
     rw[Ym6,h1]
     simp[this]
   obtain⟨out',rem',h3',r1,r2⟩:=g4 h8 order hd hol hr j (k+1) out _ _ (by omega) hg'
   refine⟨out',rem',h3',?_,r2⟩
   have h6:=g6 hel (tab w.length (atE es es.length)) (atE es es.length v) (order.length:Int) (k:Int) out order (fun i=>((rest (es.getD i []) rem).length:Int)) (fun i hi=>by
    have h1:=h8.e8 (gmem es [] i hi)
    have h2:(rest (es.getD i []) rem).length<=(es.getD i []).length:=List.length_filter_le _ _
    omega) (Yws _ _ _) (by omega) (fun i hi=>by have:=(YdP _ _ _ _).1 hi;omega)
   rw[<-hg.hh]at h6
   simp only[Yct,runO]at*
   rw[Yaf]
   simp only[Ydm,YBb,e1,hv',Yb0]
   rw[cT _ _ (by omega),chkT _ (by omega),chkT _ (by omega),Yb1 _ _ _ _ hvl,hcon]
   simp only[YwU,hB,cond_false]
   rw[chkT _ trivial,chkT _ (by omega),h6]
   simp only[YwU,e1]
   exact r1
theorem Ym8{n:Int}(h:(Lit.int .u8 n).wf=true):0<=n/\n<=255:=by
 simp only[Lit.wf,YA7,decide_eq_true_eq]at h
 have h1:IntKind.u8.min=0:=rfl
 have h2:IntKind.u8.max=255:=rfl
 omega
theorem Ywu{n:Int}(h:(Lit.int .u16 n).wf=true):0<=n/\n<=65535:=by
 simp only[Lit.wf,YA7,decide_eq_true_eq]at h
 have h1:IntKind.u16.min=0:=rfl
 have h2:IntKind.u16.max=65535:=rfl
 omega
end Go.Abs.G39
namespace Go.Abs.G39
open Go Go.Abs
set_option maxRecDepth 100000
def hasM(m:List Int)(e:List Int)(k:Int):Bool:=e.any fun v=>decide (m.getD v.toNat 0=k)
def Vts(n:Nat)(e:List Int):Prop:=e.length<=8/\ ∀v∈e,0<=v/\v< (n:Int)
theorem In8.vts{w:List Int}{es:List (List Int)}(h:In8 w es){e:List Int}(he:e∈es):Vts w.length e:=⟨h.e8 he,(h.ev e he).2.2⟩
theorem Ywv(w:List Int)(es:List (List Int))(lf:Int)(m:List Int)(e:List Int)(k:Int)(hv:Vts m.length e):q34 loO e k w es lf m=some (hasM m e k,w,es,lf,m):=by
 have hel:=hv.1
 have hf:=Ye0 (step:=Ycu loO) (fun n=>(e,(e.length:Int),(n:Int),k,w,es,lf,m)) e.length (fun n=>decide (m.getD (e.getD n 0).toNat 0=k)) (fun n=>.inl ((n:Int),k,w,es,lf,m)) (.inr (k,w,es,lf,m))
  (by simp only[Ycu];rw[cF _ _ (by omega)])
  (fun n hn=>by
   have e1:YBh .i64 ((n:Int)+1)=((n+1:Nat):Int):=by rw[wr6 (by omega) (by omega)];omega
   have hi:=hv.2 _ (gmem e 0 n hn)
   have hg:q31 loO (e.getD n 0) k w es lf m=some (decide (m.getD (e.getD n 0).toNat 0=k),k,w,es,lf,m):=by
    simp only[q31];rw[chkT _ (by omega)]
   simp only[Ycu,YBb,e1,hg,YwU]
   rw[cT _ _ (by omega),chkT _ (by omega),chkT _ trivial])
 rw[YbB e 0 (fun i=>decide (m.getD i.toNat 0=k))]at hf
 have e0:YgA loO (e,(e.length:Int),(0:Int),k,w,es,lf,m)=Yw7 (Ycu loO) (e,(e.length:Int),((0:Nat):Int),k,w,es,lf,m):=rfl
 rcases hf with⟨h1,h2⟩| ⟨h1,n,hn,h2⟩
 ·simp only[q34,q33,q32,e0,h2,YwU,YaU,hasM,h1]
  rw[chkT _ trivial];simp only[YwU];rw[chkT _ trivial];rfl
 ·simp only[q34,q33,q32,e0,h2,YwU,YeX,hasM,h1]
  rw[chkT _ trivial]
  have:decide ((0:Int)<=(n:Int))=true:=by simp
  simp only[YwU]
  rw[chkT _ trivial,this]
theorem YcD(w:List Int)(es:List (List Int))(lf:Int)(m:List Int)(e:List Int)(k:Int)(hv:Vts m.length e):q43 loO e k w es lf m=some (hasM m e k,w,es,lf,m):=by
 have hel:=hv.1
 have hf:=Ye0 (step:=Ycw loO) (fun n=>(e,(e.length:Int),(n:Int),k,w,es,lf,m)) e.length (fun n=>decide (m.getD (e.getD n 0).toNat 0=k)) (fun n=>.inl ((n:Int),k,w,es,lf,m)) (.inr (k,w,es,lf,m))
  (by simp only[Ycw];rw[cF _ _ (by omega)])
  (fun n hn=>by
   have e1:YBh .i64 ((n:Int)+1)=((n+1:Nat):Int):=by rw[wr6 (by omega) (by omega)];omega
   have hi:=hv.2 _ (gmem e 0 n hn)
   have hg:q40 loO (e.getD n 0) k w es lf m=some (decide (m.getD (e.getD n 0).toNat 0=k),k,w,es,lf,m):=by
    simp only[q40];rw[chkT _ (by omega)]
   simp only[Ycw,YBb,e1,hg,YwU]
   rw[cT _ _ (by omega),chkT _ (by omega),chkT _ trivial])
 rw[YbB e 0 (fun i=>decide (m.getD i.toNat 0=k))]at hf
 have e0:YgC loO (e,(e.length:Int),(0:Int),k,w,es,lf,m)=Yw7 (Ycw loO) (e,(e.length:Int),((0:Nat):Int),k,w,es,lf,m):=rfl
 rcases hf with⟨h1,h2⟩| ⟨h1,n,hn,h2⟩
 ·simp only[q43,q42,q41,e0,h2,YwU,YaU,hasM,h1]
  rw[chkT _ trivial];simp only[YwU];rw[chkT _ trivial];rfl
 ·simp only[q43,q42,q41,e0,h2,YwU,YeX,hasM,h1]
  rw[chkT _ trivial]
  have:decide ((0:Int)<=(n:Int))=true:=by simp
  simp only[YwU]
  rw[chkT _ trivial,this]
def Yx9(m:List Int)(es:List (List Int)):Bool:=es.any fun e=> !hasM m e 1&& !hasM m e 0
theorem Ye1(w:List Int)(es:List (List Int))(lf:Int)(m:List Int)(hel:es.length<=12)(hv: ∀e∈es,Vts m.length e):q38 loO w es lf m=some (Yx9 m es,w,es,lf,m):=by
 have hf:=Ye0 (step:=Ycv loO) (fun n=>(es,(es.length:Int),(n:Int),w,es,lf,m)) es.length (fun n=> !hasM m (es.getD n []) 1&& !hasM m (es.getD n []) 0) (fun n=>.inl ((n:Int),w,es,lf,m)) (.inr (w,es,lf,m))
  (by simp only[Ycv];rw[cF _ _ (by omega)])
  (fun n hn=>by
   have e1:YBh .i64 ((n:Int)+1)=((n+1:Nat):Int):=by rw[wr6 (by omega) (by omega)];omega
   have hi:=hv _ (gmem es [] n hn)
   have hg:q35 loO (es.getD n []) w es lf m=some (!hasM m (es.getD n []) 1&& !hasM m (es.getD n []) 0,w,es,lf,m):=by
    simp only[q35,Ywv w es lf m _ _ hi,YwU];rw[chkT _ trivial]
    cases hasM m (es.getD n []) 1 with
    |true=>rfl
    |false=>simp only[Bool.not_false,cond_true];rw[chkT _ trivial];rfl
   simp only[Ycv,YBb,e1,hg,YwU]
   rw[cT _ _ (by omega),chkT _ (by omega),chkT _ trivial])
 rw[YbB es [] (fun e=> !hasM m e 1&& !hasM m e 0)]at hf
 have e0:YgB loO (es,(es.length:Int),(0:Int),w,es,lf,m)=Yw7 (Ycv loO) (es,(es.length:Int),((0:Nat):Int),w,es,lf,m):=rfl
 rcases hf with⟨h1,h2⟩| ⟨h1,n,hn,h2⟩
 ·simp only[q38,q37,q36,e0,h2,YwU,YaU,Yx9,h1]
  rw[chkT _ trivial];simp only[YwU];rw[chkT _ trivial];rfl
 ·simp only[q38,q37,q36,e0,h2,YwU,YeX,Yx9,h1]
  rw[chkT _ trivial]
  have:decide ((0:Int)<=(n:Int))=true:=by simp
  simp only[YwU]
  rw[chkT _ trivial,this]
theorem YgW(w:List Int)(es:List (List Int))(lf:Int)(m:List Int)(e:List Int)(hv:Vts m.length e)(x y z:Int)(hz:es=es): ∀(j k:Nat) (best:Int) (cnt:List Int),k+j=e.length->cnt.length=m.length->(best= -1\/(0<=best/\best< (m.length:Int)/\m.getD best.toNat 0=0))->
  ∃best' cnt',YbA loO (best,es,x,y,e,(e.length:Int),(k:Int),w,es,lf,m,cnt)=some (best',es,x,y,w,es,lf,m,cnt')/\cnt'.length=m.length/\ (best'= -1\/(0<=best'/\best'< (m.length:Int)/\m.getD best'.toNat 0=0))/\ (best'= -1->best= -1/\ ∀v∈e.drop k,m.getD v.toNat 0≠0)
 |0,k,best,cnt,hk,hc,hb=>by
  refine⟨best,cnt,?_,hc,hb,fun h=>⟨h,fun v hv=>by rw[YAM (by omega)]at hv;cases hv⟩⟩
  simp only[YbA,runO]
  rw[Yaf]
  simp only[Ydp]
  rw[cF _ _ (by omega)]
 |j+1,k,best,cnt,hk,hc,hb=>by
  have hel:=hv.1
  have e1:YBh .i64 ((k:Int)+1)=((k+1:Nat):Int):=by rw[wr6 (by omega) (by omega)];omega
  have hi:=hv.2 _ (gmem e 0 k (by omega))
  have hd:e.drop k=e.getD k 0::e.drop (k+1):=by
   rw[List.drop_eq_getElem_cons (by omega),YAj,YAa (by omega)];rfl
  by_cases h0:m.getD (e.getD k 0).toNat 0=0
  ·have ihp: ∀best1,(0<=best1/\best1< (m.length:Int)/\m.getD best1.toNat 0=0)-> ∀cnt1:List Int,cnt1.length=m.length->
     ∃best' cnt',YbA loO (best1,es,x,y,e,(e.length:Int),((k+1:Nat):Int),w,es,lf,m,cnt1)=some (best',es,x,y,w,es,lf,m,cnt')/\cnt'.length=m.length/\ (best'= -1\/(0<=best'/\best'< (m.length:Int)/\m.getD best'.toNat 0=0))/\ (best'= -1->best= -1/\ ∀v∈e.drop k,m.getD v.toNat 0≠0):=by
    intro best1 hb1 cnt1 hc1
    obtain⟨best',cnt',r1,r2,r3,r4⟩:=YgW w es lf m e hv x y z hz j (k+1) best1 cnt1 (by omega) hc1 (.inr hb1)
    exact⟨best',cnt',r1,r2,r3,fun h=>by have:=(r4 h).1;omega⟩
   simp only[YbA,runO]at*
   rw[Yaf]
   simp only[Ydp,YBb,e1,h0,decide_true,YA8,cond_false]
   rw[cT _ _ (by omega),chkT _ (by omega),chkT _ (by omega),chkT _ (by omega),chkT _ (by omega)]
   by_cases hneg:best<0
   ·rw[cT _ _ hneg]
    exact ihp _ ⟨hi.1,hi.2,h0⟩ _ (by rw[YAm];exact hc)
   ·rw[cF _ _ hneg,chkT _ (by rw[YAm];omega),chkT _ (by rw[YAm];omega)]
    have hb':0<=best/\best< (m.length:Int)/\m.getD best.toNat 0=0:=by
     rcases hb with h|h
     ·omega
     ·exact h
    cases hcc:decide ((cnt.set (e.getD k 0).toNat (YBh .i64 (cnt.getD (e.getD k 0).toNat 0+1))).getD best.toNat 0< (cnt.set (e.getD k 0).toNat (YBh .i64 (cnt.getD (e.getD k 0).toNat 0+1))).getD (e.getD k 0).toNat 0)with
    |true=>
     simp only[cond_true]
     exact ihp _ ⟨hi.1,hi.2,h0⟩ _ (by rw[YAm];exact hc)
    |false=>
     simp only[cond_false]
     exact ihp _ hb' _ (by rw[YAm];exact hc)
  ·obtain⟨best',cnt',r1,r2,r3,r4⟩:=YgW w es lf m e hv x y z hz j (k+1) best cnt (by omega) hc hb
   refine⟨best',cnt',?_,r2,r3,fun h=>⟨(r4 h).1,fun v hv=> ?_⟩⟩
   ·simp only[YbA,runO]at*
    rw[Yaf]
    simp only[Ydp,YBb,e1,h0,decide_false,Bool.not_false,cond_true]
    rw[cT _ _ (by omega),chkT _ (by omega),chkT _ (by omega)]
    exact r1
   ·rw[hd]at hv
    rcases YAi.1 hv with h'|h'
    ·rw[h'];exact h0
    ·exact(r4 h).2 v h'
end Go.Abs.G39
namespace Go.Abs.G39
open Go Go.Abs
set_option maxRecDepth 100000
def sg(n:Nat)(f:Nat->Int):Int:=((List.range n).map f).sum
theorem YaZ(n:Nat)(f:Nat->Int):sg (n+1) f=sg n f+f n:=by simp[sg,List.range_succ]
theorem YbC{f g:Nat->Int}: ∀{n:Nat},(∀i,i<n->f i<=g i)->sg n f<=sg n g
 |0,_=>by simp[sg]
 |n+1,h=>by rw[YaZ,YaZ];have:=YbC (n:=n) (fun i hi=>h i (by omega));have:=h n (by omega);omega
theorem YcE{f g:Nat->Int}{n:Nat}(h: ∀i,i<n->f i=g i):sg n f=sg n g:=
 Int.le_antisymm (YbC fun i hi=>by have:=h i hi;omega) (YbC fun i hi=>by have:=h i hi;omega)
theorem Ye2(f g:Nat->Int): ∀n,sg n (fun i=>f i+g i)=sg n f+sg n g
 |0=>by simp[sg]
 |n+1=>by rw[YaZ,YaZ,YaZ,Ye2 f g n];omega
theorem YdQ: ∀n,sg n (fun _=>0)=0
 |0=>rfl
 |n+1=>by rw[YaZ,YdQ n];rfl
theorem Ye3(v:Nat)(a:Int): ∀n,v<n->sg n (fun i=>if i=v then a else 0)=a
 |0,h=>by omega
 |n+1,h=>by
  rw[YaZ]
  by_cases e:n=v
  ·subst e
   rw[YcE (g:=fun _=>0) (fun i hi=>if_neg (by omega)),YdQ,if_pos rfl];omega
  ·rw[Ye3 v a n (by omega),if_neg e];omega
def Hit(es:List (List Int))(X:Nat->Bool):Prop:= ∀e∈es,∃v∈e,X v.toNat=true
def Con(n:Nat)(m:List Int)(X:Nat->Bool):Prop:= ∀v,v<n->(m.getD v 0=1->X v=true)/\ (m.getD v 0=2->X v=false)
def wt(w:List Int)(X:Nat->Bool):Int:=sg w.length fun v=>if X v then w.getD v 0 else 0
structure Mk(n:Nat)(m:List Int):Prop where
 len:m.length=n
 val: ∀v,v<n->m.getD v 0=0\/m.getD v 0=1\/m.getD v 0=2
theorem pk16(w:List Int)(es:List (List Int))(lf:Int)(m:List Int)(e:List Int)(hv:Vts m.length e)(x y z s:Int)(room:List Int)(out:List (Int×Int))(hrl:room.length=m.length): ∀(j k:Nat) (a:Int),k+j=e.length->
  ∃a',Yby loO (s,x,e,a,es,y,z,e,(e.length:Int),(k:Int),w,es,lf,m,room,out)=some (s,x,e,a',es,y,z,w,es,lf,m,room,out)/\a'<=a/\ (∀v∈e.drop k,m.getD v.toNat 0=0->a'<=room.getD v.toNat 0)/\ (0<=a->(∀v∈e,m.getD v.toNat 0=0->0<=room.getD v.toNat 0)->0<=a')
 |0,k,a,hk=>by
  refine⟨a,?_,Int.le_refl _,fun v hv=>(by rw[YAM (by omega)]at hv;cases hv),fun h _=>h⟩
  simp only[Yby,runO]
  rw[Yaf]
  simp only[Ydn]
  rw[cF _ _ (by omega)]
 |j+1,k,a,hk=>by
  have hel:=hv.1
  have e1:YBh .i64 ((k:Int)+1)=((k+1:Nat):Int):=by rw[wr6 (by omega) (by omega)];omega
  have hm:=gmem e 0 k (by omega)
  have hi:=hv.2 _ hm
  have hd:e.drop k=e.getD k 0::e.drop (k+1):=by
   rw[List.drop_eq_getElem_cons (by omega),YAj,YAa (by omega)];rfl
  by_cases h0:m.getD (e.getD k 0).toNat 0=0
  ·obtain⟨a',r1,r2,r3,r4⟩:=pk16 w es lf m e hv x y z s room out hrl j (k+1) (min a (room.getD (e.getD k 0).toNat 0)) (by omega)
   refine⟨a',?_,by omega,fun v hv=> ?_,fun h h'=> ?_⟩
   ·simp only[Yby,runO]at*
    rw[Yaf]
    simp only[Ydn,YBb,e1,h0,decide_true,cond_true]
    rw[cT _ _ (by omega),chkT _ (by omega),chkT _ (by omega),chkT _ (by omega)]
    exact r1
   ·rw[hd]at hv
    rcases YAi.1 hv with h'|h'
    ·intro _;rw[h'];omega
    ·exact r3 v h'
   ·have:=h' _ hm h0
    exact r4 (by omega) h'
  ·obtain⟨a',r1,r2,r3,r4⟩:=pk16 w es lf m e hv x y z s room out hrl j (k+1) a (by omega)
   refine⟨a',?_,r2,fun v hv=> ?_,r4⟩
   ·simp only[Yby,runO]at*
    rw[Yaf]
    simp only[Ydn,YBb,e1,h0,decide_false,cond_false]
    rw[cT _ _ (by omega),chkT _ (by omega),chkT _ (by omega)]
    exact r1
   ·rw[hd]at hv
    rcases YAi.1 hv with h'|h'
    ·rw[h'];intro h;exact absurd h h0
    ·exact r3 v h'
theorem pk7(w:List Int)(es:List (List Int))(lf:Int)(m:List Int)(n:Nat)(e:List Int)(hv:Vts n e)(hd:e.Nodup)(x y z s a:Int)(ha:0<=a/\a<=1000)(r:Nat->Int)(hr: ∀v,v<n-> -1000<=r v/\r v<=1000)(out:List (Int×Int)):
  YgD loO (s,x,a,es,y,z,e,(e.length:Int),(0:Int),w,es,lf,m,tab n r,out)=some (s,x,a,es,y,z,w,es,lf,m,tab n (fun v=>r v-(if(v:Int)∈e then a else 0)),out):=by
 have hel:=hv.1
 refine YaH (step:=Ydo loO) (st:=fun k=>(s,x,a,es,y,z,e,(e.length:Int),(k:Int),w,es,lf,m,tab n (fun v=>r v-(if(v:Int)∈e.take k then a else 0)),out)) (N:=e.length) ?_ ?_ ?_
 ·simp
 ·simp only[Ydo]
  rw[cF _ _ (by omega),YAv]
 ·intro k hk
  have e1:YBh .i64 ((k:Int)+1)=((k+1:Nat):Int):=by rw[wr6 (by omega) (by omega)];omega
  have hi:=hv.2 _ (gmem e 0 k hk)
  have hni:=YeZ hd k hk
  obtain⟨v,hv'⟩: ∃v:Nat,e.getD k 0=(v:Int):=⟨(e.getD k 0).toNat,by omega⟩
  rw[hv']at hi hni
  have hrv:=hr v (by omega)
  simp only[Ydo,YBb,e1,hv',Yb0]
  rw[cT _ _ (by omega),chkT _ (by omega),chkT _ (by omega),chkT _ (by omega),Yb1 _ _ _ _ (by omega),if_neg hni,YmW,wr6 (by omega) (by omega)]
  rw[YgS (g:=fun v=>r v-(if(v:Int)∈e.take (k+1)then a else 0)) (fun u hu=>by
   rw[take_succ' _ 0 k hk,hv']
   by_cases e:u=v
   ·subst e;simp
   ·have:(u:Int)≠ (v:Int):=by omega
    simp[e,this])]
def opn(m:List Int)(X:Nat->Bool)(v:Nat):Bool:=X v&&decide (m.getD v 0=0)
structure PK(w:List Int)(es:List (List Int))(m:List Int)(i:Nat)(s:Int)(r:Nat->Int):Prop where
 pos: ∀v,v<w.length->m.getD v 0=0->0<=r v
 bd: ∀v,v<w.length-> -(20*(i:Int))<=r v/\r v<=20
 sum:0<=s/\s<=20*(i:Int)
 key: ∀X,Con w.length m X->Hit es X->s+sg w.length (fun v=>if opn m X v then r v else 0)<=sg w.length (fun v=>if opn m X v then w.getD v 0 else 0)
def ldS(es:List (List Int))(v:Nat)(out:List (Int×Int)):Int:=(out.map fun y=>if(v:Int)∈es.getD y.1.toNat []then y.2 else 0).sum
structure PO(w:List Int)(es:List (List Int))(m:List Int)(s:Int)(r:Nat->Int)(out:List (Int×Int)):Prop where
 el: ∀y∈out,0<=y.1/\y.1< (es.length:Int)/\1<=y.2/\y.2<=20/\hasM m (es.getD y.1.toNat []) 1=false
 ld: ∀v,v<w.length->ldS es v out+r v=w.getD v 0
 sm:s=(out.map (·.2)).sum
theorem pk3{w:List Int}{es:List (List Int)}(h8:In8 w es)(lf:Int){m:List Int}(hm:Mk w.length m)(hnd:Yx9 m es=false): ∀(j i:Nat) (s:Int) (r:Nat->Int) (out:List (Int×Int)),i+j=es.length->out.length<=i->PK w es m i s r->PO w es m s r out->
  ∃s' out',Ybz loO (s,es,(es.length:Int),(i:Int),w,es,lf,m,tab w.length r,out)=some (s',w,es,lf,m,out')/\ ∃r',PK w es m es.length s' r'/\PO w es m s' r' out'/\out'.length<=es.length
 |0,i,s,r,out,hi,ho,hp,hpo=>by
  have:i=es.length:=by omega
  subst this
  refine⟨s,out,?_,r,hp,hpo,ho⟩
  simp only[Ybz,runO]
  rw[Yaf]
  simp only[Ycx]
  rw[cF _ _ (by omega)]
 |j+1,i,s,r,out,hi,ho,hp,hpo=>by
  have hmx:maxEl>=100000:=by decide
  have hwl:=h8.wl
  have hel:=h8.el
  have e1:YBh .i64 ((i:Int)+1)=((i+1:Nat):Int):=by rw[wr6 (by omega) (by omega)];omega
  have hme:=gmem es [] i (by omega)
  have hv:=h8.vts hme
  have hvm:Vts m.length (es.getD i []):=by rw[hm.len];exact hv
  have hd:=YdM (h8.ev _ hme).2.1
  cases hc:hasM m (es.getD i []) 1 with
  |true=>
   have hp':PK w es m (i+1) s r:=⟨hp.pos,fun v hv=>by have:=hp.bd v hv;omega,by have:=hp.sum;omega,hp.key⟩
   obtain⟨s',out',r1,r2⟩:=pk3 h8 lf hm hnd j (i+1) s r out (by omega) (by omega) hp' hpo
   refine⟨s',out',?_,r2⟩
   simp only[Ybz,runO]at*
   rw[Yaf]
   simp only[Ycx,YBb,e1,YcD w es lf m _ _ hvm,YwU,hc,cond_true]
   rw[cT _ _ (by omega),chkT _ (by omega),chkT _ trivial]
   exact r1
  |false=>
   obtain⟨a,q1,q2,q3,q4⟩:=pk16 w es lf m (es.getD i []) hvm (i:Int) (es.length:Int) (i:Int) s (tab w.length r) out (by rw[Yb0,hm.len]) (es.getD i []).length 0 1000000 (by omega)
   have hroom: ∀v∈es.getD i [],(tab w.length r).getD v.toNat 0=r v.toNat:=fun v h=>Yb1 _ _ _ _ (by have:=hv.2 v h;omega)
   have ha0:0<=a:=q4 (by omega) (fun v h h0=>by rw[hroom v h];exact hp.pos _ (by have:=hv.2 v h;omega) h0)
   have hop: ∃v∈es.getD i [],m.getD v.toNat 0=0:=by
    have hx:=List.any_eq_false.1 hnd _ hme
    have h0:hasM m (es.getD i []) 0=true:=by
     rw[hc]at hx
     cases h:hasM m (es.getD i []) 0 with
     |true=>rfl
     |false=>rw[h]at hx;exact absurd rfl hx
    obtain⟨v,h1,h2⟩:=YAE.1 h0
    exact⟨v,h1,of_decide_eq_true h2⟩
   have ha1:a<=20:=by
    obtain⟨v,h1,h2⟩:=hop
    have:=q3 v (by simpa using h1) h2
    rw[hroom v h1]at this
    have:=(hp.bd v.toNat (by have:=hv.2 v h1;omega)).2
    omega
   by_cases haz:a=0
   ·have hp':PK w es m (i+1) s r:=⟨hp.pos,fun v hv=>by have:=hp.bd v hv;omega,by have:=hp.sum;omega,hp.key⟩
    obtain⟨s',out',r1,r2⟩:=pk3 h8 lf hm hnd j (i+1) s r out (by omega) (by omega) hp' hpo
    refine⟨s',out',?_,r2⟩
    have q1':Yby loO (s,(i:Int),es.getD i [],1000000,es,(es.length:Int),(i:Int),es.getD i [],((es.getD i []).length:Int),(0:Int),w,es,lf,m,tab w.length r,out)=_:=q1
    simp only[Ybz,runO]at*
    rw[Yaf]
    simp only[Ycx,YBb,e1,YcD w es lf m _ _ hvm,YwU,hc,cond_false,q1']
    rw[cT _ _ (by omega),chkT _ (by omega),chkT _ trivial,cT _ _ haz]
    exact r1
   ·have hsum:=hp.sum
    have hp':PK w es m (i+1) (s+a) (fun v=>r v-(if(v:Int)∈es.getD i []then a else 0)):=by
     refine⟨fun v hvl h0=> ?_,fun v hvl=> ?_,by omega,fun X hX hh=> ?_⟩
     ·by_cases h:(v:Int)∈es.getD i []
      ·rw[if_pos h]
       have:=q3 (v:Int) (by simpa using h) (by rw[YBb];exact h0)
       rw[hroom _ h,YBb]at this
       omega
      ·rw[if_neg h];have:=hp.pos v hvl h0;omega
     ·have:=hp.bd v hvl
      split<;>omega
     ·obtain⟨v,h1,h2⟩:=hh _ hme
      have hvr:=hv.2 v h1
      have hnot:m.getD v.toNat 0=0:=by
       rcases hm.val v.toNat (by omega)with h|h|h
       ·exact h
       ·exfalso
        have:hasM m (es.getD i []) 1=true:=YAE.2 ⟨v,h1,by simpa using h⟩
        rw[hc]at this;cases this
       ·have:=(hX v.toNat (by omega)).2 h
        rw[h2]at this;cases this
      have hov:opn m X v.toNat=true:=by
       unfold opn
       rw[h2,hnot];rfl
      have hle:sg w.length (fun u=>(if opn m X u then r u-(if(u:Int)∈es.getD i []then a else 0)else 0)+(if u=v.toNat then a else 0))<=sg w.length (fun u=>if opn m X u then r u else 0):=by
       refine YbC fun u hu=> ?_
       by_cases e:u=v.toNat
       ·have:(u:Int)∈es.getD i []:=by
         have:(u:Int)=v:=by omega
         rw[this];exact h1
        rw[if_pos e,if_pos this,e,hov]
        simp
       ·rw[if_neg e]
        by_cases ho:opn m X u=true
        ·rw[if_pos ho,if_pos ho]
         split<;>omega
        ·rw[if_neg ho,if_neg ho];omega
      rw[Ye2,Ye3 _ _ _ (by omega)]at hle
      have:=hp.key X hX hh
      omega
    obtain⟨s',out',r1,r2⟩:=pk3 h8 lf hm hnd j (i+1) (s+a) _ (out++[((i:Int),a)]) (by omega) (by simp;omega) hp' ⟨fun y hy=>by
      rcases YAD.1 hy with h|h
      ·exact hpo.el y h
      ·rw[YAB]at h
       subst h
       exact⟨by simp only;omega,by simp only;omega,by simp only;omega,by simp only;omega,hc⟩,
     fun v hv=>by
      have:=hpo.ld v hv
      simp only[ldS,YAH,List.sum_append,YAd,YAg,List.sum_cons,List.sum_nil,YBb]at this⊢
      omega,
     by simp only[YAH,List.sum_append,YAd,YAg,List.sum_cons,List.sum_nil,<-hpo.sm];omega⟩
    refine⟨s',out',?_,r2⟩
    have q1':Yby loO (s,(i:Int),es.getD i [],1000000,es,(es.length:Int),(i:Int),es.getD i [],((es.getD i []).length:Int),(0:Int),w,es,lf,m,tab w.length r,out)=_:=q1
    have q7:=pk7 w es lf m w.length (es.getD i []) hv hd (i:Int) (es.length:Int) (i:Int) s a ⟨ha0,by omega⟩ r (fun v h=>by have:=hp.bd v h;omega) out
    have e3:YBh .i64 (s+a)=s+a:=wr6 (by omega) (by omega)
    simp only[Ybz,runO]at*
    rw[Yaf]
    simp only[Ycx,YBb,e1,YcD w es lf m _ _ hvm,YwU,hc,cond_false,q1',q7,e3]
    rw[cT _ _ (by omega),chkT _ (by omega),chkT _ trivial,cF _ _ haz,chkT _ (by simp only[YAl,YAK];omega)]
    exact r1
theorem Yww{w:List Int}{es:List (List Int)}(h8:In8 w es)(lf:Int){m:List Int}(hm:Mk w.length m)(hnd:Yx9 m es=false): ∃s out,q44 loO w es lf m=some (s,w,es,lf,m,out)/\0<=s/\s<=1000/\
  (∀X,Con w.length m X->Hit es X->s<=sg w.length (fun v=>if opn m X v then w.getD v 0 else 0))/\out.length<=es.length/\ ∃r:Nat->Int,PO w es m s r out/\ ∀v,v<w.length->m.getD v 0=0->0<=r v:=by
 have hmx:maxEl>=100000:=by decide
 have hwl:=h8.wl
 have hel:=h8.el
 have hcl:q39 loO w=some w:=by
  have:YAR w.length maxEl=true:=Nat.ble_eq_true_of_le (by omega)
  simp only[q39,this]
  rfl
 have ht:w=tab w.length (fun v=>w.getD v 0):=YmX w 0
 obtain⟨s,out,r1,r,r2,r3,r4⟩:=pk3 h8 lf hm hnd es.length 0 0 (fun v=>w.getD v 0) [] (by omega) (by simp)
  ⟨fun v hv _=>by have:=h8.wv _ (gmem w 0 v hv);omega,fun v hv=>by have:=h8.wv _ (gmem w 0 v hv);omega,by omega,fun X _ _=>by omega⟩
  ⟨fun y hy=>(by cases hy),fun v _=>by simp[ldS],rfl⟩
 refine⟨s,out,?_,r2.sum.1,by have:=r2.sum.2;omega,fun X hX hh=> ?_,r4,r,r3,r2.pos⟩
 ·rw[<-ht]at r1
  have r1':Ybz loO (0,es,(es.length:Int),(0:Int),w,es,lf,m,w,[])=_:=r1
  simp only[q44,hcl,YwU,r1']
 ·have h1:=r2.key X hX hh
  have h2:0<=sg w.length (fun v=>if opn m X v then r v else 0):=by
   have hz:sg w.length (fun _=>0)<=sg w.length (fun v=>if opn m X v then r v else 0):=by
    refine YbC fun v hv=> ?_
    by_cases ho:opn m X v=true
    ·rw[if_pos ho]
     unfold opn at ho
     rw[YA7]at ho
     exact r2.pos v hv (of_decide_eq_true ho.2)
    ·rw[if_neg ho];omega
   rw[YdQ]at hz
   exact hz
  omega
theorem YgX{w:List Int}{es:List (List Int)}(h8:In8 w es)(lf:Int){m:List Int}(hm:Mk w.length m)(hnd:Yx9 m es=false): ∀(j i:Nat) (best:Int) (cnt:List Int),i+j=es.length->cnt.length=m.length->(best= -1\/(0<=best/\best< (m.length:Int)/\m.getD best.toNat 0=0))->
  ∃best',YbW loO (best,es,(es.length:Int),(i:Int),w,es,lf,m,cnt)=some (best',w,es,lf,m)/\ (best'= -1\/(0<=best'/\best'< (m.length:Int)/\m.getD best'.toNat 0=0))/\ (best'= -1->best= -1/\ ∀e∈es.drop i,hasM m e 1=true)
 |0,i,best,cnt,hi,hc,hb=>by
  refine⟨best,?_,hb,fun h=>⟨h,fun e he=>by rw[YAM (by omega)]at he;cases he⟩⟩
  simp only[YbW,runO]
  rw[Yaf]
  simp only[Ydq]
  rw[cF _ _ (by omega)]
 |j+1,i,best,cnt,hi,hc,hb=>by
  have hwl:=h8.wl
  have hel:=h8.el
  have e1:YBh .i64 ((i:Int)+1)=((i+1:Nat):Int):=by rw[wr6 (by omega) (by omega)];omega
  have hme:=gmem es [] i (by omega)
  have hvm:Vts m.length (es.getD i []):=by rw[hm.len];exact h8.vts hme
  have hd:es.drop i=es.getD i []::es.drop (i+1):=by
   rw[List.drop_eq_getElem_cons (by omega),YAj,YAa (by omega)];rfl
  cases hcc:hasM m (es.getD i []) 1 with
  |true=>
   obtain⟨best',r1,r2,r3⟩:=YgX h8 lf hm hnd j (i+1) best cnt (by omega) hc hb
   refine⟨best',?_,r2,fun h=>⟨(r3 h).1,fun e he=> ?_⟩⟩
   ·simp only[YbW,runO]at*
    rw[Yaf]
    simp only[Ydq,YBb,e1,YcD w es lf m _ _ hvm,YwU,hcc,cond_true]
    rw[cT _ _ (by omega),chkT _ (by omega),chkT _ trivial]
    exact r1
   ·rw[hd]at he
    rcases YAi.1 he with h'|h'
    ·rw[h'];exact hcc
    ·exact(r3 h).2 e h'
  |false=>
   obtain⟨best1,cnt1,q1,q2,q3,q4⟩:=YgW w es lf m (es.getD i []) hvm (es.length:Int) (i:Int) 0 rfl (es.getD i []).length 0 best cnt (by omega) hc hb
   obtain⟨best',r1,r2,r3⟩:=YgX h8 lf hm hnd j (i+1) best1 cnt1 (by omega) q2 q3
   refine⟨best',?_,r2,fun h=> ?_⟩
   ·have q1':YbA loO (best,es,(es.length:Int),(i:Int),es.getD i [],((es.getD i []).length:Int),(0:Int),w,es,lf,m,cnt)=_:=q1
    simp only[YbW,runO]at*
    rw[Yaf]
    simp only[Ydq,YBb,e1,YcD w es lf m _ _ hvm,YwU,hcc,cond_false,q1']
    rw[cT _ _ (by omega),chkT _ (by omega),chkT _ trivial]
    exact r1
   ·exfalso
    have h1:=(q4 (r3 h).1).2
    have hx:=List.any_eq_false.1 hnd _ hme
    rw[hcc]at hx
    have h0:hasM m (es.getD i []) 0=true:=by
     cases h:hasM m (es.getD i []) 0 with
     |true=>rfl
     |false=>rw[h]at hx;exact absurd rfl hx
    obtain⟨v,h2,h3⟩:=YAE.1 h0
    exact h1 v (by simpa using h2) (of_decide_eq_true h3)
theorem Ywx{w:List Int}{es:List (List Int)}(h8:In8 w es)(lf:Int){m:List Int}(hm:Mk w.length m)(hnd:Yx9 m es=false): ∃v,q45 loO w es lf m=some (v,w,es,lf,m)/\ ((v= -1/\ ∀e∈es,hasM m e 1=true)\/(0<=v/\v< (w.length:Int)/\m.getD v.toNat 0=0)):=by
 have hmx:maxEl>=100000:=by decide
 have hwl:=h8.wl
 have hml:=hm.len
 obtain⟨v,r1,r2,r3⟩:=YgX h8 lf hm hnd es.length 0 (-1) (List.replicate m.length 0) (by omega) (by simp) (.inl rfl)
 refine⟨v,?_,?_⟩
 ·have r1':YbW loO (-1,es,(es.length:Int),(0:Int),w,es,lf,m,List.replicate m.length 0)=_:=r1
  simp only[q45,YBb,r1',YwU]
  rw[chkT _ (by omega)]
 ·rw[hml]at r2
  rcases r2 with h|h
  ·exact .inl ⟨h,fun e he=>(r3 h).2 e (by simpa using he)⟩
  ·exact .inr h
end Go.Abs.G39
namespace Go.Abs.G39
open Go Go.Abs
set_option maxRecDepth 100000
theorem Ya0(m:List Int)(v u:Nat)(a:Int)(hv:v<m.length):(m.set v a).getD u 0=if u=v then a else m.getD u 0:=by
 rw[YAj,YAj,List.getElem?_set]
 by_cases h:u=v
 ·subst h;simp[hv]
 ·simp[h,Ne.symm h]
theorem Mk.set{n:Nat}{m:List Int}(h:Mk n m)(v:Nat)(a:Int)(ha:a=0\/a=1\/a=2)(hv:v<n):Mk n (m.set v a):=
 ⟨by rw[YAm];exact h.len,fun u hu=>by
  rw[Ya0 m v u a (by rw[h.len];exact hv)]
  split
  ·exact ha
  ·exact h.val u hu⟩
theorem Ym9(w:List Int)(b:Nat): ∀k,sumw w (subB b k)=sg k fun v=>if b.testBit v then w.getD v 0 else 0
 |0=>by simp[subB,sumw,sg]
 |k+1=>by
  rw[YgU,Ym1,Ym9 w b k,YaZ]
  by_cases h:b.testBit k=true
  ·rw[if_pos h,if_pos h];simp[sumw]
  ·rw[if_neg h,if_neg h];simp[sumw]
def opc(n:Nat)(m:List Int):Int:=sg n fun v=>if m.getD v 0=0 then 1 else 0
theorem Yna{n:Nat}{m:List Int}(hm:Mk n m)(v:Nat)(hv:v<n)(h0:m.getD v 0=0)(a:Int)(ha:a≠0):opc n (m.set v a)=opc n m-1:=by
 have e:opc n m=opc n (m.set v a)+1:=by
  have e1:=Ye3 v 1 n hv
  have e2:sg n (fun u=>(if(m.set v a).getD u 0=0 then(1:Int)else 0)+(if u=v then 1 else 0))=opc n m:=by
   refine YcE fun u hu=> ?_
   rw[Ya0 m v u a (by rw[hm.len];exact hv)]
   by_cases e:u=v
   ·subst e;rw[if_pos rfl,if_neg ha,if_pos rfl,if_pos h0];rfl
   ·rw[if_neg e,if_neg e];omega
  rw[Ye2,e1]at e2
  unfold opc at e2⊢
  omega
 omega
theorem YzM{A B:Type}{a:Option A}{f g:A->Option B}{y:B}(h:YAZ a f=some y)(k: ∀z,f z=some y->g z=some y):YAZ a g=some y:=by
 cases a with
 |none=>cases h
 |some z=>exact k z h
theorem YzN{A B:Type}{a a':Option A}{f g:A->Option B}{y:B}(h:YAZ a f=some y)(ha: ∀z,a=some z->a'=some z)(k: ∀z,f z=some y->g z=some y):YAZ a' g=some y:=by
 cases a with
 |none=>cases h
 |some z=>rw[ha z rfl];exact k z h
theorem chkm{B:Type}{p:Prop}[Decidable p]{a a':Option B}{y:B}(h:chk p a=some y)(k:a=some y->a'=some y):chk p a'=some y:=by
 by_cases hp:p
 ·rw[chkT _ hp]at*;exact k h
 ·simp[chk,hp]at h
theorem YzO{B:Type}{c:Bool}{a a' x x':Option B}{y:B}(h:(bif c then a else x)=some y)(k:a=some y->a'=some y)(k':x=some y->x'=some y):(bif c then a' else x')=some y:=by
 cases c with
 |true=>exact k h
 |false=>exact k' h
end Go.Abs.G39
namespace Go.Abs.G39
open Go Go.Abs
set_option maxRecDepth 100000
theorem wrap64(x:Int)(h: -9223372036854775808<=x)(h':x<9223372036854775808):IntKind.i64.wrap x=x:=wr6 h h'
def okW(x:Int):Bool:=decide (1<=x)&&decide (x<=1000000)
def asc(n:Int):Int->List Int->Bool
 |_,[]=>true
 |last,v::r=>decide (last<v)&&decide (v<n)&&asc n v r
def okE(n:Int)(l:List Int):Bool:=asc n (-1) l&& !l.isEmpty
def Yxu(w:List Int)(e:List (List Int)):Int:=
 if w.length>200\/e.length>2000 then 3 else if w.all okW&&e.all (okE w.length)then 0 else 1
theorem YgY(n:Int): ∀(l:List Int) (last:Int),asc n last l=true-> ∀v∈l,last<v/\v<n
 | [],_,_,v,h=>by cases h
 |x::r,last,h,v,hv=>by
  simp only[asc,YA7,decide_eq_true_eq]at h
  rcases YAi.1 hv with rfl|hv
  ·exact⟨h.1.1,h.1.2⟩
  ·have:=YgY n r x h.2 v hv
   exact⟨by omega,this.2⟩
theorem YgZ{w:List Int}{e:List (List Int)}(h:Yxu w e=0):(∀x∈w,1<=x/\x<=1000000)/\w.length<=200/\ ∀l∈e,okE w.length l=true:=by
 unfold Yxu at h
 split at h
 ·cases h
 ·rename_i h1
  split at h
  ·rename_i h2
   simp only[YA7,YAn]at h2
   refine⟨fun x hx=> ?_,by omega,h2.2⟩
   have:=h2.1 x hx
   simp only[okW,YA7,decide_eq_true_eq]at this
   omega
  ·cases h
theorem Ye4{n:Nat}{l:List Int}(h:okE n l=true):(∀v∈l,0<=v/\v.toNat<n)/\l≠ []:=by
 simp only[okE,YA7]at h
 refine⟨fun v hv=> ?_,fun e=>by subst e;simp at h⟩
 have:=YgY n l (-1) h.1 v hv
 omega
theorem Ynb{e:List (List Int)}{n:Nat}(h:n<e.length):e[n]?=some (e.getD n []):=by simp[h]
def meet(a b:List Int):Bool:=a.any fun v=>decide (v∈b)
def Yz4(mk l:List Int):Bool:= !hasM mk l 1&& !hasM mk l 0
abbrev Nd:Type:=Int×List (Int×Int)
def Yxe(e:List (List Int))(c:List Int):List (Int×Int)->Int->Option Int
 | [],s=>some s
 |y::r,s=>if y.1<0\/(e.length:Int)<=y.1\/y.2<1\/1000000000000<y.2\/meet (e.getD y.1.toNat []) c=true then none else Yxe e c r (IntKind.i64.wrap (s+y.2))
def Yya(e:List (List Int))(v:Int):List (Int×Int)->Int->Int
 | [],acc=>acc
 |y::r,acc=>Yya e v r (if v∈e.getD y.1.toNat []then IntKind.i64.wrap (acc+y.2)else acc)
def Yxf(w:List Int)(e:List (List Int))(x:List Int)(sh:List (Int×Int)):List Int->Nat->Bool
 | [],_=>true
 |u::r,v=>if u<Yya e v sh 0/\ ¬ (v:Int)∈x then false else Yxf w e x sh r (v+1)
def Yyj(w:List Int)(e:List (List Int))(c x:List Int)(bound:Int)(sh:List (Int×Int)):Bool:=
 if 10000<sh.length then false else match Yxe e c sh 0 with
  |none=>false
  |some t=>if Yxf w e x sh w 0=true then decide (bound<=t)else false
def addL(w mk:List Int)(am:Int):List Int->List Int->Option (List Int)
 | [],ld=>some ld
 |v::r,ld=>if mk.getD v.toNat 0=0/\w.getD v.toNat 0<IntKind.i64.wrap (ld.getD v.toNat 0+am)then none else addL w mk am r (ld.set v.toNat (IntKind.i64.wrap (ld.getD v.toNat 0+am)))
theorem Yg0(w mk:List Int)(am:Int): ∀(l ld ld':List Int),addL w mk am l ld=some ld'->ld'.length=ld.length
 | [],ld,ld',h=>by simp only[addL,Option.some.injEq]at h;rw[h]
 |v::r,ld,ld',h=>by
  simp only[addL]at h
  split at h
  ·cases h
  ·rw[Yg0 w mk am r _ _ h];simp
def shG(w:List Int)(e:List (List Int))(mk:List Int):List (Int×Int)->List Int->Int->Option Int
 | [],_,s=>some s
 |y::r,ld,s=>if y.1<0\/(e.length:Int)<=y.1\/y.2<1\/1000000000000<y.2\/hasM mk (e.getD y.1.toNat []) 1=true then none else
  match addL w mk y.2 (e.getD y.1.toNat []) ld with
  |some ld'=>shG w e mk r ld' (IntKind.i64.wrap (s+y.2))
  |none=>none
def YxD(w:List Int)(e:List (List Int))(mk:List Int)(sh:List (Int×Int))(bound:Int):Bool:=
 if 10000<sh.length then false else match shG w e mk sh (List.replicate mk.length 0) 0 with|some t=>decide (bound<=t)|none=>false
def YxO(e:List (List Int))(x:List Int):Bool:=e.any fun l=>l.all fun v=>decide (v∈x)
def YyT(w:List Int)(e:List (List Int))(c x:List Int)(b:Int)(s:List (Int×Int)):Bool:=
 if(s.length:Int)=0 then decide (b<=0)||YxO e x else Yyj w e c x b s
def YxE(w:List Int)(e:List (List Int)):Nat->List Int->List Int->Int->List Nd->Option Nat
 |0,_,_,_,_=>none
 |_+1,_,_,_,[]=>none
 |f+1,c,x,b,n::r=>
  if n.1= -1 then(if YyT w e c x b n.2=true then some 1 else none)
  else if(0:Int)<n.2.length\/n.1<0\/(w.length:Int)<=n.1\/n.1∈c\/n.1∈x then none
  else match YxE w e f (c++[n.1]) x (IntKind.i64.wrap (b-w.getD n.1.toNat 0)) r with
   |none=>none
   |some k=>match YxE w e f c (x++[n.1]) b (r.drop k)with
    |none=>none
    |some k'=>some (k+1+k')
def optI:Option Nat->Int
 |some k=>k
 |none=> -1
theorem YdR(w:List Int)(e:List (List Int)): ∀(f:Nat) (c x:List Int) (b:Int) (nd:List Nd) (k:Nat),YxE w e f c x b nd=some k->1<=k/\k<=nd.length
 |0,_,_,_,_,_,h=>by cases h
 |_+1,_,_,_,[],_,h=>by cases h
 |f+1,c,x,b,n::r,k,h=>by
  simp only[YxE]at h
  split at h
  ·split at h
   ·injection h with h;subst h;simp
   ·cases h
  ·split at h
   ·cases h
   ·split at h
    ·cases h
    ·rename_i k1 h1
     split at h
     ·cases h
     ·rename_i k2 h2
      injection h with h;subst h
      have a1:=YdR w e f _ _ _ _ _ h1
      have a2:=YdR w e f _ _ _ _ _ h2
      simp only[List.length_drop,YAl]at*
      omega
def Yyr(w:List Int)(e:List (List Int))(mk:List Int)(b:Int)(s:List (Int×Int)):Bool:=
 if(s.length:Int)=0 then decide (b<=0)||Yx9 mk e else YxD w e mk s b
def chkN(w:List Int)(e:List (List Int)):Nat->List Int->Int->List Nd->Option (List Nd)×Bool
 |0,_,_,_=>(none,false)
 |_+1,_,_,[]=>(none,false)
 |f+1,mk,b,n::r=>
  if n.1= -1 then(some r,Yyr w e mk b n.2)
  else if n.1<0\/(mk.length:Int)<=n.1\/(0:Int)<n.2.length\/mk.getD n.1.toNat 0≠0 then(none,false)
  else match chkN w e f (mk.set n.1.toNat 1) (IntKind.i64.wrap (b-w.getD n.1.toNat 0)) r with
   | (some r1,true)=>chkN w e f (mk.set n.1.toNat 2) b r1
   |q=>q
theorem Ye5(w:List Int)(e:List (List Int)): ∀(f:Nat) (mk:List Int) (b:Int) (nd l:List Nd) (ok:Bool),chkN w e f mk b nd=(some l,ok)-> ∃k,1<=k/\k<=nd.length/\l=nd.drop k
 |0,_,_,_,_,_,h=>by cases h
 |_+1,_,_,[],_,_,h=>by cases h
 |f+1,mk,b,n::r,l,ok,h=>by
  simp only[chkN]at h
  split at h
  ·injection h with h _;injection h with h;subst h;exact⟨1,by simp⟩
  ·split at h
   ·injection h with h _;cases h
   ·split at h
    ·rename_i r1 h1
     obtain⟨k1,a1,a2,a3⟩:=Ye5 w e f _ _ _ _ _ h1
     obtain⟨k2,b1,b2,b3⟩:=Ye5 w e f _ _ _ _ _ h
     subst a3
     simp only[List.length_drop]at b2
     refine⟨k1+k2+1,by omega,by simp only[YAl];omega,?_⟩
     rw[b3,List.drop_drop,List.drop_succ_cons]
    ·rename_i q hq
     obtain⟨k1,a1,a2,a3⟩:=Ye5 w e f _ _ _ _ _ h
     exact⟨k1+1,by omega,by simp only[YAl];omega,by rw[a3];rfl⟩
theorem Yg1(w:List Int)(e:List (List Int)): ∀(f:Nat) (mk:List Int) (b:Int) (nd:List Nd),(chkN w e f mk b nd).2=true-> ∃l,chkN w e f mk b nd=(some l,true)
 |0,_,_,_,h=>by cases h
 |_+1,_,_,[],h=>by cases h
 |f+1,mk,b,n::r,h=>by
  simp only[chkN]at h⊢
  split at h
  ·rename_i h1;rw[if_pos h1];exact⟨r,by simp only at h;rw[h]⟩
  ·rename_i h1
   rw[if_neg h1]
   split at h
   ·cases h
   ·rename_i h2
    rw[if_neg h2]
    split at h
    ·exact Yg1 w e f _ _ _ h
    ·rename_i q hq
     obtain⟨l,hl⟩:=Yg1 w e f _ _ _ h
     exact absurd hl (fun h'=>hq l h')
def inR(b:Int):Bool:=decide (-1000000000000000<=b)&&decide (b<=1000000000000000)
def Yyk(w:List Int)(e:List (List Int))(b:Int)(nd:List Nd):Bool:=
 if Yxu w e=0/\inR b=true then(chkN w e nd.length (List.replicate w.length 0) b nd).2&&decide ((((chkN w e nd.length (List.replicate w.length 0) b nd).1.getD []).length:Int)=0)else false
def YyQ(w:List Int)(e:List (List Int))(b:Int)(nd:List Nd):Bool:=
 if Yxu w e=0/\inR b=true/\ (0:Int)<nd.length then decide (optI (YxE w e nd.length [] [] b nd)=(nd.length:Int))else false
structure RelM(n:Nat)(mk c x:List Int):Prop where
 len:mk.length=n
 cho: ∀v:Int,v∈c↔0<=v/\v.toNat<n/\mk.getD v.toNat 0=1
 exc: ∀v:Int,v∈x↔0<=v/\v.toNat<n/\mk.getD v.toNat 0=2
 val: ∀v:Nat,mk.getD v 0=0\/mk.getD v 0=1\/mk.getD v 0=2
theorem Yb3(l:List Int)(i j:Nat)(x:Int):(l.set i x).getD j 0=if i=j/\i<l.length then x else l.getD j 0:=by
 rw[YAj,List.getElem?_set,YAj]
 by_cases h:i=j
 ·subst h
  by_cases h2:i<l.length
  ·simp[h2]
  ·have:l[i]?=none:=YAt (by omega)
   simp[h2]
 ·simp[h]
theorem Ywy(w mk:List Int)(am:Int)(ha:1<=am)(ha2:am<=1000000000000)(n:Nat)(C:Int)(hC:C<=9000000000000000000): ∀(l:List Int) (last:Int) (ld:List Int),asc n last l=true-> -1<=last->ld.length=n->(∀v∈l,0<=ld.getD v.toNat 0/\ld.getD v.toNat 0<=C)->
  (∃ld',addL w mk am l ld=some ld'/\ (∀v∈l,mk.getD v.toNat 0=0->ld.getD v.toNat 0+am<=w.getD v.toNat 0)/\ ∀v:Nat,ld'.getD v 0=ld.getD v 0+if(v:Int)∈l then am else 0)\/
  (addL w mk am l ld=none/\ ∃v∈l,mk.getD v.toNat 0=0/\w.getD v.toNat 0<ld.getD v.toNat 0+am):=by
 intro l
 induction l with
 |nil=>intro last ld _ _ _ _;exact .inl ⟨ld,rfl,fun v hv=>by simp at hv,fun v=>by simp⟩
 |cons v r ih=>
  intro last ld hasc hlast hlen hld
  simp only[asc,YA7,decide_eq_true_eq]at hasc
  obtain⟨⟨h1,h2⟩,h3⟩:=hasc
  have hlv:=hld v (YAq ..)
  have hw:IntKind.i64.wrap (ld.getD v.toNat 0+am)=ld.getD v.toNat 0+am:=wrap64 _ (by omega) (by omega)
  simp only[addL,hw]
  by_cases hc:mk.getD v.toNat 0=0/\w.getD v.toNat 0<ld.getD v.toNat 0+am
  ·rw[if_pos hc]
   exact .inr ⟨rfl,v,YAq ..,hc⟩
  ·rw[if_neg hc]
   have hnr: ∀u∈r,v<u:=fun u hu=>(YgY n r v h3 u hu).1
   have hg: ∀u:Nat,(ld.set v.toNat (ld.getD v.toNat 0+am)).getD u 0=if v.toNat=u then ld.getD u 0+am else ld.getD u 0:=fun u=>by
    rw[Yb3]
    by_cases hu:v.toNat=u
    ·subst hu;rw[if_pos ⟨rfl,by omega⟩,if_pos rfl]
    ·rw[if_neg (fun h=>hu h.1),if_neg hu]
   have hgr: ∀u∈r,(ld.set v.toNat (ld.getD v.toNat 0+am)).getD u.toNat 0=ld.getD u.toNat 0:=fun u hu=>by
    rw[hg,if_neg]
    have:=hnr u hu
    omega
   rcases ih v (ld.set v.toNat (ld.getD v.toNat 0+am)) h3 (by omega) (by simpa using hlen) (fun u hu=>by rw[hgr u hu];exact hld u (YAx _ hu))with⟨ld',k1,k2,k3⟩| ⟨k1,u,k2,k3,k4⟩
   ·refine .inl ⟨ld',k1,fun u hu hu0=> ?_,fun u=> ?_⟩
    ·rcases YAi.1 hu with rfl|hu
     ·have: ¬w.getD u.toNat 0<ld.getD u.toNat 0+am:=fun h=>hc ⟨hu0,h⟩
      omega
     ·have:=k2 u hu hu0
      rwa[hgr u hu]at this
    ·rw[k3,hg]
     by_cases hu:v.toNat=u
     ·subst hu
      have hnm: ¬ ((v.toNat:Nat):Int)∈r:=fun h=>by have:=hnr _ h;omega
      have hve:((v.toNat:Nat):Int)=v:=by omega
      rw[if_neg hnm,if_pos rfl,if_pos (by rw[hve];exact YAq ..)];omega
     ·have hne: ¬ (u:Int)=v:=by omega
      rw[if_neg hu]
      simp only[YAi,hne,false_or]
   ·refine .inr ⟨k1,u,YAx _ k2,k3,?_⟩
    rwa[hgr u k2]at k4
def Yxo(e:List (List Int))(v:Int):List (Int×Int)->Int
 | []=>0
 |y::r=>(if v∈e.getD y.1.toNat []then y.2 else 0)+Yxo e v r
def okS(e:List (List Int))(c:List Int)(y:Int×Int):Prop:=0<=y.1/\y.1.toNat<e.length/\1<=y.2/\y.2<=1000000000000/\meet (e.getD y.1.toNat []) c=false
theorem Ye6(e:List (List Int))(c:List Int): ∀(sh:List (Int×Int)) (s t:Int),Yxe e c sh s=some t-> ∀y∈sh,okS e c y
 | [],_,_,_,y,hy=>by cases hy
 |z::r,s,t,h,y,hy=>by
  simp only[Yxe]at h
  split at h
  ·cases h
  ·rename_i h1
   rcases YAi.1 hy with rfl|hy
   ·have hm:meet (e.getD y.1.toNat []) c=false:=by
     cases hmm:meet (e.getD y.1.toNat []) c with
     |false=>rfl
     |true=>exact absurd (.inr (.inr (.inr (.inr hmm)))) h1
    exact⟨by omega,by omega,by omega,by omega,hm⟩
   ·exact Ye6 e c r _ t h y hy
theorem Ync(e:List (List Int))(c:List Int)(v:Int): ∀sh:List (Int×Int),(∀y∈sh,okS e c y)->0<=Yxo e v sh/\Yxo e v sh<=sh.length*1000000000000
 | [],_=>by simp[Yxo]
 |y::r,h=>by
  have ih:=Ync e c v r (fun z hz=>h z (YAx _ hz))
  obtain⟨_,_,h1,h2,_⟩:=h y (YAq ..)
  simp only[Yxo,YAl]
  split<;>omega
theorem Ye7(e:List (List Int))(c:List Int)(v:Int): ∀(sh:List (Int×Int)) (acc:Int),(∀y∈sh,okS e c y)->0<=acc->acc+sh.length*1000000000000<=9000000000000000000->Yya e v sh acc=acc+Yxo e v sh
 | [],acc,_,_,_=>by simp[Yya,Yxo]
 |y::r,acc,h,h0,hb=>by
  obtain⟨_,_,h1,h2,_⟩:=h y (YAq ..)
  simp only[YAl]at hb
  have hw:IntKind.i64.wrap (acc+y.2)=acc+y.2:=wrap64 _ (by omega) (by omega)
  simp only[Yya,Yxo,hw]
  split
  ·rw[Ye7 e c v r _ (fun z hz=>h z (YAx _ hz)) (by omega) (by omega)];omega
  ·rw[Ye7 e c v r _ (fun z hz=>h z (YAx _ hz)) (by omega) (by omega)];omega
theorem Yg2{n:Nat}{mk c x l:List Int}(hr:RelM n mk c x)(hl: ∀v∈l,0<=v/\v.toNat<n):hasM mk l 1=meet l c:=by
 unfold hasM meet
 rw[YA9,YAE,YAE]
 constructor
 ·rintro⟨v,hv,h⟩
  exact⟨v,hv,by simp only[decide_eq_true_eq]at h⊢;exact(hr.cho v).2 ⟨(hl v hv).1,(hl v hv).2,h⟩⟩
 ·rintro⟨v,hv,h⟩
  exact⟨v,hv,by simp only[decide_eq_true_eq]at h⊢;exact((hr.cho v).1 h).2.2⟩
theorem Ynd{w:List Int}{e:List (List Int)}{mk c x:List Int}(hr:RelM w.length mk c x)(hv: ∀l∈e,okE w.length l=true): ∀(sh:List (Int×Int)) (ld:List Int) (s:Int),Yxe e c sh s=none->shG w e mk sh ld s=none
 | [],_,_,h=>by simp[Yxe]at h
 |y::r,ld,s,h=>by
  simp only[Yxe]at h
  simp only[shG]
  by_cases hc:y.1<0\/(e.length:Int)<=y.1\/y.2<1\/1000000000000<y.2
  ·rw[if_pos (by rcases hc with h|h|h|h<;>simp[h])]
  ·have hi:y.1.toNat<e.length:=by omega
   have hm:=Yg2 hr (Ye4 (hv _ (YAb (Ynb hi)))).1
   rw[hm]
   split at h
   ·rename_i h1
    rw[if_pos h1]
   ·rename_i h1
    rw[if_neg h1]
    split
    ·exact Ynd hr hv r _ _ h
    ·rfl
theorem Yg3{w:List Int}{e:List (List Int)}{mk c x:List Int}(hr:RelM w.length mk c x)(hv: ∀l∈e,okE w.length l=true): ∀(sh:List (Int×Int)) (ld:List Int) (s t C:Int),Yxe e c sh s=some t->ld.length=w.length->
  (∀v:Nat,0<=ld.getD v 0/\ld.getD v 0<=C)->C+sh.length*1000000000000<=9000000000000000000->(∀v:Nat,v<w.length->mk.getD v 0=0->ld.getD v 0<=w.getD v 0)->
  ((∀v:Nat,v<w.length->mk.getD v 0=0->ld.getD v 0+Yxo e v sh<=w.getD v 0)->shG w e mk sh ld s=some t)/\
  (¬ (∀v:Nat,v<w.length->mk.getD v 0=0->ld.getD v 0+Yxo e v sh<=w.getD v 0)->shG w e mk sh ld s=none)
 | [],ld,s,t,C,h,_,_,_,hle=>by
   simp only[Yxe]at h
   refine⟨fun _=>h,fun hn=>absurd (fun v hv0 hv1=> ?_) hn⟩
   have:=hle v hv0 hv1
   simp only[Yxo];omega
 |y::r,ld,s,t,C,h,hlen,hld,hC,hle=>by
  have hok:=Ye6 e c (y::r) s t h
  obtain⟨h1,h2,h3,h4,h5⟩:=hok y (YAq ..)
  have hoe:=hv _ (YAb (Ynb h2))
  have hm:=Yg2 hr (Ye4 hoe).1
  have hasc:asc w.length (-1) (e.getD y.1.toNat [])=true:=by simp only[okE,YA7]at hoe;exact hoe.1
  simp only[YAl]at hC
  have hnc: ¬ (y.1<0\/(e.length:Int)<=y.1\/y.2<1\/1000000000000<y.2\/meet (e.getD y.1.toNat []) c=true):=by
   rw[h5]
   rintro(k|k|k|k|k)
   ·omega
   ·omega
   ·omega
   ·omega
   ·cases k
  simp only[Yxe]at h
  rw[if_neg hnc]at h
  have hlp:=fun v=>Ync e c v r (fun z hz=>hok z (YAx _ hz))
  simp only[shG]
  rw[hm,if_neg hnc]
  rcases Ywy w mk y.2 h3 h4 w.length C (by omega) (e.getD y.1.toNat []) (-1) ld hasc (by omega) hlen (fun v _=>hld v.toNat)with⟨ld',k1,k2,k3⟩| ⟨k1,u,k2,k3,k4⟩
  ·rw[k1]
   have hb: ∀v:Nat,0<=ld'.getD v 0/\ld'.getD v 0<=C+1000000000000:=fun v=>by
    have:=hld v
    rw[k3]
    split<;>omega
   have ih:=Yg3 hr hv r ld' (IntKind.i64.wrap (s+y.2)) t (C+1000000000000) h (by rw[Yg0 _ _ _ _ _ _ k1];exact hlen) hb (by omega) (fun v hv0 hv1=>by
    rw[k3]
    by_cases hvm:(v:Int)∈e.getD y.1.toNat []
    ·rw[if_pos hvm];have:=k2 v hvm (by simpa using hv1);simpa using this
    ·rw[if_neg hvm];have:=hle v hv0 hv1;omega)
   have heq: ∀v:Nat,ld'.getD v 0+Yxo e v r=ld.getD v 0+Yxo e v (y::r):=fun v=>by rw[k3];simp only[Yxo];omega
   simp only[heq]at ih
   exact ih
  ·rw[k1]
   have huv:=(Ye4 hoe).1 u k2
   have hn: ¬ (∀v:Nat,v<w.length->mk.getD v 0=0->ld.getD v 0+Yxo e v (y::r)<=w.getD v 0):=fun hall=>by
    have:=hall u.toNat huv.2 k3
    have hl:=(hlp (u.toNat:Int)).1
    have hue:((u.toNat:Nat):Int)=u:=by omega
    simp only[Yxo]at this
    rw[hue,if_pos k2]at this
    rw[hue]at hl
    omega
   exact⟨fun hall=>absurd hall hn,fun _=>rfl⟩
theorem Yne(w:List Int)(e:List (List Int))(x:List Int)(sh:List (Int×Int)): ∀(r:List Int) (v:Nat),Yxf w e x sh r v=true↔ ∀k u,r[k]?=some u-> ¬ (u<Yya e ((v+k:Nat):Int) sh 0/\ ¬ ((v+k:Nat):Int)∈x)
 | [],v=>by simp[Yxf]
 |u::r,v=>by
  have ih:=Yne w e x sh r (v+1)
  simp only[Yxf]
  by_cases hc:u<Yya e v sh 0/\ ¬ (v:Int)∈x
  ·rw[if_pos hc]
   constructor
   ·intro h;cases h
   ·intro h;exact absurd hc (h 0 u rfl)
  ·rw[if_neg hc,ih]
   constructor
   ·intro h k y hy
    cases k with
    |zero=>simp only[List.getElem?_cons_zero,Option.some.injEq]at hy;subst hy;exact hc
    |succ k=>
     rw[List.getElem?_cons_succ]at hy
     have:=h k y hy
     rwa[show v+1+k=v+(k+1) by omega]at this
   ·intro h k y hy
    have:=h (k+1) y (by rw[List.getElem?_cons_succ];exact hy)
    rwa[show v+(k+1)=v+1+k by omega]at this
theorem Ynf(e:List (List Int))(c:List Int)(v:Int)(hv:v∈c): ∀sh:List (Int×Int),(∀y∈sh,okS e c y)->Yxo e v sh=0
 | [],_=>rfl
 |y::r,h=>by
  obtain⟨_,_,_,_,h5⟩:=h y (YAq ..)
  have hn: ¬v∈e.getD y.1.toNat []:=fun hm=>by
   have:meet (e.getD y.1.toNat []) c=true:=YAE.2 ⟨v,hm,by simpa using hv⟩
   rw[this]at h5;cases h5
  simp only[Yxo,if_neg hn,Ynf e c v hv r (fun z hz=>h z (YAx _ hz))]
  rfl
theorem Ywz{w:List Int}{e:List (List Int)}{mk c x:List Int}(hval:Yxu w e=0)(hr:RelM w.length mk c x)(sh:List (Int×Int))(b:Int):YxD w e mk sh b=Yyj w e c x b sh:=by
 obtain⟨hw1,_,hv⟩:=YgZ hval
 unfold YxD Yyj
 by_cases h1:10000<sh.length
 ·rw[if_pos h1,if_pos h1]
 ·rw[if_neg h1,if_neg h1]
  cases h2:Yxe e c sh 0 with
  |none=>rw[Ynd hr hv sh _ 0 h2]
  |some t=>
   have hok:=Ye6 e c sh 0 t h2
   have hz: ∀v:Nat,(List.replicate mk.length (0:Int)).getD v 0=0:=fun v=>by
    rw[YAj,YAF];split<;>rfl
   have hwp: ∀v:Nat,v<w.length->1<=w.getD v 0:=fun v h=>by
    rw[YAj,YAa h];exact(hw1 _ (List.getElem_mem h)).1
   have key:=Yg3 hr hv sh (List.replicate mk.length 0) 0 t 0 h2 (by simp[hr.len]) (fun v=>by rw[hz];omega) (by omega) (fun v h _=>by rw[hz];have:=hwp v h;omega)
   simp only[hz,Int.zero_add]at key
   have hV:Yxf w e x sh w 0=true↔ ∀v:Nat,v<w.length->mk.getD v 0=0->Yxo e v sh<=w.getD v 0:=by
    rw[Yne]
    constructor
    ·intro h v hv0 hv1
     have:=h v (w.getD v 0) (by rw[YAj,YAa hv0];rfl)
     rw[YAS,Ye7 e c v sh 0 hok (by omega) (by omega),Int.zero_add]at this
     have hnx: ¬ (v:Int)∈x:=fun hx=>by
      have:=((hr.exc v).1 hx).2.2
      simp only[YBb]at this
      omega
     have h3: ¬w.getD v 0<Yxo e v sh:=fun h=>this ⟨h,hnx⟩
     omega
    ·intro h k u hu hc
     rw[YAS,Ye7 e c k sh 0 hok (by omega) (by omega),Int.zero_add]at hc
     have hk:k<w.length:=(Yz9.1 hu).1
     have hu2:w.getD k 0=u:=by rw[YAj,hu];rfl
     rcases hr.val k with h0|h0|h0
     ·have:=h k hk h0
      omega
     ·have hm:(k:Int)∈c:=(hr.cho k).2 ⟨by omega,by simpa using hk,by simpa using h0⟩
      rw[Ynf e c k hm sh hok]at hc
      have:=hwp k hk
      omega
     ·exact hc.2 ((hr.exc k).2 ⟨by omega,by simpa using hk,by simpa using h0⟩)
   by_cases h3:Yxf w e x sh w 0=true
   ·rw[key.1 (hV.1 h3)]
    simp only[h3,if_true]
   ·rw[key.2 (fun h=>h3 (hV.2 h))]
    simp only[h3]
    rfl
theorem YwA{n:Nat}{mk c x:List Int}(hr:RelM n mk c x){e:List (List Int)}(hv: ∀l∈e,okE n l=true):Yx9 mk e=YxO e x:=by
 unfold Yx9 YxO
 rw[YA9,YAE,YAE]
 have key: ∀l∈e,Yz4 mk l=(l.all fun v=>decide (v∈x)):=fun l hl=>by
  have ho:=(Ye4 (hv l hl)).1
  rw[YA9,YAn]
  simp only[Yz4,hasM,YA7,Bool.not_eq_true',List.any_eq_false,decide_eq_true_eq]
  constructor
  ·rintro⟨h1,h2⟩ v hv
   have:=ho v hv
   refine(hr.exc v).2 ⟨this.1,this.2,?_⟩
   have a:=h1 v hv
   have b:=h2 v hv
   rcases hr.val v.toNat with h|h|h
   ·exact absurd h b
   ·exact absurd h a
   ·exact h
  ·intro h
   refine⟨fun v hv=> ?_,fun v hv=> ?_⟩
   ·have:=((hr.exc v).1 (h v hv)).2.2;omega
   ·have:=((hr.exc v).1 (h v hv)).2.2;omega
 constructor
 ·rintro⟨l,hl,h⟩;exact⟨l,hl,(key l hl).symm.trans h⟩
 ·rintro⟨l,hl,h⟩;exact⟨l,hl,(key l hl).trans h⟩
theorem YwB{w:List Int}{e:List (List Int)}{mk c x:List Int}(hval:Yxu w e=0)(hr:RelM w.length mk c x)(b:Int)(s:List (Int×Int)):Yyr w e mk b s=YyT w e c x b s:=by
 unfold Yyr YyT
 rw[YwA hr (YgZ hval).2.2,Ywz hval hr s b]
theorem YwC{n:Nat}{mk c x:List Int}(hr:RelM n mk c x){v:Int}(h0:0<=v)(hn:v.toNat<n)(hz:mk.getD v.toNat 0=0):RelM n (mk.set v.toNat 1) (c++[v]) x:=by
 have hl:=hr.len
 refine⟨by simpa using hr.len,fun u=> ?_,fun u=> ?_,fun u=> ?_⟩
 ·rw[YAD,YAB,hr.cho u,Yb3]
  constructor
  ·rintro(⟨a,b,d⟩|rfl)
   ·refine⟨a,b,?_⟩
    rw[if_neg (fun h=> ?_)]
    ·exact d
    ·rw[<-h.1,hz]at d;omega
   ·exact⟨h0,hn,if_pos ⟨rfl,by omega⟩⟩
  ·rintro⟨a,b,d⟩
   by_cases hc:v.toNat=u.toNat/\v.toNat<mk.length
   ·exact .inr (by omega)
   ·rw[if_neg hc]at d;exact .inl ⟨a,b,d⟩
 ·rw[hr.exc u,Yb3]
  constructor
  ·rintro⟨a,b,d⟩
   refine⟨a,b,?_⟩
   rw[if_neg (fun h=> ?_)]
   ·exact d
   ·rw[<-h.1,hz]at d;omega
  ·rintro⟨a,b,d⟩
   by_cases hc:v.toNat=u.toNat/\v.toNat<mk.length
   ·rw[if_pos hc]at d;omega
   ·rw[if_neg hc]at d;exact⟨a,b,d⟩
 ·rw[Yb3]
  split
  ·exact .inr (.inl rfl)
  ·exact hr.val u
theorem YwD{n:Nat}{mk c x:List Int}(hr:RelM n mk c x){v:Int}(h0:0<=v)(hn:v.toNat<n)(hz:mk.getD v.toNat 0=0):RelM n (mk.set v.toNat 2) c (x++[v]):=by
 have hl:=hr.len
 refine⟨by simpa using hr.len,fun u=> ?_,fun u=> ?_,fun u=> ?_⟩
 ·rw[hr.cho u,Yb3]
  constructor
  ·rintro⟨a,b,d⟩
   refine⟨a,b,?_⟩
   rw[if_neg (fun h=> ?_)]
   ·exact d
   ·rw[<-h.1,hz]at d;omega
  ·rintro⟨a,b,d⟩
   by_cases hc:v.toNat=u.toNat/\v.toNat<mk.length
   ·rw[if_pos hc]at d;omega
   ·rw[if_neg hc]at d;exact⟨a,b,d⟩
 ·rw[YAD,YAB,hr.exc u,Yb3]
  constructor
  ·rintro(⟨a,b,d⟩|rfl)
   ·refine⟨a,b,?_⟩
    rw[if_neg (fun h=> ?_)]
    ·exact d
    ·rw[<-h.1,hz]at d;omega
   ·exact⟨h0,hn,if_pos ⟨rfl,by omega⟩⟩
  ·rintro⟨a,b,d⟩
   by_cases hc:v.toNat=u.toNat/\v.toNat<mk.length
   ·exact .inr (by omega)
   ·rw[if_neg hc]at d;exact .inl ⟨a,b,d⟩
 ·rw[Yb3]
  split
  ·exact .inr (.inr rfl)
  ·exact hr.val u
theorem Yg4{w:List Int}{e:List (List Int)}(hval:Yxu w e=0): ∀(f:Nat) (mk c x:List Int) (b:Int) (nd:List Nd),RelM w.length mk c x->
  (∀k,YxE w e f c x b nd=some k->chkN w e f mk b nd=(some (nd.drop k),true))/\ (YxE w e f c x b nd=none->(chkN w e f mk b nd).2=false)
 |0,mk,c,x,b,nd,hr=>⟨fun k h=>(by cases h),fun _=>rfl⟩
 |f+1,mk,c,x,b,[],hr=>⟨fun k h=>(by cases h),fun _=>rfl⟩
 |f+1,mk,c,x,b,n::r,hr=>by
  simp only[YxE,chkN]
  by_cases c1:n.1= -1
  ·rw[if_pos c1,if_pos c1,YwB hval hr]
   by_cases c2:YyT w e c x b n.2=true
   ·rw[if_pos c2,c2]
    exact⟨fun k h=>(by injection h with h;subst h;rfl),fun h=>(by cases h)⟩
   ·rw[if_neg c2]
    exact⟨fun k h=>(by cases h),fun _=>by simpa using c2⟩
  ·rw[if_neg c1,if_neg c1]
   have hiff:(n.1<0\/(mk.length:Int)<=n.1\/(0:Int)<n.2.length\/mk.getD n.1.toNat 0≠0)↔ ((0:Int)<n.2.length\/n.1<0\/(w.length:Int)<=n.1\/n.1∈c\/n.1∈x):=by
    rw[hr.len,hr.cho,hr.exc]
    constructor
    ·rintro(h|h|h|h)
     ·exact .inr (.inl h)
     ·exact .inr (.inr (.inl h))
     ·exact .inl h
     ·by_cases h1:n.1<0
      ·exact .inr (.inl h1)
      ·by_cases h2:(w.length:Int)<=n.1
       ·exact .inr (.inr (.inl h2))
       ·rcases hr.val n.1.toNat with h3|h3|h3
        ·exact absurd h3 h
        ·exact .inr (.inr (.inr (.inl ⟨by omega,by omega,h3⟩)))
        ·exact .inr (.inr (.inr (.inr ⟨by omega,by omega,h3⟩)))
    ·rintro(h|h|h|h|h)
     ·exact .inr (.inr (.inl h))
     ·exact .inl h
     ·exact .inr (.inl h)
     ·exact .inr (.inr (.inr (by omega)))
     ·exact .inr (.inr (.inr (by omega)))
   by_cases c2:(0:Int)<n.2.length\/n.1<0\/(w.length:Int)<=n.1\/n.1∈c\/n.1∈x
   ·rw[if_pos c2,if_pos (hiff.2 c2)]
    exact⟨fun k h=>(by cases h),fun _=>rfl⟩
   ·rw[if_neg c2,if_neg (fun h=>c2 (hiff.1 h))]
    have h0:0<=n.1:=by
     have: ¬n.1<0:=fun h=>c2 (.inr (.inl h))
     omega
    have hn:n.1.toNat<w.length:=by
     have: ¬ (w.length:Int)<=n.1:=fun h=>c2 (.inr (.inr (.inl h)))
     omega
    have hz:mk.getD n.1.toNat 0=0:=by
     apply Classical.byContradiction
     intro h
     exact c2 (hiff.1 (.inr (.inr (.inr h))))
    have i1:=Yg4 hval f (mk.set n.1.toNat 1) (c++[n.1]) x (IntKind.i64.wrap (b-w.getD n.1.toNat 0)) r (YwC hr h0 hn hz)
    cases h1:YxE w e f (c++[n.1]) x (IntKind.i64.wrap (b-w.getD n.1.toNat 0)) r with
    |none=>
     have:=i1.2 h1
     refine⟨fun k h=>(by cases h),fun _=> ?_⟩
     cases hq:chkN w e f (mk.set n.1.toNat 1) (IntKind.i64.wrap (b-w.getD n.1.toNat 0)) r with
     |mk o ok=>
      rw[hq]at this
      simp only at this
      subst this
      cases o<;>rfl
    |some k1=>
     rw[i1.1 k1 h1]
     simp only
     have i2:=Yg4 hval f (mk.set n.1.toNat 2) c (x++[n.1]) b (r.drop k1) (YwD hr h0 hn hz)
     cases h2:YxE w e f c (x++[n.1]) b (r.drop k1)with
     |none=>exact⟨fun k h=>(by cases h),fun _=>i2.2 h2⟩
     |some k2=>
      refine⟨fun k h=> ?_,fun h=>by cases h⟩
      injection h with h
      rw[i2.1 k2 h2,List.drop_drop,<-h,show k1+1+k2=(k1+k2)+1 by omega,List.drop_succ_cons]
theorem YwE(n:Nat):RelM n (List.replicate n 0) [] []:=by
 have hz: ∀v:Nat,(List.replicate n (0:Int)).getD v 0=0:=fun v=>by
  rw[YAj,YAF];split<;>rfl
 refine⟨by simp,fun v=> ?_,fun v=> ?_,fun v=>.inl (hz v)⟩
 ·rw[hz];simp
 ·rw[hz];simp
theorem YwF(w:List Int)(e:List (List Int))(b:Int)(nd:List Nd):Yyk w e b nd=YyQ w e b nd:=by
 unfold Yyk YyQ
 by_cases c1:Yxu w e=0/\inR b=true
 ·rw[if_pos c1]
  have h:=Yg4 c1.1 nd.length (List.replicate w.length 0) [] [] b nd (YwE _)
  by_cases c2:(0:Int)<nd.length
  ·rw[if_pos ⟨c1.1,c1.2,c2⟩]
   cases hp:YxE w e nd.length [] [] b nd with
   |none=>
    rw[h.2 hp,Bool.false_and]
    symm
    refine decide_eq_false ?_
    show¬ (-1:Int)=(nd.length:Int)
    omega
   |some k=>
    have hk:=YdR w e _ _ _ _ _ _ hp
    rw[h.1 k hp,Bool.true_and]
    have h1:(((some (nd.drop k)).getD []:List Nd).length:Int)=((nd.length-k:Nat):Int):=by rw[YA4,List.length_drop]
    rw[YA9,decide_eq_true_iff,decide_eq_true_iff]
    show(((some (nd.drop k)).getD []:List Nd).length:Int)=0↔ (k:Int)=(nd.length:Int)
    omega
  ·rw[if_neg (fun h=>c2 h.2.2)]
   have:nd=[]:=YAk.1 (by omega)
   subst this
   rfl
 ·rw[if_neg c1,if_neg (fun h=>c1 ⟨h.1,h.2.1⟩)]
end Go.Abs.G39
namespace Go.Abs.G39
open Go Go.Abs
set_option maxRecDepth 100000
theorem Yzb{α:Type}(l:List α)(d:α)(k:Nat)(h:k<l.length):l.drop k=l.getD k d::l.drop (k+1):=by
 rw[List.drop_eq_getElem_cons h,YAj,YAa h];rfl
theorem sh5(w:List Int)(es:List (List Int))(lf:Int)(m e:List Int)(hv:Vts m.length e)(hw:w.length=m.length)(b s:Int)(l:List (Int×Int))(p q x a:Int): ∀(j k:Nat) (ld:List Int),k+j=e.length->ld.length=m.length->
  YbX loO (b,s,l,p,q,e,(e.length:Int),(k:Int),w,es,lf,m,ld,x,a)=some (match addL w m a (e.drop k) ld with|none=>.inl (false,w,es,lf,m)|some ld'=>.inr (b,s,l,p,q,w,es,lf,m,ld'))
 |0,k,ld,hk,hl=>by
  rw[YAM (by omega)]
  simp only[YbX,runO]
  rw[Yaf]
  simp only[Ycy,addL]
  rw[cF _ _ (by omega)]
 |j+1,k,ld,hk,hl=>by
  have hel:=hv.1
  have e1:YBh .i64 ((k:Int)+1)=((k+1:Nat):Int):=by rw[wr6 (by omega) (by omega)];omega
  have hi:=hv.2 _ (gmem e 0 k (by omega))
  rw[Yzb e 0 k (by omega)]
  have hsl: ∀z,(ld.set (e.getD k 0).toNat z).length=m.length:=fun z=>by rw[YAm];exact hl
  by_cases h0:m.getD (e.getD k 0).toNat 0=0
  ·by_cases h1:w.getD (e.getD k 0).toNat 0<IntKind.i64.wrap (ld.getD (e.getD k 0).toNat 0+a)
   ·simp only[addL]
    rw[if_pos ⟨h0,h1⟩]
    simp only[YbX,runO]
    rw[Yaf]
    simp only[Ycy,YBb,h0,decide_true,cond_true]
    rw[cT _ _ (by omega),chkT _ (by omega),chkT _ (by omega),chkT _ (by omega),chkT _ (by omega),chkT _ (by rw[hsl];omega),chkT _ (by omega),cT _ _ (by rw[Ya0 _ _ _ _ (by omega),if_pos rfl];exact h1)]
   ·have ih:=sh5 w es lf m e hv hw b s l p q x a j (k+1) (ld.set (e.getD k 0).toNat (IntKind.i64.wrap (ld.getD (e.getD k 0).toNat 0+a))) (by omega) (hsl _)
    simp only[addL]
    rw[if_neg (fun h=>h1 h.2),<-ih]
    simp only[YbX,runO]
    rw[Yaf]
    simp only[Ycy,YBb,h0,decide_true,cond_true,e1]
    rw[cT _ _ (by omega),chkT _ (by omega),chkT _ (by omega),chkT _ (by omega),chkT _ (by omega),chkT _ (by rw[hsl];omega),chkT _ (by omega),cF _ _ (by rw[Ya0 _ _ _ _ (by omega),if_pos rfl];exact h1)]
  ·have ih:=sh5 w es lf m e hv hw b s l p q x a j (k+1) (ld.set (e.getD k 0).toNat (IntKind.i64.wrap (ld.getD (e.getD k 0).toNat 0+a))) (by omega) (hsl _)
   simp only[addL]
   rw[if_neg (fun h=>h0 h.1),<-ih]
   simp only[YbX,runO]
   rw[Yaf]
   simp only[Ycy,YBb,h0,decide_false,cond_false,e1]
   rw[cT _ _ (by omega),chkT _ (by omega),chkT _ (by omega),chkT _ (by omega),chkT _ (by omega)]
theorem sh3{w:List Int}{es:List (List Int)}(h8:In8 w es)(lf:Int){m:List Int}(hm:m.length=w.length)(b:Int)(l:List (Int×Int))(hl:l.length<=10000): ∀(j i:Nat) (ld:List Int) (s:Int),i+j=l.length->ld.length=m.length->
  Yds loO (b,s,l,(l.length:Int),(i:Int),w,es,lf,m,ld)=some (match shG w es m (l.drop i) ld s with|none=>.inl (false,w,es,lf,m)|some t=>.inr (b,t,w,es,lf,m))
 |0,i,ld,s,hi,hld=>by
  rw[YAM (by omega)]
  simp only[Yds,runO]
  rw[Yaf]
  simp only[Ydr,shG]
  rw[cF _ _ (by omega)]
 |j+1,i,ld,s,hi,hld=>by
  have e1:YBh .i64 ((i:Int)+1)=((i+1:Nat):Int):=by rw[wr6 (by omega) (by omega)];omega
  rw[Yzb l (0,0) i (by omega)]
  generalize hy:l.getD i (0,0)=y
  simp only[shG]
  have hst:Yds loO (b,s,l,(l.length:Int),(i:Int),w,es,lf,m,ld)=Yw7 (Ydr loO) (b,s,l,(l.length:Int),(i:Int),w,es,lf,m,ld):=rfl
  rw[hst,Yaf]
  simp only[Ydr,YBb,hy]
  rw[cT _ _ (by omega),chkT _ (by omega)]
  by_cases c1:y.1<0
  ·rw[cT _ _ c1,if_pos (.inl c1)]
  rw[cF _ _ c1]
  by_cases c2:(es.length:Int)<=y.1
  ·rw[cT _ _ c2,if_pos (.inr (.inl c2))]
  rw[cF _ _ c2]
  by_cases c3:y.2<1
  ·rw[cT _ _ c3,if_pos (.inr (.inr (.inl c3)))]
  rw[cF _ _ c3]
  by_cases c4:(1000000000000:Int)<y.2
  ·rw[cT _ _ c4,if_pos (.inr (.inr (.inr (.inl c4))))]
  rw[cF _ _ c4,chkT _ (by omega)]
  have hvt:Vts m.length (es.getD y.1.toNat []):=hm▸h8.vts (gmem es [] _ (by omega))
  simp only[YcD w es lf m _ 1 hvt,YwU]
  rw[chkT _ trivial]
  cases c5:hasM m (es.getD y.1.toNat []) 1 with
  |true=>simp only[cond_true];rw[if_pos (.inr (.inr (.inr (.inr trivial))))]
  |false=>
   simp only[cond_false]
   rw[if_neg (by rintro(h|h|h|h|h)<;>first|exact absurd h ‹_› |cases h),chkT _ (by omega)]
   have h5:=sh5 w es lf m _ hvt hm.symm b (YBh .i64 (s+y.2)) l (l.length:Int) (i:Int) y.1 y.2 _ 0 ld (YAS _) hld
   rw[YAJ]at h5
   have h5':=h5
   simp only[Int.ofNat_zero,Int.natCast_zero]at h5'
   rw[show((0:Nat):Int)=0 from rfl]at h5
   rw[h5]
   cases c6:addL w m y.2 (es.getD y.1.toNat []) ld with
   |none=>rfl
   |some ld'=>
    have ih:=sh3 h8 lf hm b l hl j (i+1) ld' (IntKind.i64.wrap (s+y.2)) (by omega) (by rw[Yg0 _ _ _ _ _ _ c6,hld])
    simp only[YwU,YaU,e1]
    exact ih
theorem YwG{w:List Int}{es:List (List Int)}(h8:In8 w es)(lf:Int){m:List Int}(hm:m.length=w.length)(b:Int)(l:List (Int×Int)):
  q50 loO l b w es lf m=some (YxD w es m l b,w,es,lf,m):=by
 have hwl:=h8.wl
 have hmx:maxEl>=100000:=by decide
 simp only[q50,YxD]
 by_cases c:10000<l.length
 ·rw[cT _ _ (by omega),if_pos c]
 ·rw[cF _ _ (by omega),if_neg c,chkT _ (by omega)]
  have h3:=sh3 h8 lf hm b l (by omega) l.length 0 (List.replicate m.length 0) 0 (by omega) (by simp)
  rw[YAJ,show((0:Nat):Int)=0 from rfl]at h3
  simp only[YBb,h3,YwU]
  cases shG w es m l (List.replicate m.length 0) 0<;>rfl
theorem back{m:List Int}{v:Nat}{a b:Int}(hv:v<m.length)(h0:m.getD v 0=0):((m.set v a).set v b).set v 0=m/\ (m.set v a).set v 0=m:=by
 have:m.set v 0=m:=by
  apply YAA
  intro k
  rw[List.getElem?_set]
  by_cases e:v=k
  ·subst e
   rw[YAj,YAa hv]at h0
   simp at h0
   rw[if_pos rfl,if_pos hv,YAa hv,h0]
  ·rw[if_neg e]
 exact⟨by rw[List.set_set,List.set_set,this],by rw[List.set_set,this]⟩
theorem Yg5{w:List Int}{es:List (List Int)}(h8:In8 w es)(lf:Int): ∀(f:Nat) (m:List Int) (b:Int) (nd:List Nd),nd.length<=f->m.length=w.length->
  Ybi loO (f+1) (nd,b,w,es,lf,m)=some ((chkN w es f m b nd).1.getD [],(chkN w es f m b nd).2,w,es,lf,m)
 |f,m,b,[],hn,hm=>by
  cases f<;>rfl
 |0,m,b,n::r,hn,hm=>absurd hn (by simp)
 |f+1,m,b,n::r,hn,hm=>by
  have hwl:=h8.wl
  have hel:=h8.el
  have hvt: ∀e∈es,Vts m.length e:=fun e he=>by rw[hm];exact h8.vts he
  rw[YAl]at hn
  have ht:((n::r).take (((n::r).length:Nat):Int).toNat).drop 1=r:=by rw[YBb,YAv];rfl
  have hg:(n::r).getD 0 ((0:Int),([]:List (Int×Int)))=n:=rfl
  have hlen:((n::r).length:Int)=(r.length:Int)+1:=by rw[YAl];omega
  show Ycz loO (Ybi loO (f+1)) (n::r) b w es lf m=_
  simp only[Ycz,hg,ht]
  rw[cF _ _ (by omega),chkT _ (by omega),chkT _ (by omega)]
  simp only[chkN]
  by_cases c1:n.1= -1
  ·rw[cT _ _ c1,if_pos c1]
   by_cases c2:(n.2.length:Int)=0
   ·rw[cT _ _ c2]
    simp only[Yyr,if_pos c2]
    by_cases c3:b<=0
    ·rw[cT _ _ c3];simp[c3]
    ·rw[cF _ _ c3]
     simp only[Ye1 w es lf m hel hvt,YwU]
     rw[chkT _ trivial];simp[c3]
   ·rw[cF _ _ c2,cT _ _ c1]
    simp only[YwG h8 lf hm b n.2,YwU,Yyr,if_neg c2]
    rw[chkT _ trivial];rfl
  ·rw[cF _ _ c1,if_neg c1,cF _ _ c1]
   by_cases c2:n.1<0
   ·rw[cT _ _ c2,if_pos (.inl c2)];rfl
   rw[cF _ _ c2]
   by_cases c3:(m.length:Int)<=n.1
   ·rw[cT _ _ c3,if_pos (.inr (.inl c3))];rfl
   rw[cF _ _ c3]
   by_cases c4:(0:Int)<n.2.length
   ·rw[cT _ _ c4,if_pos (.inr (.inr (.inl c4)))];rfl
   rw[cF _ _ c4,chkT _ (by omega)]
   by_cases c5:m.getD n.1.toNat 0=0
   ·have hx: ¬ (n.1<0\/(m.length:Int)<=n.1\/(0:Int)<n.2.length\/m.getD n.1.toNat 0≠0):=by
     rintro(h|h|h|h)
     ·exact c2 h
     ·exact c3 h
     ·exact c4 h
     ·exact h c5
    rw[if_neg hx]
    have hb:=back (m:=m) (v:=n.1.toNat) (a:=1) (b:=2) (by omega) c5
    have r1:=Yg5 h8 lf f (m.set n.1.toNat 1) (YBh .i64 (b-w.getD n.1.toNat 0)) r (by omega) (by rw[YAm];exact hm)
    simp only[c5,decide_true,YA8,cond_false,r1,YwU]
    rw[chkT _ (by omega),chkT _ (by omega),chkT _ trivial]
    cases c6:chkN w es f (m.set n.1.toNat 1) (YBh .i64 (b-w.getD n.1.toNat 0)) r with
    |mk o k=>
     cases k with
     |false=>
      simp only[cond_false]
      rw[chkT _ (by rw[YAm];omega),hb.2]
      try(cases o<;>rfl)
     |true=>
      obtain⟨l,hl⟩:=Yg1 w es f _ _ r (by rw[c6])
      rw[c6]at hl
      obtain⟨rfl,-⟩:=Prod.mk.inj hl
      obtain⟨k,k1,k2,k3⟩:=Ye5 w es f _ _ r l true c6
      have r2:=Yg5 h8 lf f (m.set n.1.toNat 2) b l (by rw[k3,List.length_drop];omega) (by rw[YAm];exact hm)
      have hs0:(m.set n.1.toNat 1).set n.1.toNat 2=m.set n.1.toNat 2:=List.set_set ..
      simp only[cond_true,YA4,hs0,r2,YwU]
      rw[hs0]at hb
      rw[chkT _ (by rw[YAm];omega),chkT _ trivial,chkT _ (by rw[YAm];omega),hb.1]
   ·simp only[c5,decide_false,Bool.not_false,cond_true]
    rw[if_pos (.inr (.inr (.inr c5)))];rfl
theorem Yng(lo:Lo): ∀n x y,Ybi lo n x=some y->Ybi lo (n+1) x=some y
 |0,_,_,h=>by cases h
 |n+1,x,y,h=>by
  have ih:=Yng lo n
  have h':Ycz lo (Ybi lo n) x.1 x.2.1 x.2.2.1 x.2.2.2.1 x.2.2.2.2.1 x.2.2.2.2.2=some y:=h
  show Ycz lo (Ybi lo (n+1)) x.1 x.2.1 x.2.2.1 x.2.2.2.1 x.2.2.2.2.1 x.2.2.2.2.2=some y
  unfold Ycz at h'⊢
  clear h
  have h:=h'
  clear h'
  repeat' (first|with_reducible exact h| (refine YzO h (fun h=> ?_) fun h=> ?_)| (refine chkm h fun h=> ?_)| (refine YzM h fun _ h=> ?_)| (refine YzN h (ih _) fun _ h=> ?_))
theorem YwH{w:List Int}{es:List (List Int)}(h8:In8 w es)(hvi:Yxu w es=0)(b:Int)(nd:List Nd):q52 loO w es b nd=some (Yyk w es b nd):=by
 have hwl:=h8.wl
 have hmx:maxEl>=100000:=by decide
 have hc:=Yg5 h8 0 nd.length (List.replicate w.length 0) b nd (YAO _) (by simp)
 rw[<-YAS (nd.length+1)]at hc
 have hc':q51 loO nd b w es 0 (List.replicate w.length 0)=_:=YeS (Yng loO) hc
 have hnew:q29 loO w es 0=some (w,es,0,List.replicate w.length 0):=by
  simp only[q29,YBb]
  rw[chkT _ (by omega)]
 simp only[q52,Ym5 h8,YwU,decide_true,YA8,cond_false,Yyk,inR,hvi]
 by_cases c1:b< -1000000000000000
 ·rw[cT _ _ c1,if_neg];simp;omega
 ·rw[cF _ _ c1]
  by_cases c2:(1000000000000000:Int)<b
  ·rw[cT _ _ c2,if_neg];simp;omega
  ·rw[cF _ _ c2,if_pos (by simp;omega)]
   simp only[hnew,YwU,hc']
   rw[chkT _ trivial]
   cases(chkN w es nd.length (List.replicate w.length 0) b nd).2<;>rfl
end Go.Abs.G39
namespace Go.Abs.G39
open Go Go.Abs
set_option maxRecDepth 100000
theorem YwI{α:Type}(l:List α)(d:α)(q:α->Bool)(n:Nat)(h:n<l.length):(l.take (n+1)).all q=((l.take n).all q&&q (l.getD n d)):=by
 rw[take_succ' l d n h,List.all_append];simp
theorem YwJ{w:List Int}{es:List (List Int)}(h8:In8 w es)(c x:List Int)(b:Int)(hx:x.length<=100000):q68 loO w es c x b=some (YxO es x):=by
 have hel:=h8.el
 have hin: ∀n,n<es.length->YgP loO ((n:Int),true,(0:Int),w,es,c,x,b)=some ((n:Int),(es.getD n []).all (fun v=>decide (v∈x)),w,es,c,x,b):=by
  intro n hn
  have h8e:=h8.e8 (gmem es [] n hn)
  refine YaH (step:=YdD loO) (st:=fun k=>((n:Int),((es.getD n []).take k).all (fun v=>decide (v∈x)),(k:Int),w,es,c,x,b)) (N:=(es.getD n []).length) rfl ?_ ?_
  ·simp only[YdD,YBb]
   rw[chkT _ (by omega),cF _ _ (by omega),YAv]
  ·intro k hk
   have e1:YBh .i64 ((k:Int)+1)=((k+1:Nat):Int):=by rw[wr6 (by omega) (by omega)];omega
   simp only[YdD,YBb,e1,Yb2 _ _ hx,YwU,YwI _ 0 _ k hk]
   rw[chkT _ (by omega),cT _ _ (by omega)]
   cases((es.getD n []).take k).all (fun v=>decide (v∈x))with
   |true=>simp only[cond_true,Bool.true_and];rw[chkT _ (by omega),chkT _ (by omega)]
   |false=>rfl
 have h:=YeY (step:=YdE loO) (fun n=>((n:Int),w,es,c,x,b)) es.length (fun n=>(es.getD n []).all fun v=>decide (v∈x)) (.inl true) (.inr ())
  (by simp only[YdE];rw[cF _ _ (by omega)])
  (fun n hn=>by
   have e1:YBh .i64 ((n:Int)+1)=((n+1:Nat):Int):=by rw[wr6 (by omega) (by omega)];omega
   simp only[YdE,hin n hn,YwU,e1]
   rw[cT _ _ (by omega)])
 rw[YbB es [] (fun e=>e.all fun v=>decide (v∈x))]at h
 have h':YgQ loO ((0:Int),w,es,c,x,b)=some (bif(es.any fun e=>e.all fun v=>decide (v∈x))then .inl true else .inr ()):=h
 simp only[q68,h',YwU,YxO]
 cases(es.any fun e=>e.all fun v=>decide (v∈x))<;>rfl
theorem r19{w:List Int}{es:List (List Int)}(h8:In8 w es)(c x:List Int)(b:Int)(hc:c.length<=100000)(l:List (Int×Int))(hl:l.length<=10000): ∀(j i:Nat) (s:Int),i+j=l.length->
  YdG loO (l,s,(i:Int),w,es,c,x,b)=some (match Yxe es c (l.drop i) s with|none=>.inl false|some t=>.inr (l,t,w,es,c,x,b))
 |0,i,s,hi=>by
  rw[YAM (by omega)]
  simp only[YdG,runO]
  rw[Yaf]
  simp only[YdF,Yxe]
  rw[cF _ _ (by omega)]
 |j+1,i,s,hi=>by
  have e1:YBh .i64 ((i:Int)+1)=((i+1:Nat):Int):=by rw[wr6 (by omega) (by omega)];omega
  rw[Yzb l (0,0) i (by omega)]
  generalize hy:l.getD i (0,0)=y
  simp only[Yxe]
  have hst:YdG loO (l,s,(i:Int),w,es,c,x,b)=Yw7 (YdF loO) (l,s,(i:Int),w,es,c,x,b):=rfl
  rw[hst,Yaf]
  simp only[YdF,YBb,hy]
  rw[cT _ _ (by omega),chkT _ (by omega)]
  by_cases c1:y.1<0
  ·rw[cT _ _ c1,if_pos (.inl c1)]
  rw[cF _ _ c1,chkT _ (by omega)]
  by_cases c2:(es.length:Int)<=y.1
  ·rw[cT _ _ c2,if_pos (.inr (.inl c2))]
  rw[cF _ _ c2,chkT _ (by omega)]
  by_cases c3:y.2<1
  ·rw[cT _ _ c3,if_pos (.inr (.inr (.inl c3)))]
  rw[cF _ _ c3,chkT _ (by omega)]
  by_cases c4:(1000000000000:Int)<y.2
  ·rw[cT _ _ c4,if_pos (.inr (.inr (.inr (.inl c4))))]
  have h8e:=h8.e8 (gmem es [] y.1.toNat (by omega))
  rw[cF _ _ c4,chkT _ (by omega),chkT _ (by omega)]
  simp only[YmZ (es.getD y.1.toNat []) c (by omega) hc,YwU]
  have hmt:((es.getD y.1.toNat []).any fun z=>decide (z∈c))=meet (es.getD y.1.toNat []) c:=rfl
  rw[hmt]
  cases c5:meet (es.getD y.1.toNat []) c with
  |true=>simp only[cond_true];rw[if_pos (.inr (.inr (.inr (.inr trivial))))]
  |false=>
   simp only[cond_false]
   rw[if_neg (by rintro(h|h|h|h|h)<;>first|exact absurd h ‹_› |cases h),chkT _ (by omega)]
   have ih:=r19 h8 c x b hc l hl j (i+1) (IntKind.i64.wrap (s+y.2)) (by omega)
   simp only[e1]
   exact ih
theorem r8{w:List Int}{es:List (List Int)}(h8:In8 w es)(c x:List Int)(b s:Int)(l:List (Int×Int))(hl:l.length<=10000)(hy: ∀y∈l,0<=y.1/\y.1< (es.length:Int))(v:Int): ∀(j i:Nat) (ld:Int),i+j=l.length->
  YdI loO (l,s,v,ld,(i:Int),w,es,c,x,b)=some (l,s,v,Yya es v (l.drop i) ld,w,es,c,x,b)
 |0,i,ld,hi=>by
  rw[YAM (by omega)]
  simp only[YdI,runO]
  rw[Yaf]
  simp only[YdH,Yya]
  rw[cF _ _ (by omega)]
 |j+1,i,ld,hi=>by
  have e1:YBh .i64 ((i:Int)+1)=((i+1:Nat):Int):=by rw[wr6 (by omega) (by omega)];omega
  have hyr:=hy _ (gmem l (0,0) i (by omega))
  rw[Yzb l (0,0) i (by omega)]
  generalize hq:l.getD i (0,0)=y at hyr⊢
  have h8e:=h8.e8 (gmem es [] y.1.toNat (by omega))
  have hst:YdI loO (l,s,v,ld,(i:Int),w,es,c,x,b)=Yw7 (YdH loO) (l,s,v,ld,(i:Int),w,es,c,x,b):=rfl
  rw[hst,Yaf]
  simp only[YdH,YBb,hq,Yb2 (es.getD y.1.toNat []) v (by omega),YwU,e1,Yya]
  rw[cT _ _ (by omega),chkT _ (by omega),chkT _ (by omega)]
  by_cases hv:v∈es.getD y.1.toNat []
  ·rw[cT _ _ hv,chkT _ (by omega),if_pos hv]
   exact r8 h8 c x b s l hl hy v j (i+1) _ (by omega)
  ·rw[cF _ _ hv,if_neg hv]
   exact r8 h8 c x b s l hl hy v j (i+1) _ (by omega)
theorem r3{w:List Int}{es:List (List Int)}(h8:In8 w es)(c x:List Int)(b s:Int)(hx:x.length<=100000)(l:List (Int×Int))(hl:l.length<=10000)(hy: ∀y∈l,0<=y.1/\y.1< (es.length:Int)): ∀(j v:Nat),v+j=w.length->
  YdK loO (l,s,(v:Int),w,es,c,x,b)=some (bif Yxf w es x l (w.drop v) v then .inr (s,c,x,b)else .inl false)
 |0,v,hv=>by
  rw[YAM (by omega)]
  simp only[YdK,runO]
  rw[Yaf]
  simp only[YdJ,Yxf]
  rw[cF _ _ (by omega)]
  rfl
 |j+1,v,hv=>by
  have hwl:=h8.wl
  have e1:YBh .i64 ((v:Int)+1)=((v+1:Nat):Int):=by rw[wr6 (by omega) (by omega)];omega
  rw[Yzb w 0 v (by omega)]
  have hld:=r8 h8 c x b s l hl hy (v:Int) l.length 0 0 (by omega)
  rw[YAJ,show((0:Nat):Int)=0 from rfl]at hld
  have hst:YdK loO (l,s,(v:Int),w,es,c,x,b)=Yw7 (YdJ loO) (l,s,(v:Int),w,es,c,x,b):=rfl
  rw[hst,Yaf]
  simp only[YdJ,hld,YwU,YBb,Yb2 x (v:Int) hx,e1]
  rw[cT _ _ (by omega),chkT _ (by omega)]
  have ih:=r3 h8 c x b s hx l hl hy j (v+1) (by omega)
  by_cases c1:w.getD v 0<Yya es (v:Int) l 0
  ·rw[cT _ _ c1]
   by_cases c2:(v:Int)∈x
   ·have hr:Yxf w es x l (w.getD v 0::w.drop (v+1)) v=Yxf w es x l (w.drop (v+1)) (v+1):=by simp only[Yxf];rw[if_neg (fun h=>h.2 c2)]
    simp only[c2,decide_true,YA8,cond_false,hr]
    exact ih
   ·have hr:Yxf w es x l (w.getD v 0::w.drop (v+1)) v=false:=by simp only[Yxf];rw[if_pos ⟨c1,c2⟩]
    simp only[c2,decide_false,Bool.not_false,cond_true,hr]
    rfl
  ·have hr:Yxf w es x l (w.getD v 0::w.drop (v+1)) v=Yxf w es x l (w.drop (v+1)) (v+1):=by simp only[Yxf];rw[if_neg (fun h=>c1 h.1)]
   rw[cF _ _ c1,hr]
   exact ih
theorem YwK{w:List Int}{es:List (List Int)}(h8:In8 w es)(c x:List Int)(b:Int)(hc:c.length<=100000)(hx:x.length<=100000)(l:List (Int×Int)):
  q69 loO w es c x b l=some (Yyj w es c x b l):=by
 simp only[q69,Yyj]
 by_cases k:10000<l.length
 ·rw[cT _ _ (by omega),if_pos k]
 ·rw[cF _ _ (by omega),if_neg k]
  have h19:=r19 h8 c x b hc l (by omega) l.length 0 0 (by omega)
  rw[YAJ,show((0:Nat):Int)=0 from rfl]at h19
  simp only[h19,YwU]
  cases hr:Yxe es c l 0 with
  |none=>rfl
  |some t=>
   have hok:=Ye6 es c l 0 t hr
   have h3:=r3 h8 c x b t hx l (by omega) (fun y hy=>⟨(hok y hy).1,by have:=(hok y hy).2.1;have:=(hok y hy).1;omega⟩) w.length 0 (by omega)
   rw[YAJ,show((0:Nat):Int)=0 from rfl]at h3
   simp only[YaU,h3,YwU]
   cases k2:Yxf w es x l w 0 with
   |true=>rw[if_pos rfl];rfl
   |false=>rw[if_neg (by simp)];rfl
theorem Yg6{w:List Int}{es:List (List Int)}(h8:In8 w es): ∀(f:Nat) (c x:List Int) (b:Int) (nd:List Nd),nd.length<=f->c.length+nd.length<=90000->x.length+nd.length<=90000->
  Ybj loO (f+1) (w,es,c,x,b,nd)=some (optI (YxE w es f c x b nd))
 |f,c,x,b,[],hn,hc,hx=>by
  cases f<;>rfl
 |0,c,x,b,n::r,hn,hc,hx=>absurd hn (by simp)
 |f+1,c,x,b,n::r,hn,hc,hx=>by
  have hwl:=h8.wl
  have hel:=h8.el
  have hmx:maxEl>=100000:=by decide
  rw[YAl]at hn hc hx
  have htk:(n::r).take (((n::r).length:Nat):Int).toNat=n::r:=by rw[YBb,YAv]
  have hg:(n::r).getD 0 ((0:Int),([]:List (Int×Int)))=n:=rfl
  have hlen:((n::r).length:Int)=(r.length:Int)+1:=by rw[YAl];omega
  show YcA loO (Ybj loO (f+1)) w es c x b (n::r)=_
  simp only[YcA,hg,htk]
  rw[cF _ _ (by omega),chkT _ (by omega)]
  simp only[YxE]
  by_cases c1:n.1= -1
  ·rw[cT _ _ c1,if_pos c1,chkT _ (by omega)]
   by_cases c2:(n.2.length:Int)=0
   ·rw[cT _ _ c2]
    simp only[YyT,if_pos c2]
    by_cases c3:b<=0
    ·rw[cT _ _ c3];simp[c3,optI]
    ·rw[cF _ _ c3]
     simp only[YwJ h8 c x b (by omega),YwU]
     cases YxO es x with
     |true=>simp[optI]
     |false=>simp only[cond_false];rw[chkT _ (by omega),cF _ _ (by omega)];simp[c3,optI]
   ·rw[cF _ _ c2,chkT _ (by omega),cT _ _ (by omega),chkT _ (by omega)]
    simp only[YwK h8 c x b (by omega) (by omega) n.2,YwU,YyT,if_neg c2]
    cases Yyj w es c x b n.2<;>rfl
  ·rw[cF _ _ c1,if_neg c1,chkT _ (by omega),chkT _ (by omega)]
   by_cases c4:(0:Int)<n.2.length
   ·rw[cT _ _ c4,if_pos (.inl c4)];rfl
   rw[cF _ _ c4]
   by_cases c2:n.1<0
   ·rw[cT _ _ c2,if_pos (.inr (.inl c2))];rfl
   rw[cF _ _ c2]
   by_cases c3:(w.length:Int)<=n.1
   ·rw[cT _ _ c3,if_pos (.inr (.inr (.inl c3)))];rfl
   rw[cF _ _ c3]
   simp only[Yb2 c n.1 (by omega),Yb2 x n.1 (by omega),YwU]
   by_cases c5:n.1∈c
   ·rw[cT _ _ c5,if_pos (.inr (.inr (.inr (.inl c5))))];rfl
   rw[cF _ _ c5]
   by_cases c6:n.1∈x
   ·rw[cT _ _ c6,if_pos (.inr (.inr (.inr (.inr c6))))];rfl
   rw[cF _ _ c6,if_neg (by rintro(h|h|h|h|h)<;>first|exact absurd h ‹_›),chkT _ (by omega),chkT _ (by simp only[YAy];omega),chkT _ (by omega),chkT _ (by omega)]
   have r1:=Yg6 h8 f (c++[n.1]) x (YBh .i64 (b-w.getD n.1.toNat 0)) r (by omega) (by rw[YAu,YAy];omega) (by omega)
   have hd1:(n::r).drop 1=r:=rfl
   simp only[hd1,r1,YwU]
   cases c7:YxE w es f (c++[n.1]) x (YBh .i64 (b-w.getD n.1.toNat 0)) r with
   |none=>rfl
   |some k=>
    have hk:=YdR w es _ _ _ _ _ _ c7
    have e1:YBh .i64 (1+(k:Int))=((k+1:Nat):Int):=by rw[wr6 (by omega) (by omega)];omega
    have hd2:(n::r).drop (k+1)=r.drop k:=rfl
    have r2:=Yg6 h8 f c (x++[n.1]) b (r.drop k) (by rw[List.length_drop];omega) (by rw[List.length_drop];omega) (by rw[YAu,YAy,List.length_drop];omega)
    have e0:optI (some k)=(k:Int):=rfl
    generalize optI (some k)=z at e0⊢
    subst e0
    simp only[e1,YBb,hd2,r2,YwU]
    rw[cF _ _ (by omega),chkT _ (by omega),chkT _ (by simp only[YAy];omega),chkT _ (by omega)]
    cases c8:YxE w es f c (x++[n.1]) b (r.drop k)with
    |none=>rfl
    |some k'=>
     have hk':=YdR w es _ _ _ _ _ _ c8
     rw[List.length_drop]at hk'
     have e0:optI (some k')=(k':Int):=rfl
     generalize optI (some k')=z at e0⊢
     subst e0
     rw[cF _ _ (by omega),wr6 (by omega) (by omega)]
     show some (((k+1:Nat):Int)+(k':Int))=some (((k+1+k':Nat)):Int)
     congr 1
theorem Ynh(lo:Lo): ∀n x y,Ybj lo n x=some y->Ybj lo (n+1) x=some y
 |0,_,_,h=>by cases h
 |n+1,x,y,h=>by
  have ih:=Ynh lo n
  have h':YcA lo (Ybj lo n) x.1 x.2.1 x.2.2.1 x.2.2.2.1 x.2.2.2.2.1 x.2.2.2.2.2=some y:=h
  show YcA lo (Ybj lo (n+1)) x.1 x.2.1 x.2.2.1 x.2.2.2.1 x.2.2.2.2.1 x.2.2.2.2.2=some y
  unfold YcA at h'⊢
  clear h
  have h:=h'
  clear h'
  repeat' (first|with_reducible exact h| (refine YzO h (fun h=> ?_) fun h=> ?_)| (refine chkm h fun h=> ?_)| (refine YzM h fun _ h=> ?_)| (refine YzN h (ih _) fun _ h=> ?_))
theorem YwL{w:List Int}{es:List (List Int)}(h8:In8 w es)(hvi:Yxu w es=0)(b:Int)(nd:List Nd)(hn:nd.length<=80000):q71 loO w es b nd=some (YyQ w es b nd):=by
 have hc:=Yg6 h8 nd.length [] [] b nd (YAO _) (by simp;omega) (by simp;omega)
 rw[<-YAS (nd.length+1)]at hc
 have hc':q70 loO w es [] [] b nd=_:=YeS (Ynh loO) hc
 have hir:q67 loO b=some (inR b):=by
  simp only[q67,inR]
  cases decide (-1000000000000000<=b)<;>rfl
 simp only[q71,Ym0 h8,YwU,decide_true,cond_true,hir,YyQ,hvi]
 cases hb:inR b with
 |false=>rw[if_neg (fun h=>by cases h.2.1)];rfl
 |true=>
  simp only[cond_true]
  by_cases c:(0:Int)<nd.length
  ·rw[cT _ _ c,if_pos ⟨trivial,trivial,c⟩,hc'];rfl
  ·rw[cF _ _ c,if_neg (fun h=>c h.2.2)]
end Go.Abs.G39
namespace Go.Abs.G39
open Go Go.Abs
set_option maxRecDepth 100000
theorem Yni(n:Int): ∀(l:List Int) (a:Int),(∀v∈l,a<v/\v<n)->l.Pairwise (· < ·)->asc n a l=true
 | [],_,_,_=>rfl
 |x::r,a,h,hp=>by
  rw[List.pairwise_cons]at hp
  have hx:=h x (by simp)
  simp only[asc,YA7,decide_eq_true_eq]
  exact⟨⟨hx.1,hx.2⟩,Yni n r x (fun v hv=>⟨hp.1 v hv,(h v (by simp[hv])).2⟩) hp.2⟩
theorem In8.vi{w:List Int}{es:List (List Int)}(h8:In8 w es):Yxu w es=0:=by
 have hwl:=h8.wl
 have hel:=h8.el
 unfold Yxu
 rw[if_neg (by omega),if_pos]
 simp only[YA7,YAn]
 refine⟨fun x hx=> ?_,fun e he=> ?_⟩
 ·have:=h8.wv x hx
  simp only[okW,YA7,decide_eq_true_eq];omega
 ·obtain⟨h1,h2,h3⟩:=h8.ev e he
  simp only[okE,YA7]
  refine⟨Yni _ e (-1) (fun v hv=>by have:=h3 v hv;omega) h2,?_⟩
  cases e with
  |nil=>exact absurd rfl h1
  |cons a r=>rfl
def mkL(m:List Int)(a:Int):List Int:=((List.range m.length).filter fun i=>decide (m.getD i 0=a)).map fun(i:Nat)=>(i:Int)
theorem Ynj(m:List Int)(a v:Int):v∈mkL m a↔0<=v/\v.toNat<m.length/\m.getD v.toNat 0=a:=by
 simp only[mkL,YAs,List.mem_filter,List.mem_range,decide_eq_true_eq]
 constructor
 ·rintro⟨i,⟨h1,h2⟩,rfl⟩;exact⟨by omega,by simpa using h1,by simpa using h2⟩
 ·rintro⟨h1,h2,h3⟩;exact⟨v.toNat,⟨h2,h3⟩,by omega⟩
theorem YwM{n:Nat}{m:List Int}(hm:Mk n m):RelM n m (mkL m 1) (mkL m 2):=by
 refine⟨hm.len,fun v=>by rw[Ynj,hm.len],fun v=>by rw[Ynj,hm.len],fun v=> ?_⟩
 by_cases h:v<n
 ·exact hm.val v h
 ·left
  rw[YAj,YAt (by have:=hm.len;omega)];rfl
theorem Ynk(es:List (List Int))(v:Nat): ∀l:List (Int×Int),Yxo es (v:Int) l=ldS es v l
 | []=>rfl
 |y::r=>by
  simp only[Yxo,ldS,YAd,List.sum_cons,Ynk es v r]
theorem Ynl{w:List Int}{es:List (List Int)}{m c x:List Int}(h8:In8 w es)(hr:RelM w.length m c x): ∀(l:List (Int×Int)) (acc:Int),(∀y∈l,0<=y.1/\y.1< (es.length:Int)/\1<=y.2/\y.2<=20/\hasM m (es.getD y.1.toNat []) 1=false)->0<=acc->acc+20*(l.length:Int)<=1000000->
  Yxe es c l acc=some (acc+(l.map (·.2)).sum)
 | [],acc,_,_,_=>by simp[Yxe]
 |y::r,acc,hy,h0,hb=>by
  obtain⟨y1,y2,y3,y4,y5⟩:=hy y (by simp)
  rw[YAl]at hb
  have hv:=h8.vts (gmem es [] y.1.toNat (by omega))
  have hmt:=Yg2 hr (l:=es.getD y.1.toNat []) (fun v hm=>by have:=hv.2 v hm;omega)
  rw[y5]at hmt
  simp only[Yxe]
  rw[if_neg (by
   rintro(h|h|h|h|h)
   ·omega
   ·omega
   ·omega
   ·omega
   ·rw[<-hmt]at h;cases h),wrap64 _ (by omega) (by omega),Ynl h8 hr r (acc+y.2) (fun z hz=>hy z (by simp[hz])) (by omega) (by omega)]
  simp only[YAd,List.sum_cons]
  congr 1
  omega
theorem YwN{w:List Int}{es:List (List Int)}(h8:In8 w es){m:List Int}(hm:Mk w.length m){s:Int}{r:Nat->Int}{out:List (Int×Int)}(hl:out.length<=es.length)(ho:PO w es m s r out)(hr: ∀v,v<w.length->m.getD v 0=0->0<=r v){b:Int}(hb:b<=s):YxD w es m out b=true:=by
 have hel:=h8.el
 have hrel:=YwM hm
 have hA:=Ynl h8 hrel out 0 ho.el (by omega) (by omega)
 rw[Int.zero_add,<-ho.sm]at hA
 have hz: ∀v:Nat,(List.replicate m.length (0:Int)).getD v 0=0:=fun v=>by
  rw[YAj,YAF];split<;>rfl
 have key:=(Yg3 hrel (YgZ h8.vi).2.2 out (List.replicate m.length 0) 0 s 0 hA (by simp[hm.len]) (fun v=>by rw[hz];omega) (by omega) (fun v h _=>by rw[hz];have:=h8.wv _ (gmem w 0 v h);omega)).1 (fun v hv h0=>by
  rw[hz,Ynk,Int.zero_add]
  have a:=ho.ld v hv
  have c:=hr v hv h0
  omega)
 unfold YxD
 rw[if_neg (by omega),key]
 exact decide_eq_true hb
theorem YwO(x a c:List Nd)(h:x.length+a.length+c.length<=100000):q85 loO [x,a,c]=some (x++a++c):=by
 have hmx:maxEl>=100000:=by decide
 have hle:(([x,a,c]:List (List Nd)).length:Int)=3:=rfl
 have g0:([x,a,c]:List (List Nd)).getD 0 []=x:=rfl
 have g1:([x,a,c]:List (List Nd)).getD 1 []=a:=rfl
 have g2:([x,a,c]:List (List Nd)).getD 2 []=c:=rfl
 have t1:(1:Int).toNat=1:=rfl
 have t2:(2:Int).toNat=2:=rfl
 have t0:(0:Int).toNat=0:=rfl
 have p1:YBh .i64 ((0:Int)+1)=1:=by rw[wr6 (by omega) (by omega)];rfl
 have p2:YBh .i64 ((1:Int)+1)=2:=by rw[wr6 (by omega) (by omega)];rfl
 have p3:YBh .i64 ((2:Int)+1)=3:=by rw[wr6 (by omega) (by omega)];rfl
 have h11:YeV loO ([x,a,c],0,[x,a,c],(([x,a,c]:List (List Nd)).length:Int),0)=some ([x,a,c],(x.length:Int)+a.length+c.length):=by
  simp only[YeV,runO]
  rw[Yaf]
  simp only[YcB,hle,t0,g0,p1]
  rw[cT _ _ (by omega),chkT _ (by omega),wr6 (by omega) (by omega),cF _ _ (by omega)]
  simp only[]
  rw[Yaf]
  simp only[YcB,hle,t1,g1,p2]
  rw[cT _ _ (by omega),chkT _ (by omega),wr6 (by omega) (by omega),cF _ _ (by omega)]
  simp only[]
  rw[Yaf]
  simp only[YcB,hle,t2,g2,p3]
  rw[cT _ _ (by omega),chkT _ (by omega),wr6 (by omega) (by omega),cF _ _ (by omega)]
  simp only[]
  rw[Yaf]
  simp only[YcB,hle]
  rw[cF _ _ (by omega),Int.zero_add]
 have h3:YeW loO ([x,a,c],(([x,a,c]:List (List Nd)).length:Int),0,[])=some (x++a++c):=by
  simp only[YeW,runO]
  rw[Yaf]
  simp only[YcC,hle,t0,g0,p1,YAG,YAK]
  rw[cT _ _ (by omega),chkT _ (by omega),chkT _ (by omega)]
  simp only[]
  rw[Yaf]
  simp only[YcC,hle,t1,g1,p2]
  rw[cT _ _ (by omega),chkT _ (by omega),chkT _ (by omega)]
  simp only[]
  rw[Yaf]
  simp only[YcC,hle,t2,g2,p3]
  rw[cT _ _ (by omega),chkT _ (by omega),chkT _ (by rw[YAu];omega)]
  simp only[]
  rw[Yaf]
  simp only[YcC,hle]
  rw[cF _ _ (by omega)]
 have hg:q84 loO ((x.length:Int)+a.length+c.length)=some []:=by
  unfold q84
  rw[decide_eq_true (by omega),decide_eq_true (by omega)]
  rfl
 simp only[q85,h11,hg,YwU,h3]
theorem Ynm{w m:List Int}(hm:Mk w.length m)(v:Nat)(hv:v<w.length)(h0:m.getD v 0=0)(a:Int)(ha:a≠0)(X:Nat->Bool):
  sg w.length (fun u=>if opn m X u then w.getD u 0 else 0)=sg w.length (fun u=>if opn (m.set v a) X u then w.getD u 0 else 0)+(if X v then w.getD v 0 else 0):=by
 have hml:=hm.len
 have e:sg w.length (fun u=>if opn m X u then w.getD u 0 else 0)=sg w.length (fun u=>(if opn (m.set v a) X u then w.getD u 0 else 0)+(if u=v then(if X v then w.getD v 0 else 0)else 0)):=by
  refine YcE fun u hu=> ?_
  by_cases e:u=v
  ·subst e
   have o1:opn m X u=X u:=by simp only[opn,h0,decide_true,Bool.and_true]
   have o2:opn (m.set u a) X u=false:=by
    simp only[opn]
    rw[Ya0 _ _ _ _ (by omega),if_pos rfl,decide_eq_false ha,Bool.and_false]
   rw[o1,o2,if_pos rfl]
   simp
  ·have o2:opn (m.set v a) X u=opn m X u:=by
    simp only[opn]
    rw[Ya0 _ _ _ _ (by omega),if_neg e]
   rw[o2,if_neg e];omega
 rw[e,Ye2,Ye3 _ _ _ hv]
theorem Yg7{w:List Int}{es:List (List Int)}(h8:In8 w es): ∀(d f:Nat) (m:List Int) (lf b:Int),d<f->Mk w.length m->opc w.length m<=(d:Int)->d<=8->2^(d+1)-1<=lf->lf<9223372036854775808-> -1000000+20*(d:Int)<=b->b<=1000000->
  (∀X,Con w.length m X->Hit es X->b<=sg w.length (fun v=>if opn m X v then w.getD v 0 else 0))->
  ∃nd lf',Ybl loO f (b,w,es,lf,m)=some (nd,0,w,es,lf',m)/\lf'<=lf/\lf-lf'<=2^(d+1)-1/\1<=nd.length/\ (nd.length:Int)<=2^(d+1)-1/\ (∀n∈nd,n.2.length<=12)/\
   ∀(g:Nat) (rest:List Nd),nd.length<=g->chkN w es g m b (nd++rest)=(some rest,true)
 |d,f,m,lf,b,hdf,hm,hop,hd8,hl0,hl1,hb0,hb1,hX=>by
  obtain⟨f,rfl⟩: ∃f',f=f'+1:=⟨f-1,by omega⟩
  have hwl:=h8.wl
  have hel:=h8.el
  have hml:=hm.len
  have hpd:(2:Int)^(d+1)=2*2^d:=by
   have a1:(2:Int)^(d+1)=((2^(d+1):Nat):Int):=by simp
   have a2:(2:Int)^d=((2^d:Nat):Int):=by simp
   rw[a1,a2,Nat.pow_succ];omega
  have hp1:(1:Int)<=2^d:=by
   have a2:(2:Int)^d=((2^d:Nat):Int):=by simp
   have:=Nat.two_pow_pos d
   rw[a2];omega
  have hp9:(2:Int)^d<=256:=by
   have a2:(2:Int)^d=((2^d:Nat):Int):=by simp
   have a3:2^d<=2^8:=Nat.pow_le_pow_right (by decide) hd8
   have a4:(2:Nat)^8=256:=rfl
   rw[a2];omega
  have hvt: ∀e∈es,Vts m.length e:=fun e he=>by rw[hml];exact h8.vts he
  have e1:YBh .i64 (lf-1)=lf-1:=wr6 (by omega) (by omega)
  have hge:decide (0<=lf-1)=true:=by simp;omega
  have hsp:q30 loO w es lf m=some (true,w,es,lf-1,m):=by
   simp only[q30,e1,hge]
  have leaf: ∀(out:List (Int×Int)),Yyr w es m b out=true-> ∀(g:Nat) (rest:List Nd),([((-1:Int),out)]:List Nd).length<=g->chkN w es g m b ([((-1:Int),out)]++rest)=(some rest,true):=by
   intro out h g rest hg
   obtain⟨g,rfl⟩: ∃g',g=g'+1:=⟨g-1,by simp at hg;omega⟩
   show chkN w es (g+1) m b (((-1:Int),out)::rest)=_
   simp only[chkN]
   rw[if_pos trivial,h]
  show∃nd lf',Ybk loO (Ybl loO f) b w es lf m=some (nd,0,w,es,lf',m)/\_
  by_cases hbz:b<=0
  ·refine⟨[(-1,[])],lf-1,?_,by omega,by omega,by simp,by simp;omega,by simp,leaf [] (by simp[Yyr,hbz])⟩
   simp only[Ybk,hsp,YwU,YA8,cond_false]
   rw[chkT _ trivial,cT _ _ hbz]
  cases hdd:Yx9 m es with
  |true=>
   refine⟨[(-1,[])],lf-1,?_,by omega,by omega,by simp,by simp;omega,by simp,leaf [] (by simp[Yyr,hdd])⟩
   simp only[Ybk,hsp,YwU,YA8,cond_false,Ye1 w es (lf-1) m hel hvt,hdd,cond_true]
   rw[chkT _ trivial,cF _ _ hbz,chkT _ trivial]
  |false=>
   obtain⟨s,out,p1,p2,p3,p4,p5,r,p6,p7⟩:=Yww h8 (lf-1) hm hdd
   by_cases hbs:b<=s
   ·have hne: ¬ (out.length:Int)=0:=by
     intro h
     have:out=[]:=YAk.1 (by omega)
     have hs:=p6.sm
     rw[this]at hs
     simp at hs
     omega
    refine⟨[(-1,out)],lf-1,?_,by omega,by omega,by simp,by simp;omega,by simp;omega,leaf out (by simp only[Yyr];rw[if_neg hne];exact YwN h8 hm p5 p6 p7 hbs)⟩
    simp only[Ybk,hsp,YwU,YA8,cond_false,Ye1 w es (lf-1) m hel hvt,hdd,p1]
    rw[chkT _ trivial,cF _ _ hbz,chkT _ trivial,chkT _ trivial,cT _ _ hbs]
   ·obtain⟨v,b1,b2⟩:=Ywx h8 (lf-1) hm hdd
    rcases b2 with⟨b2,b3⟩| ⟨b2,b3,b4⟩
    ·exfalso
     have:=hX (fun u=>decide (m.getD u 0=1)) (fun u hu=>⟨fun h=>decide_eq_true h,fun h=>decide_eq_false (by omega)⟩) (fun e he=>by
      obtain⟨u,h1,h2⟩:=YAE.1 (b3 e he)
      exact⟨u,h1,h2⟩)
     rw[YcE (g:=fun _=>0) (fun u hu=>by
      have:opn m (fun u=>decide (m.getD u 0=1)) u=false:=by
       simp only[opn]
       by_cases h:m.getD u 0=1
       ·rw[h];rfl
       ·rw[decide_eq_false h];rfl
      rw[this];rfl),YdQ]at this
     omega
    ·have hvl:v.toNat<w.length:=by omega
     have ho1:=Yna hm v.toNat hvl b4 1 (by omega)
     have ho2:=Yna hm v.toNat hvl b4 2 (by omega)
     have hopz:0<=opc w.length (m.set v.toNat 1):=by
      have:sg w.length (fun _=>0)<=opc w.length (m.set v.toNat 1):=YbC fun u hu=>by split<;>omega
      rwa[YdQ]at this
     have hd0:d≠0:=by omega
     have hm1:=hm.set v.toNat 1 (by omega) hvl
     have hm2:=hm.set v.toNat 2 (by omega) hvl
     have hwv:=h8.wv _ (gmem w 0 v.toNat hvl)
     have e3:YBh .i64 (b-w.getD v.toNat 0)=b-w.getD v.toNat 0:=wr6 (by omega) (by omega)
     have ed:d-1+1=d:=by omega
     have hc2:((d-1:Nat):Int)=(d:Int)-1:=by omega
     obtain⟨a,lf1,r1,r2,r3,r4,r5,r6,r7⟩:=Yg7 h8 (d-1) f (m.set v.toNat 1) (lf-1) (b-w.getD v.toNat 0) (by omega) hm1 (by omega) (by omega) (by rw[ed];omega) (by omega) (by omega) (by omega)
      (fun X hC hh=>by
       have hset:(m.set v.toNat 1).getD v.toNat 0=1:=by rw[Ya0 _ _ _ _ (by omega),if_pos rfl]
       have hxv:=(hC v.toNat hvl).1 hset
       have:=hX X (fun u hu=>by
        have:=hC u hu
        rw[Ya0 _ _ _ _ (by omega)]at this
        by_cases e:u=v.toNat
        ·subst e;exact⟨fun h=>(by rw[b4]at h;omega),fun h=>(by rw[b4]at h;omega)⟩
        ·rwa[if_neg e]at this) hh
       rw[Ynm hm v.toNat hvl b4 1 (by omega) X,hxv,if_pos rfl]at this
       omega)
     rw[ed]at r3 r5
     obtain⟨c,lf2,t1,t2,t3,t4,t5,t6,t7⟩:=Yg7 h8 (d-1) f (m.set v.toNat 2) lf1 b (by omega) hm2 (by omega) (by omega) (by rw[ed];omega) (by omega) (by omega) (by omega)
      (fun X hC hh=>by
       have hset:(m.set v.toNat 2).getD v.toNat 0=2:=by rw[Ya0 _ _ _ _ (by omega),if_pos rfl]
       have hxv:=(hC v.toNat hvl).2 hset
       have:=hX X (fun u hu=>by
        have:=hC u hu
        rw[Ya0 _ _ _ _ (by omega)]at this
        by_cases e:u=v.toNat
        ·subst e;exact⟨fun h=>(by rw[b4]at h;omega),fun h=>(by rw[b4]at h;omega)⟩
        ·rwa[if_neg e]at this) hh
       rw[Ynm hm v.toNat hvl b4 2 (by omega) X,hxv]at this
       simpa using this)
     rw[ed]at t3 t5
     have hs0:(m.set v.toNat 1).set v.toNat 2=m.set v.toNat 2:=List.set_set ..
     have hs1:=(back (m:=m) (v:=v.toNat) (a:=2) (b:=2) (by omega) b4).2
     refine⟨[(v,[])]++a++c,lf2,?_,by omega,by omega,by simp only[YAu,YAy];omega,by simp only[YAu,YAy];omega,?_,?_⟩
     ·simp only[Ybk,hsp,YwU,YA8,cond_false,Ye1 w es (lf-1) m hel hvt,hdd,p1,b1,e3]
      rw[chkT _ trivial,cF _ _ hbz,chkT _ trivial,chkT _ trivial,cF _ _ hbs,chkT _ trivial,cF _ _ (by omega),chkT _ (by omega),chkT _ (by omega),r1]
      simp only[YwU,decide_true,YA8,cond_false,hs0,t1,YwO [(v,[])] a c (by simp only[YAy];omega),hs1]
      rw[chkT _ trivial,chkT _ (by rw[YAm];omega),chkT _ trivial,chkT _ (by rw[YAm];omega)]
     ·intro n hn
      rcases YAD.1 hn with h|h
      ·rcases YAD.1 h with h|h
       ·rw[YAB]at h;subst h;simp
       ·exact r6 n h
      ·exact t6 n h
     ·intro g rest hg
      simp only[YAu,YAy]at hg
      obtain⟨g,rfl⟩: ∃g',g=g'+1:=⟨g-1,by omega⟩
      show chkN w es (g+1) m b ((v,[])::(a++c++rest))=_
      simp only[chkN]
      rw[if_neg (by omega),if_neg (by rintro(h|h|h|h)<;>first|omega| (simp at h)|exact h b4),e3,YAz,r7 g _ (by omega)]
      exact t7 g rest (by omega)
termination_by d=>d
end Go.Abs.G39
namespace Go.Abs.G39
open Go Go.Abs
set_option maxRecDepth 100000
def Ex(o:Option (List Nd)):Prop:= ∃z,o=some z/\z.length<=1000
theorem Ex.chk{p:Prop}[Decidable p]{o:Option (List Nd)}(h:p)(k:Ex o):Ex (Go.Abs.chk p o):=by rw[chkT _ h];exact k
theorem Ex.cond{c:Bool}{o o':Option (List Nd)}(k:Ex o)(k':Ex o'):Ex (bif c then o else o'):=by cases c;exact k';exact k
theorem Ex.pos{p:Prop}[Decidable p]{o o':Option (List Nd)}(k:p->Ex o)(k':Ex o'):Ex (bif decide p then o else o'):=by
 by_cases h:p
 ·rw[cT _ _ h];exact k h
 ·rw[cF _ _ h];exact k'
theorem Ex.some{z:List Nd}(h:z.length<=1000):Ex (some z):=⟨z,rfl,h⟩
theorem YzP(nd:List Nd)(k a dl:Int)(h:nd.length<=600)(hs: ∀n∈nd,n.2.length<=12):YgR loO (nd,(nd.length:Int),(0:Int),k,a,dl,[])=some (k,a,dl,nd):=by
 have hmx:maxEl>=100000:=by decide
 refine YaH (step:=YdL loO) (st:=fun i=>(nd,(nd.length:Int),(i:Int),k,a,dl,nd.take i)) (N:=nd.length) rfl ?_ ?_
 ·simp only[YdL]
  rw[cF _ _ (by omega),YAv]
 ·intro i hi
  have e1:YBh .i64 ((i:Int)+1)=((i+1:Nat):Int):=by rw[wr6 (by omega) (by omega)];omega
  have hm:(nd.getD i ((0:Int),[])).2.length<=12:=hs _ (gmem nd (0,[]) i hi)
  have hcl:q89 loO (nd.getD i ((0:Int),[])).2=some (nd.getD i ((0:Int),[])).2:=by
   have:YAR (nd.getD i ((0:Int),[])).2.length maxEl=true:=Nat.ble_eq_true_of_le (by omega)
   simp only[q89,this]
   rfl
  simp only[YdL,YBb,hcl,YwU,e1]
  rw[cT _ _ (by omega),chkT _ (by omega),chkT _ (by rw[List.length_take];omega),take_succ' nd (0,[]) i hi]
theorem YwP(nd:List Nd)(k a dl:Int)(h:nd.length<=600)(hs: ∀n∈nd,n.2.length<=12)(ha:0<=a/\a<=255): ∃z,q90 loO nd k a dl=some z/\z.length<=1000:=by
 have hmx:maxEl>=100000:=by decide
 have ea:YBh .i64 a=a:=wr6 (by omega) (by omega)
 have el:YBh .i64 ((nd.length:Int)-1)=(nd.length:Int)-1:=wr6 (by omega) (by omega)
 show Ex (q90 loO nd k a dl)
 simp only[q90,YzP nd k a dl h hs,YwU,ea,el]
 by_cases h0:(nd.length:Int)=0
 ·rw[cT _ _ h0];exact .some (by omega)
 rw[cF _ _ h0]
 have hi:0<=a.tmod (nd.length:Int)/\a.tmod (nd.length:Int)< (nd.length:Int):=⟨Int.tmod_nonneg _ ha.1,Int.tmod_lt_of_pos _ (by omega)⟩
 have hn:=hs _ (gmem nd ((0:Int),[]) (a.tmod (nd.length:Int)).toNat (by omega))
 generalize a.tmod (nd.length:Int)=i at*
 refine .chk h0 (.chk hi (.chk (by omega) (.cond (.some (by rw[YAm];omega)) ?_)))
 refine .cond (.pos (fun hp=>.chk (by omega) (.chk (by omega) (.some (by rw[YAm];omega)))) (.some (by omega))) ?_
 refine .cond (.pos (fun hp=>.chk (by omega) (.chk (by omega) (.some (by rw[YAm];omega)))) (.some (by omega))) ?_
 refine .cond (.some (by rw[YAm];omega)) ?_
 refine .cond (.chk (by simp only[YAy];omega) (.chk trivial (.some (by rw[YAm];omega)))) ?_
 refine .cond (.chk (by omega) (.some (by rw[YAu,YAy];omega))) ?_
 exact .cond (.chk (by repeat' (first|apply And.intro|trivial|omega)) (.some (by rw[List.length_take];omega))) (.some (by omega))
theorem Ynn(lo:Lo): ∀n x y,Ybl lo n x=some y->Ybl lo (n+1) x=some y
 |0,_,_,h=>by cases h
 |n+1,x,y,h=>by
  have ih:=Ynn lo n
  have h':Ybk lo (Ybl lo n) x.1 x.2.1 x.2.2.1 x.2.2.2.1 x.2.2.2.2=some y:=h
  show Ybk lo (Ybl lo (n+1)) x.1 x.2.1 x.2.2.1 x.2.2.2.1 x.2.2.2.2=some y
  unfold Ybk at h'⊢
  clear h
  have h:=h'
  clear h'
  repeat' (first|with_reducible exact h| (refine YzO h (fun h=> ?_) fun h=> ?_)| (refine chkm h fun h=> ?_)| (refine YzM h fun _ h=> ?_)| (refine YzN h (ih _) fun _ h=> ?_))
theorem Yno{w:List Int}{es:List (List Int)}(h8:In8 w es){m:Int}(h:LB w es (2^w.length) m)(X:Nat->Bool)(hX:Hit es X):0<=m/\m<=wt w X:=by
 obtain⟨b,hb,hbit⟩:=YgV X w.length
 have:=Ywp h (subB b w.length) (YdO _ _) (fun v hv=>by have:=(YdN _ _ _).1 hv;omega) (YAn.2 fun e he=>by
  obtain⟨v,h1,h2⟩:=hX e he
  have hr:=(h8.ev e he).2.2 v h1
  exact YAE.2 ⟨v,h1,decide_eq_true ((YdN _ _ _).2 ⟨hr.1,hr.2,by rw[hbit _ (by omega)];exact h2⟩)⟩)
 refine⟨this.1,?_⟩
 have e:wt w X=sumw w (subB b w.length):=by
  rw[Ym9]
  exact YcE fun v hv=>by rw[hbit v hv]
 omega
theorem YwQ{w:List Int}{es:List (List Int)}(h8:In8 w es){m:Int}(h:LB w es (2^w.length) m):0<=m/\m<=1000/\ ∃nd,q87 loO w es m 10000=some (nd,0)/\nd.length<=600/\ (∀n∈nd,n.2.length<=12)/\Yyk w es m nd=true:=by
 have hwl:=h8.wl
 have hmx:maxEl>=100000:=by decide
 have hm0:Mk w.length (List.replicate w.length 0):=⟨by simp,fun v hv=>by simp[YAj,hv]⟩
 have hg0: ∀v,v<w.length->(List.replicate w.length (0:Int)).getD v 0=0:=fun v hv=>by simp[YAj,hv]
 have hop:opc w.length (List.replicate w.length 0)<=((w.length:Nat):Int):=by
  have: ∀n,sg n (fun _=>1)=(n:Int):=by
   intro n
   induction n with
   |zero=>rfl
   |succ n ih=>rw[YaZ,ih];omega
  rw[<-this w.length]
  exact YbC fun v hv=>by split<;>omega
 have hall:=Yno h8 h (fun _=>true) (fun e he=>by
  obtain⟨h1,_,_⟩:=h8.ev e he
  cases e with
  |nil=>exact absurd rfl h1
  |cons a r=>exact⟨a,by simp,rfl⟩)
 have hub:wt w (fun _=>true)<=160:=by
  have h20: ∀n,sg n (fun _=>20)=20*(n:Int):=by
   intro n
   induction n with
   |zero=>rfl
   |succ n ih=>rw[YaZ,ih];omega
  have:wt w (fun _=>true)<=sg w.length (fun _=>20):=YbC fun v hv=>by
   rw[if_pos rfl];exact(h8.wv _ (gmem w 0 v hv)).2
  rw[h20]at this
  omega
 have h512:(2:Int)^(w.length+1)<=512:=by
  have a1:(2:Int)^(w.length+1)=((2^(w.length+1):Nat):Int):=by simp
  have a2:2^(w.length+1)<=2^9:=Nat.pow_le_pow_right (by decide) (by omega)
  rw[a1]
  have a3:(2:Nat)^9=512:=rfl
  omega
 obtain⟨nd,lf',r1,r2,r3,r4,r5,r6,r7⟩:=Yg7 h8 w.length (0+(w.length+1)) (List.replicate w.length 0) 10000 m (by omega) hm0 hop hwl (by omega) (by omega) (by omega) (by omega) (fun X hC hh=>by
  have:=(Yno h8 h X hh).2
  have e:wt w X=sg w.length (fun v=>if opn (List.replicate w.length 0) X v then w.getD v 0 else 0):=YcE fun v hv=>by
   have:opn (List.replicate w.length 0) X v=X v:=by simp only[opn];rw[hg0 v hv];simp
   rw[this]
  omega)
 have r1':q86 loO m w es 10000 (List.replicate w.length 0)=some (nd,0,w,es,lf',List.replicate w.length 0):=YeS (Ynn loO) r1
 have hnew:q29 loO w es 10000=some (w,es,10000,List.replicate w.length 0):=by
  simp only[q29,YBb]
  rw[chkT _ (by omega)]
 refine⟨hall.1,by omega,nd,?_,by omega,r6,?_⟩
 ·simp only[q87,Ym5 h8,YwU,decide_true,YA8,cond_false,hnew,r1']
  rw[cF _ _ (by omega),cF _ _ (by omega),cF _ _ (by omega),chkT _ trivial]
 ·have h7:=r7 nd.length [] (YAO _)
  rw[List.append_nil]at h7
  unfold Yyk
  rw[if_pos ⟨h8.vi,by simp only[inR,YA7,decide_eq_true_eq];omega⟩,h7]
  rfl
theorem YwR(c d:List Int)(o k a dl:Int)(hc: ∀x∈c,0<=x/\x<=255)(hd: ∀x∈d,0<=x/\x<=65535)(ha:0<=a/\a<=255):q91 loO c d o k a dl=some true:=by
 obtain⟨w,es,ok,h1,h2⟩:=Ywq c d hc hd
 cases ok with
 |false=>simp only[q91,h1,aw,YwU,YA8,Bool.not_false,cond_false,cond_true]
 |true=>
  have h8:=h2 rfl
  obtain⟨m,m1,m2⟩:=Ywo h8
  obtain⟨q1,q2,nd,q3,q4,q5,q6⟩:=YwQ h8 m2
  obtain⟨z,z1,z2⟩:=YwP nd k a dl q4 q5 ha
  simp only[q91,h1,aw,YwU,YA8,cond_false,m1,q3,decide_true,YwH h8 h8.vi,YwL h8 h8.vi _ z (by omega),q6,z1,cond_true]
  rw[YwF]
  simp
theorem check_fin(x:List Int×List Int×Int×Int×Int×Int)(hr:(cs [.l (cs [.i .u8]),.l (cs [.i .u16]),.i .i8,.i .u8,.i .u8,.i .i8]).rng x):q91 loO x.1 x.2.1 x.2.2.1 x.2.2.2.1 x.2.2.2.2.1 x.2.2.2.2.2=some true:=
 YwR x.1 x.2.1 x.2.2.1 x.2.2.2.1 x.2.2.2.2.1 x.2.2.2.2.2 (fun v hv=>Ym8 (hr.1 v hv).1) (fun v hv=>Ywu (hr.2.1 v hv).1) (Ym8 hr.2.2.2.2.1)
end Go.Abs.G39
