/- Functions of this seat's program whose contracts are walked by hand: strconv.ParseUint, FormatUint. No condition. -/
import Derived.Test.YtppagmmeofoekaaGreatDoorL
import Derived.Test.YtppagmmeofoekaaGreatDoorB
import Derived.Lib.AppendIntMem
import Derived.RangeFuncNested
import Derived.RangeFuncBound
import Derived.RangeFuncCalls
import Derived.RangeFuncLeaves
import Derived.Shelf.Abstract
import Derived.Shelf.RegionOpen
import Derived.WalkKit
import Derived.OwnWalkIn
import Derived.TacticsInMore
import Derived.LoopNIn
import Derived.LoopIn
import Derived.Test.YtppagmmeofoekaaGreatDoorP
import Derived.Shelf.Strings.Search3
import Derived.Maps.OwnIn
import Derived.Shelf.Vars
import Derived.Stop.LaidErr
set_option linter.unusedVariables false
set_option linter.unusedSimpArgs false
set_option linter.unusedSectionVars false
open List renaming getElem?_eq_some_iff → Yw6, mem_of_getElem? → Yw7, getElem?_eq_getElem → Yw8, getElem?_map → Yw9, map_cons → Yxa, getElem?_append_left → Yxb, length_append → Yxc, mem_cons → Yxg, length_cons → Yxh, getElem?_append_right → Yxi, length_eq_zero_iff → Yxj, length_map → Yxk, length_singleton → Yxn, mem_map → Yxo, cons_append → Yxp, append_assoc → Yxq, nil_append → Yxr, getElem?_take → Yxs, length_nil → Yxu, getElem?_eq_none → Yxv, map_map → Yxw, append_nil → Yxz, mem_append → YxC, mem_iff_getElem → YxD, mem_singleton → YxF, getElem?_replicate → YxG
open Nat renaming le_refl → YxI, le_trans → YxM, lt_of_lt_of_le → YxN, zero_add → YxO
open Option renaming map_eq_some_iff → YxV, bind_some → YxX, getD_some → YxZ, bind_eq_some_iff → Yx0
open Array renaming getElem?_eq_some_iff → Yx5, getD_eq_getD_getElem? → Yx6, getElem?_eq_getElem → Yx8
open ByteArray renaming mk → Yx9
namespace Go.Proofs
open Go.Shelf Go.RowKit Go.Abs
theorem YkN{fm:FM}{w:World}(htw:TabW fm w){g:Nat}{q:Array Value->Prop}(h:(g,q)∈fm.tb)(hq: ∀c,q c->YuX c): ∃t p,w.cell? ⟨g,0,none⟩=some (.iface t p):=by
  obtain⟨c,t,fr,h7,h8⟩:=htw _ h
  obtain⟨te,p,rfl⟩:=hq c h7
  exact⟨te,p,by rw[Lib.cell_of_heap h8];rfl⟩
theorem Tryz.puintI(s:ByteArray)(hs:s.size<=281474976710656)(w:World):Calls Tryz.prog 65 #[.string s,.int .i64 10,.int .i64 32] w fun e w'=>e= .returned (Lib.uintTupleM 113 4294967295 (Lib.parseUintB 32 s.data.toList))/\Below w.heap.size w w':=by
  by_cases h0:s.size=0
  ·have:s=⟨#[]⟩:=by
      obtain⟨⟨l⟩⟩:=s
      cases l with
      |nil=>rfl
      |cons _ _=>simp[ByteArray.size]at h0
   subst this
   refine(Any.internal_strconv_ParseUint_empty (ρ:=Tryz.laysC174_ren) {Tryz.laysC174 with} 10 32 w).mono ?_
   rintro e w' ⟨rfl,rfl⟩
   exact⟨rfl,Below.refl _ _⟩
  ·refine(Any.internal_strconv_ParseUint_10_b32 (ρ:=Tryz.laysC174_ren) {Tryz.laysC174 with} s h0 (by omega) w).mono ?_
   rintro e w' ⟨rfl,rfl⟩
   have hne:s.data.toList≠ []:=fun h=>h0 (by rw[Lib.size_eq,h];rfl)
   refine⟨?_,Lib.bytesWorld_below _ _ _⟩
   rw[Lib.parseUintB,if_neg hne]
   rfl
set_option maxHeartbeats 4000000 in
set_option maxRecDepth 100000 in
theorem Tryz.puint{fm:FM}{q q':Array Value->Prop}(h1:(4,q)∈fm.tb)(hq: ∀c,q c->YuX c)(h2:(5,q')∈fm.tb)(hq': ∀c,q' c->YuX c):NumC Tryz.prog fm 47 .u64 32 YtR:=by
  intro s w hs htw
  have mixed:=Tryz.laysC174.mixed
  have t52:=Tryz.underlying52;have a52:=Tryz.isAgg52;have z52:=Tryz.sizeOf52;have v52:=Tryz.zeroValue52
  have t76:=Tryz.underlying76;have a76:=Tryz.isAgg76;have z76:=Tryz.sizeOf76;have v76:=Tryz.zeroValue76
  have t9:=Tryz.underlying9;have a9:=Tryz.isAgg9;have z9:=Tryz.sizeOf9;have v9:=Tryz.zeroValue9
  have t3:=Tryz.underlying3;have a3:=Tryz.isAgg3;have z3:=Tryz.sizeOf3;have v3:=Tryz.zeroValue3
  have t4:=Tryz.underlying4;have a4:=Tryz.isAgg4;have z4:=Tryz.sizeOf4;have v4:=Tryz.zeroValue4
  have e65: ∀args w,(callFunc 65 args).run Tryz.prog w= .ok (.enter 65 args) w:=enters_of Tryz.func65 (by kernel_rfl) rfl
  have e64: ∀args w,(callFunc 64 args).run Tryz.prog w= .ok (.enter 64 args) w:=enters_of Tryz.func64 (by kernel_rfl) rfl
  have hI:=Tryz.puintI s hs w
  unfold YtR
  cases h:Lib.parseUintB 32 s.data.toList with
  |ok v=>
   rw[h]at hI
   have hI:Calls Tryz.prog 65 #[.string s,.int .i64 10,.int .i64 32] w fun e w'=>e= .returned (.tuple #[.int .u64 v,.nilIface])/\Below w.heap.size w w':=hI
   clear h
   go_enter Tryz.func47,Tryz.ntmps47
   go_wp2_with (go_at_fn 65;refine hI.mono ?_;rintro e W1 ⟨rfl,hW⟩)
   go_wp2
   go_ret2
   exact⟨⟨_,rfl,.inr ⟨by first|rfl|trivial,by first|rfl|trivial⟩⟩,hW⟩
  |range=>
   obtain⟨t,p,hc⟩:=YkN htw h2 hq'
   rw[h]at hI
   have hI:Calls Tryz.prog 65 #[.string s,.int .i64 10,.int .i64 32] w fun e w'=>e= .returned (.tuple #[.int .u64 (4294967295),.iface 113 (.int .i64 1)])/\Below w.heap.size w w':=hI
   clear h
   have hG:5<w.heap.size:=Lib.lt_of_cell hc
   go_enter Tryz.func47,Tryz.ntmps47
   go_wp2_with (go_at_fn 65;refine hI.mono ?_)
   rintro e W1 ⟨rfl,hb1⟩
   have hv1:W1.cell? ⟨5,0,none⟩=some (.iface t p):=(hb1.cell (show(⟨5,0,none⟩:Addr).block<w.heap.size from hG)).trans hc
   go_wp2_with (go_at_fn 64;refine(Any.strconv_toError_range (ρ:=Tryz.laysC174_ren) {Tryz.laysC174 with} ⟨#[80,97,114,115,101,85,105,110,116]⟩ s 10 32 (.iface t p) _ hs ?_ (.inr ⟨_,_,rfl⟩)).mono ?_)
   ·exact hv1
   rintro e W2 ⟨N,rfl,h1,h2,h3⟩
   go_wp2
   go_ret2
   exact⟨⟨_,rfl,.inl ⟨by first|rfl|trivial,_,_,rfl⟩⟩,hb1.trans (h3.mono hb1.size)⟩
  |_=>
   obtain⟨t,p,hc⟩:=YkN htw h1 hq
   rw[h]at hI
   have hI:Calls Tryz.prog 65 #[.string s,.int .i64 10,.int .i64 32] w fun e w'=>e= .returned (.tuple #[.int .u64 (0),.iface 113 (.int .i64 2)])/\Below w.heap.size w w':=hI
   clear h
   have hG:4<w.heap.size:=Lib.lt_of_cell hc
   go_enter Tryz.func47,Tryz.ntmps47
   go_wp2_with (go_at_fn 65;refine hI.mono ?_)
   rintro e W1 ⟨rfl,hb1⟩
   have hv1:W1.cell? ⟨4,0,none⟩=some (.iface t p):=(hb1.cell (show(⟨4,0,none⟩:Addr).block<w.heap.size from hG)).trans hc
   go_wp2_with (go_at_fn 64;refine(Any.strconv_toError_syntax (ρ:=Tryz.laysC174_ren) {Tryz.laysC174 with} ⟨#[80,97,114,115,101,85,105,110,116]⟩ s 10 32 (.iface t p) _ hs ?_ (.inr ⟨_,_,rfl⟩)).mono ?_)
   ·exact hv1
   rintro e W2 ⟨N,rfl,h1,h2,h3⟩
   go_wp2
   go_ret2
   exact⟨⟨_,rfl,.inl ⟨by first|rfl|trivial,_,_,rfl⟩⟩,hb1.trans (h3.mono hb1.size)⟩
end Go.Proofs
namespace Go.Proofs
open Go.Shelf Go.RowKit Go.Abs Go.Sort
set_option maxHeartbeats 6400000 in
set_option maxRecDepth 100000 in
theorem Tryz.fuI(u:Nat)(hu64:u<18446744073709551616)(w:World)(htab:Lib.TabIs Tryz.prog w "internal/strconv.uint64pow10" .u64 Lib.pow10Tab):
    Calls Tryz.prog 56 #[.int .u64 u,.int .i64 10] w fun e w'=>e= .returned (.string ⟨(Lib.decDigits u).toArray⟩)/\Below w.heap.size w w':=by
  have L:=Tryz.laysM171
  have mixed:=L.mixed
  have t76:=Tryz.underlying76;have a76:=Tryz.isAgg76;have z76:=Tryz.sizeOf76;have v76:=Tryz.zeroValue76
  have t9:=Tryz.underlying9;have a9:=Tryz.isAgg9;have z9:=Tryz.sizeOf9;have v9:=Tryz.zeroValue9
  have t3:=Tryz.underlying3;have a3:=Tryz.isAgg3;have z3:=Tryz.sizeOf3;have v3:=Tryz.zeroValue3
  have t4:=Tryz.underlying4;have a4:=Tryz.isAgg4;have z4:=Tryz.sizeOf4;have v4:=Tryz.zeroValue4
  have t5:=Tryz.underlying5;have a5:=Tryz.isAgg5;have z5:=Tryz.sizeOf5;have v5:=Tryz.zeroValue5
  have t0:=Tryz.underlying0;have a0:=Tryz.isAgg0;have z0:=Tryz.sizeOf0;have v0:=Tryz.zeroValue0
  have t48:=Tryz.underlying48;have a48:=Tryz.isAgg48;have z48:=Tryz.sizeOf48;have v48:=Tryz.zeroValue48
  have t106:=Tryz.underlying106;have a106:=Tryz.isAgg106;have z106:=Tryz.sizeOf106;have v106:=Tryz.zeroValue106
  have e70: ∀args w,(callFunc 70 args).run Tryz.prog w= .ok (.enter 70 args) w:=enters_of Tryz.func70 (by kernel_rfl) rfl
  have e71: ∀args w,(callFunc 71 args).run Tryz.prog w= .ok (.enter 71 args) w:=enters_of Tryz.func71 (by kernel_rfl) rfl
  have e72: ∀args w,(callFunc 72 args).run Tryz.prog w= .ok (.enter 72 args) w:=enters_of Tryz.func72 (by kernel_rfl) rfl
  by_cases hs:u<100
  ·go_enter Tryz.func56,Tryz.ntmps56
   go_wp2_with (go_at_fn 70;refine(Any.internal_strconv_small (ρ:=Tryz.laysM171_ren) {Tryz.laysM171 with} u hs _).mono ?_;rintro e w' ⟨rfl,rfl⟩)
   go_ret
   exact⟨rfl,Below.refl _ _⟩
  ·have hu1:1<=u:=by omega
   have hnd20:Lib.nDigits u<=20:=by have:=Lib.numDigits_eq u hu1 hu64;split at this<;>omega
   have hb3:Lib.nDigits u<=24:=by omega
   have hal:Tryz.prog.arrayLen 106=24:=by kernel_rfl
   have hsl1: ∀W,(Instr.sliceAt 106 (.pointer (some ⟨w.heap.size,0,none⟩)) none (some (.int .i64 (Lib.nDigits u:Int))) none).run Tryz.prog W= .ok (.slice (some ⟨w.heap.size,0,none⟩) (Lib.nDigits u) 24) W:=fun W=>by
     rw[run_sliceAt_array_h W 106 ⟨w.heap.size,0,none⟩ (by simp[Program.arrayLen,Program.elem,t106]) .i64 (Lib.nDigits u:Int) (by omega) (by rw[hal];omega)]
     go_simp
   have hH0:=Lib.holds_zero0 w 106 (Lib.nDigits u) (by omega)
   have hfmt:=Any.internal_strconv_formatBase10 (ρ:=Tryz.laysM171_ren) {Tryz.laysM171 with} w.heap.size 0 24 u (Array.replicate (Lib.nDigits u) 0) (w.alloc (.cells Lib.zeros24 106)) hH0 (by rw[Array.size_replicate];exact Lib.lt_pow_nDigits u) hu64 (by rw[Array.size_replicate];omega)
   rw[Array.size_replicate]at hfmt
   have HH0:=Lib.hid hH0
   clear hH0 hal
   go_enter Tryz.func56,Tryz.ntmps56
   go_wp2_with (first
     | (go_at_fn 71;refine(Any.internal_strconv_numDigits (ρ:=Tryz.laysM171_ren) {Tryz.laysM171 with} u hu1 hu64 _ (Lib.tabIs_alloc htab _)).mono ?_;rintro e w' ⟨rfl,rfl⟩))
   go_at_fn 72
   refine hfmt.mono ?_
   rintro e w' ⟨rfl,k,v',dk,rfl,hF⟩
   have hcv:(convert 48 9 (.slice (some ⟨w.heap.size,0,none⟩) (Lib.nDigits u) 24)).run Tryz.prog ((putRow (fun(b:UInt8)=>Value.int .u8 (b.toNat:Int)) (w.alloc (.cells Lib.zeros24 106)) w.heap.size 0 dk).drewN k)= .ok (.string ⟨(Lib.decDigits u).toArray⟩) ((putRow (fun(b:UInt8)=>Value.int .u8 (b.toNat:Int)) (w.alloc (.cells Lib.zeros24 106)) w.heap.size 0 dk).drewN k):=by
     have h:=run_convert_bytes_back (P:=Tryz.prog) ((putRow (fun(b:UInt8)=>Value.int .u8 (b.toNat:Int)) (w.alloc (.cells Lib.zeros24 106)) w.heap.size 0 dk).drewN k) 48 9 5 ⟨w.heap.size,0,none⟩ 24 (Lib.decDigits u) t48 t5 t9 (fun j hj=>by
       rw[Lib.row_is_numeral hF j hj,Lib.add_plain,World.cell?_drewN]
       exact cell?_putRow (fun(b:UInt8)=>Value.int .u8 (b.toNat:Int)) _ w.heap.size 0 _ dk HH0.out (by rw[hF.size,Array.size_replicate]) j (by rw[hF.size];rw[Lib.decDigits_length]at hj;exact hj))
     rw[Lib.decDigits_length]at h
     exact h
   go_wp2
   go_ret
   obtain⟨os,eo⟩:=Lib.fin_at w (.cells Lib.zeros24 106) dk k 0
   refine⟨rfl,?_⟩
   rw[eo]
   exact Lib.below_grow _ _ (YxI _) _ _
set_option maxRecDepth 100000 in
theorem Tryz.fu{fm:FM}{q:Array Value->Prop}(h1:(0,q)∈fm.tb)(hq: ∀c,q c->c=YuH):FuC Tryz.prog fm 39:=by
  intro u w hu htw
  have mixed:=Tryz.laysM171.mixed
  have t76:=Tryz.underlying76;have a76:=Tryz.isAgg76;have z76:=Tryz.sizeOf76;have v76:=Tryz.zeroValue76
  have t9:=Tryz.underlying9;have a9:=Tryz.isAgg9;have z9:=Tryz.sizeOf9;have v9:=Tryz.zeroValue9
  have t3:=Tryz.underlying3;have a3:=Tryz.isAgg3;have z3:=Tryz.sizeOf3;have v3:=Tryz.zeroValue3
  have e56: ∀args w,(callFunc 56 args).run Tryz.prog w= .ok (.enter 56 args) w:=enters_of Tryz.func56 (by kernel_rfl) rfl
  have htab:Lib.TabIs Tryz.prog w "internal/strconv.uint64pow10" .u64 Lib.pow10Tab:=by
    obtain⟨c,t,f,h4,h3⟩:=htw _ h1
    obtain rfl:=hq c h4
    have hm:Tryz.prog.globalNamed "internal/strconv.uint64pow10" =some 0:=Tryz.laysM171.m17
    simp only[Lib.TabIs,World.var?,hm,YxX,h3,YuH]
  go_enter Tryz.func39,Tryz.ntmps39
  go_wp2_with (go_at_fn 56;refine(Tryz.fuI u hu w htab).mono ?_;rintro e w' ⟨rfl,hb⟩)
  go_ret
  exact⟨rfl,hb⟩
end Go.Proofs
namespace Go.Abs
open Go Go.RowKit
inductive Bk(n:Nat):World->World->Prop
  |new (W:World) (o:Obj) (h:n<=W.heap.size):Bk n W (W.alloc o)
  |put (W:World) (l:Nat) (r r':Loop) (hl:n<=l) (h:W.heap[l]?=some (.loop r)):Bk n W (W.putObj l (.loop r'))
def SeqT{α:Type}(n:Nat)(P:Program)(g:Nat)(lb:Array Value)(encs:α->Array Value)(Kp T:World->World->Prop)(xs:List α)(w:World):Prop:=
  ∀(l:Nat) (J:List α->World->Prop) (Jx:World->Prop),(∀p A B,T A B->J p A->J p B)->
   (∀p x A,p++[x]<+:xs->J p A->YieldAt Fence.wide (n-1) P l (encs x) A fun e B=>(e= .returned (.bool true)/\J (p++[x]) B/\Kp A B)\/(e= .returned (.bool false)/\Jx B))->
   ∀W,Kp w W->J [] W->CallsIn Fence.wide n P g (#[.func (.yield l) #[] #[]]++lb) W fun e W'=>(∃v,e= .returned v)/\ (J xs W'\/Jx W')
def roundEnd(n:Nat)(Kp:World->World->Prop)(I:World->Prop)(Ir:World->Prop)(W:World):Exit->Act->World->Prop
  | .normal,_,W'=>KeepsFrom n W W'/\Kp W W'/\I W'
  | .ret,_,W'=>KeepsFrom n W W'/\Ir W'
  |_,_,_=>False
theorem YsT{P:Program}{n:Nat}{α:Type}{g:Operand}{ps:Array Tmp}{assign body:Code}{Q:Exit->Act->World->Prop}{a:Act}{w:World}{gf:Nat}{lb:Array Value}
    (hg:a.eval g= .func (.func gf) #[] lb) (eg: ∀args w,(callFunc gf args).run P w= .ok (.enter gf args) w)
    {encs:α->Array Value} {xs:List α} {Kp T:World->World->Prop} (hseq:SeqT (n-1) P gf lb encs Kp T xs w) (hps: ∀x,(encs x).size=ps.size)
    (hKt: ∀{A B C:World},Kp A B->Kp B C->Kp A C) (hKb: ∀A B,Bk w.heap.size A B->Kp A B)
    (hT: ∀A B,T A B-> ∀(k:Nat) (o:Obj),w.heap.size<=k->A.heap[k]?=some o->B.heap[k]?=some o)
    (I:List α->World->Prop) (Ir:World->Prop) (hIb: ∀p A B,Bk w.heap.size A B->I p A->I p B) (hIT: ∀p A B,T A B->I p A->I p B) (hIrb: ∀A B,Bk w.heap.size A B->Ir A->Ir B)
    (h0:I [] w) (a₁:α->Act)
    (hassign: ∀(l:Nat) (x:α) (W:World) (K:Act->World->Prop),K (a₁ x) W->
      assign.wpIn (Fence.wide.inRound l) (n-1-1) P (Exit.then K (fun _ _ _=>False)) {tmps:=(ps.zip (encs x)).foldl (fun t (p,v)=>t.setIfInBounds p v) a.tmps,defers:=[]} W)
    (hbody: ∀(l:Nat) (p:List α) (x:α) (W:World),p++[x]<+:xs->I p W->body.wpIn (Fence.wide.inRound l) (n-1-1) P (roundEnd w.heap.size Kp (I (p++[x])) Ir W) (a₁ x) W)
    (hdone: ∀(D:Nat) (W:World),w.heap.size<=D->I xs W->W.heap[D]?=some (.deferred (some []))->Q .normal {a with defers:={target:=.collected D,args:= #[]}::a.defers} W)
    (hstop: ∀(D:Nat) (W:World),w.heap.size<=D->Ir W->W.heap[D]?=some (.deferred (some []))->Code.ret.wpIn Fence.wide n P Q {a with defers:={target:=.collected D,args:= #[]}::a.defers} W):
    (Code.rangeFunc g ps assign body).wpIn Fence.wide n P Q a w:=by
  refine wpIn_rangeFunc fun fn hfn=> ?_
  let rc:LoopState->Option Code->Loop:=fun st pe=>{state:=st,pending:=pe,fn,tmps:=a.tmps,params:=ps,assign,body,defers:=w.heap.size}
  let D:=w.heap.size
  let l:=w.heap.size+1
  let Bks:Loop->World->Prop:=fun r W=>W.heap[l]?=some (.loop r)/\W.heap[D]?=some (.deferred (some []))
  have bput: ∀{r r':Loop} {W:World},Bks r W->Bks r' (W.putObj l (.loop r')):=fun{r r' W} h=>
    ⟨World.putObj_heap_same (Yx5.1 h.1).1,(World.putObj_heap_other (show D≠l by simp only[D,l];omega)).trans h.2⟩
  have bkeep: ∀{r:Loop} {A B:World},KeepsFrom w.heap.size A B->Bks r A->Bks r B:=fun hk h=>⟨hk.same _ _ (by simp only[l];omega) h.1 rfl,hk.same _ _ (YxI _) h.2 rfl⟩
  have hle:w.heap.size<=l:=Nat.le_succ _
  obtain⟨W1,hW1⟩: ∃W1,(w.alloc (.deferred (some []))).alloc (.loop (rc .ready none))=W1:=⟨_,rfl⟩
  have s1:Bk w.heap.size w (w.alloc (.deferred (some []))):=.new _ _ (YxI _)
  have s2:Bk w.heap.size (w.alloc (.deferred (some []))) W1:=hW1▸ .new _ _ (by rw[World.size_alloc];omega)
  have hB1:Bks (rc .ready none) W1:=by
    have e:=World.alloc_heap_new (w.alloc (.deferred (some []))) (.loop (rc .ready none))
    rw[World.size_alloc,hW1]at e
    refine⟨e,?_⟩
    rw[<-hW1];exact(Below.heap_alloc _ _ _ (by simp[D])).trans (World.alloc_heap_new w _)
  refine⟨l,[{target:=.collected D,args:= #[]}],W1,{target:=.fn (.func gf) lb,args:= #[.func (.yield l) #[] #[]]},W1,gf, #[.func (.yield l) #[] #[]]++lb,W1,?_,?_,?_,?_,(fun h=>by cases h),?_⟩
  ·rw[<-hW1];exact run_enterLoop_outer _ _ _ _ _
  ·simp only[resolve,hg]
   simp[go_sem]
  ·intro f' hf';exact trivial
  ·simp[invoke,go_sem,eg]
  ·refine(hseq l (fun p W=>I p W/\Bks (rc .ready none) W) (fun W=>Ir W/\Bks (rc .done (some .ret)) W)
      (fun p A B ht h=>⟨hIT p A B ht h.1,hT _ _ ht _ _ hle h.2.1,hT _ _ ht _ _ (YxI _) h.2.2⟩) ?_ W1 (hKt (hKb _ _ s1) (hKb _ _ s2)) ⟨hIb _ _ _ s2 (hIb _ _ _ s1 h0),hB1⟩).mono ?_
   ·rintro p x W hp ⟨hi,hb⟩
    refine⟨fn,_,assign,body,run_yield (P:=P) (args:=encs x) hb.1 (hps x),roundIn_of_wpIn hfn (hassign _ x W _ ⟨_,run_beginRound hb.1 rfl,?_⟩)⟩
    have t1:Bk w.heap.size W (W.putObj l (.loop {rc .ready none with state:=.busy})):=.put _ _ _ _ hle hb.1
    have hb2:Bks {rc .ready none with state:=.busy} (W.putObj l (.loop {rc .ready none with state:=.busy})):=bput hb
    refine wpIn_mono (hbody l p x _ hp (hIb _ _ _ t1 hi)) ?_
    intro e a3 W3 h3
    cases e with
    |normal=>
     obtain⟨hk,hkp,hi3⟩:=h3
     have hb3:=bkeep hk hb2
     have t2:Bk w.heap.size W3 (W3.putObj l (.loop (rc .ready none))):=.put _ _ _ _ hle hb3.1
     exact⟨_,_,run_endRound (P:=P) none hb3.1,.inl ⟨rfl,⟨hIb _ _ _ t2 hi3,bput hb3⟩,hKt (hKt (hKb _ _ t1) hkp) (hKb _ _ t2)⟩⟩
    |ret=>
     obtain⟨hk,hi3⟩:=h3
     have hb3:=bkeep hk hb2
     have t2:Bk w.heap.size W3 (W3.putObj l (.loop (rc .done (some .ret)))):=.put _ _ _ _ hle hb3.1
     exact⟨_,_,run_endRound (P:=P) (some .ret) hb3.1,.inr ⟨rfl,hIrb _ _ t2 hi3,bput hb3⟩⟩
    |exit id=>exact h3.elim
    |goto t=>exact h3.elim
    |panic ch=>exact h3.elim
    |outgrown=>exact h3.elim
   ·rintro e W2 ⟨⟨v,rfl⟩,(⟨hi,hb⟩| ⟨hi,hb⟩)⟩
    ·have t2:Bk w.heap.size W2 (W2.putObj l (.loop {rc .ready none with state:=.exhausted})):=.put _ _ _ _ hle hb.1
     exact⟨none,_,run_endLoop (P:=P) hb.1 (by simp[rc]),hdone D _ (YxI _) (hIb _ _ _ t2 hi) (bput (r':={rc .ready none with state:=.exhausted}) hb).2⟩
    ·have t2:Bk w.heap.size W2 (W2.putObj l (.loop {rc .done (some .ret)with state:=.exhausted})):=.put _ _ _ _ hle hb.1
     exact⟨some .ret,_,run_endLoop (P:=P) hb.1 (by simp[rc]),hstop D _ (YxI _) (hIrb _ _ t2 hi) (bput (r':={rc .done (some .ret)with state:=.exhausted}) hb).2⟩
end Go.Abs
namespace Go.Proofs
open Go Go.RowKit Go.Shelf Go.Abs Go.Abs.G12
attribute [local go_sem] Oper.semAt_some
theorem YsU(l:List UInt8):(Lib.indexByte l 10= -1/\cutS [10] 10 l=[l])\/ ∃o:Nat,Lib.indexByte l 10=o/\o<l.length/\cutS [10] 10 l=l.take (o+1)::cutS [10] 10 (l.drop (o+1)):=by
  have hge:=Lib.indexByte_ge l 10
  by_cases h:Lib.indexByte l 10= -1
  ·refine .inl ⟨h,YfT _ _ _ fun hm=> ?_⟩
   obtain⟨k,hk,e⟩:=YxD.1 hm
   exact Lib.indexByte_none h k (by rw[Yw8 hk,e])
  ·obtain⟨o,ho⟩: ∃o:Nat,Lib.indexByte l 10=o:=⟨(Lib.indexByte l 10).toNat,by omega⟩
   obtain⟨h1,h2⟩:=Lib.indexByte_some ho
   obtain⟨hlt,h3⟩:=Yw6.1 h1
   refine .inr ⟨o,ho,hlt,?_⟩
   have e:l=l.take o++10::l.drop (o+1):=by rw[<-h3,List.getElem_cons_drop,List.take_append_drop]
   have e2:l.take (o+1)=l.take o++[10]:=by rw[<-h3,List.take_append_getElem]
   rw[e2]
   conv=>lhs;rw[e]
   refine Yem _ _ _ _ fun hm=> ?_
   obtain⟨k,hk,e4⟩:=YxD.1 hm
   rw[List.length_take]at hk
   rw[List.getElem_take]at e4
   exact h2 k (by omega) (by rw[Yw8 (by omega),e4])
def KpB(b:Nat)(A B:World):Prop:= ∀k,b<=k->k<b+3->B.heap[k]?=A.heap[k]?
def TsB(b:Nat)(A B:World):Prop:= ∃s:ByteArray,B=A.setCell ⟨b,0,none⟩ (.string s)
def szB(b:Nat)(W:World):Nat:=match W.cell? ⟨b,0,none⟩with|some (.string s)=>s.size|_=>0
theorem YkW{b:Nat}{W:World}{t:TypeId}{s:ByteArray}(h:Boxed W b t (.string s)):szB b W=s.size:=by simp only[szB,h.cell]
set_option maxRecDepth 100000 in
set_option maxHeartbeats 2000000 in
theorem Tryz.lines(n:Nat)(b:Nat)(t:List UInt8)(w:World)(ht:t.length<=65536)(h1:Boxed w b 9 (.string (bs t)))(h2:Boxed w (b+1) 9 (.string (bs [10])))(h3:Boxed w (b+2) 3 (.int .i64 1)):
    SeqT n Tryz.prog 58 #[.pointer (some ⟨b+1,0,none⟩),.pointer (some ⟨b,0,none⟩),.pointer (some ⟨b+2,0,none⟩)] (fun x:List UInt8=> #[.string (bs x)]) (KpB b) (TsB b) (cutS [10] 10 t) w:=by
  intro l J Jx hJ hY W hW hJ0
  have h1:Boxed W b 9 (.string (bs t)):=(hW b (YxI _) (by omega)).trans h1
  have h2:Boxed W (b+1) 9 (.string (bs [10])):=(hW _ (by omega) (by omega)).trans h2
  have h3:Boxed W (b+2) 3 (.int .i64 1):=(hW _ (by omega) (by omega)).trans h3
  have hc1:=h1.cell;have hc2:=h2.cell;have hc3:=h3.cell
  refine callsIn_of_wp Tryz.func58 rfl trivial ?_ rfl
  simp only[Tryz.ntmps58,List.size_toArray,Yxh,Yxu,Nat.reduceAdd,Nat.reduceSub,Array.replicate_succ,Array.replicate_zero,List.push_toArray,List.append_toArray,Yxr,Yxp]
  gi_wp2
  gi_loopw [] (fun wr=> ∃(pre:List (List UInt8)) (rest:List UInt8),cutS [10] 10 t=pre++cutS [10] 10 rest/\rest.length<=65536/\Boxed wr b 9 (.string (bs rest))/\Boxed wr (b+1) 9 (.string (bs [10]))/\Boxed wr (b+2) 3 (.int .i64 1)/\J pre wr)
    (szB b)
  case atStart=>exact⟨[],t,rfl,ht,h1,h2,h3,hJ0⟩
  case round=>
    clear hc1 hc2 hc3 h1 h2 h3 hW hJ0 W
    obtain⟨pre,rest,hx,hr,h1,h2,h3,hJr⟩:=hrel
    have hc1:=h1.cell;have hc2:=h2.cell;have hc3:=h3.cell
    have hI:=callsIn_wide (n:=n-1).2 (Any.strings_Index_one (ρ:=Tryz.lays146_ren) {Tryz.lays146 with} (bs rest) 10 wr)
    rcases YsU rest with⟨e1,e2⟩| ⟨o,e1,e2,e3⟩
    ·rw[show(bs rest).data.toList=rest from rfl,e1]at hI
     obtain⟨fn,tmps,assign,body,hy,hR⟩:=hY pre rest wr (by rw[hx,e2];exact List.prefix_refl _) hJr
     gi_wp2_with (refine⟨trivial,(fun h=>by cases h),?_⟩;refine CallsIn.mono (show CallsIn Fence.wide (n-1) Tryz.prog 60 #[.string (bs rest),.string (bs [10])] wr _ from hI) ?_;rintro e w' ⟨rfl,rfl⟩)
     refine⟨(fun h=>by cases h),hR.mono ?_⟩
     rintro e W' (⟨rfl,hJ',hk⟩| ⟨rfl,hJ'⟩)
     ·gi_wp2
      go_end0
      exact⟨⟨_,rfl⟩,.inl (by rw[hx,e2];exact hJ')⟩
     ·gi_wp2
      go_end0
      exact⟨⟨_,rfl⟩,.inr hJ'⟩
    ·rw[show(bs rest).data.toList=rest from rfl,e1]at hI
     have hsz:(bs rest).size=rest.length:=rfl
     have ex1:(bs rest).extract 0 (o+1)=bs (rest.take (o+1)):=by
       refine ByteArray.ext (Array.toList_inj.1 ?_)
       simp[ByteArray.data_extract,bs]
     have ex2:(bs rest).extract (o+1) rest.length=bs (rest.drop (o+1)):=by
       refine ByteArray.ext (Array.toList_inj.1 ?_)
       simp only[ByteArray.data_extract,bs,Array.toList_extract,List.extract_eq_take_drop]
       rw[List.take_of_length_le (by simp)]
     have hs1:(bs [10]).size=1:=rfl
     obtain⟨fn,tmps,assign,body,hy,hR⟩:=hY pre (rest.take (o+1)) wr (by rw[hx,e3];exact⟨cutS [10] 10 (rest.drop (o+1)),by simp⟩) hJr
     gi_wp2_with (refine⟨trivial,(fun h=>by cases h),?_⟩;refine CallsIn.mono (show CallsIn Fence.wide (n-1) Tryz.prog 60 #[.string (bs rest),.string (bs [10])] wr _ from hI) ?_;rintro e w' ⟨rfl,rfl⟩)
     refine⟨(fun h=>by cases h),hR.mono ?_⟩
     rintro e W' (⟨rfl,hJ',hk⟩| ⟨rfl,hJ'⟩)
     ·have k1:Boxed W' b 9 (.string (bs rest)):=(hk b (YxI _) (by omega)).trans h1
      have k2:Boxed W' (b+1) 9 (.string (bs [10])):=(hk _ (by omega) (by omega)).trans h2
      have k3:Boxed W' (b+2) 3 (.int .i64 1):=(hk _ (by omega) (by omega)).trans h3
      have c1:=k1.cell;have c2:=k2.cell;have c3:=k3.cell;have f1:=k1.frozen
      gi_wp2
      have m1:Boxed (W'.setCell ⟨b,0,none⟩ (.string (bs (rest.drop (o+1))))) b 9 (.string (bs (rest.drop (o+1)))):=k1.set _
      have hrel:cutS [10] 10 t=(pre++[rest.take (o+1)])++cutS [10] 10 (rest.drop (o+1)):=by rw[hx,e3,Yxq];rfl
      have m2:Boxed (W'.setCell ⟨b,0,none⟩ (.string (bs (rest.drop (o+1))))) (b+1) 9 (.string (bs [10])):=k2.kept (grownBy_setCell' _ _ _) (fun e=>by injection e;omega)
      have m3:Boxed (W'.setCell ⟨b,0,none⟩ (.string (bs (rest.drop (o+1))))) (b+2) 3 (.int .i64 1):=k3.kept (grownBy_setCell' _ _ _) (fun e=>by injection e;omega)
      have hl:(rest.drop (o+1)).length<rest.length:=by rw[List.length_drop];omega
      refine⟨⟨_,_,_,_,_,_,_,_,_,_,_,_,_,_,_,_,_,_,_,_,_,_,⟨pre++[rest.take (o+1)],rest.drop (o+1),hrel,by omega,m1,m2,m3,hJ _ _ _ ⟨_,rfl⟩ hJ'⟩,rfl⟩,?_⟩
      rw[YkW m1,YkW h1,hsz]
      exact hl
     ·gi_wp2
      refine bodyPost_ret (results_none rfl _ _ _) rfl ?_
      exact⟨⟨_,rfl⟩,.inr hJ'⟩
end Go.Proofs
namespace Go.Abs
open Go Go.RowKit
theorem Yde{fm:FM}{W W':World}{L L':Nat->Loc}(hs:W.heap.size<=W'.heap.size)(hk: ∀(b:Nat) (o:Obj),W.heap[b]?=some o->o.isCells=true-> ¬YtT L b->W'.heap[b]?=some o)
    (hmv: ∀b,b<W.heap.size-> ¬YtT L b-> ¬YtT L' b) {x:Value} {a:AV} (h:VR fm W L x a):NR a->VR fm W' L' x a:=by
  have cell: ∀{b o:Nat} {v:Value},¬YtT L b->W.cell? ⟨b,o,none⟩=some v->W'.cell? ⟨b,o,none⟩=some v:=fun{b o v} hb hc=>by
    obtain⟨ob,h1,h2⟩:=cells_of_cell hc
    have h3:=hk b ob h1 h2 hb
    have h1:W.heap[b]?=some ob:=h1
    rw[<-hc]
    simp only[World.cell?,h1,h3]
  induction h with
  |v x=>intro _;exact .v x
  |u x=>intro _;exact .u x
  |emp A=>intro _;exact .emp A
  |rd0 A es c=>intro _;exact .rd0 A es c
  |rd b o c es l vals hne hes hes0 hlc hb hbs hc h1 hr ih=>
   intro hn
   cases hn with
   |rd es l hn=>exact .rd b o c es l vals hne hes hes0 hlc (hmv b hbs hb) (YxN hbs hs) (fun i e j x hi hj=>cell hb (hc i e j x hi hj)) h1 (fun i e j x hi hj=>ih i e j x hi hj (hn e (Yw7 hi) x (Yw7 hj)))
  |rp b o cs vals hb hbs hc h1 hr ih=>
   intro hn
   cases hn with
   |rp cs hn=>exact .rp b o cs vals (hmv b hbs hb) (YxN hbs hs) (fun j x hj=>cell hb (hc j x hj)) h1 (fun j x hj=>ih j x hj (hn x (Yw7 hj)))
  |agg xs cs hs h1 hr ih=>
   intro hn
   cases hn with
   |agg cs hn=>exact .agg xs cs hs h1 (fun j x hj=>ih j x hj (hn x (Yw7 hj)))
  |tup xs cs hs hr ih=>
   intro hn
   cases hn with
   |tup cs hn=>exact .tup xs cs hs (fun j x hj=>ih j x hj (hn x (Yw7 hj)))
  |clo f xs cs hs hr ih=>
   intro hn
   generalize hc:AV.clo (fm f) cs=c at hn
   cases hn with
   |clo f' cs' hn=>injection hc with hf hc;subst hc;subst hf;exact .clo f xs _ hs (fun j x hj=>ih j x hj (hn x (Yw7 hj)))
   |_=>cases hc
  |er t p=>intro _;exact .er t p
  |_=>intro hn;cases hn
def asd(n:Nat)(L:Nat->Loc)(B:List Nat):Nat->Loc:=fun a=>if a<n then L a else match B[a-n]? with|some g=>.hid g|none=>.fresh
theorem zget{n:Nat}{a:Nat}:hf (Z n []) a=if a<n then some none else none:=by
  simp only[hf,Z,Yxz,YxG]
theorem YkX{fm:FM}{n:Nat}{w:World}{L:Nat->Loc}(h:HR fm w L (hf (Z n [])))(b:Nat): ¬OwnC L b:=by
  have no: ∀a o,hf (Z n []) a≠some (some o):=fun a o e=>by rw[zget]at e;split at e<;>cases e
  rintro(⟨a,es,cap,e⟩| ⟨a,i,e⟩)
  ·obtain⟨o,e⟩:=h.live a (.inl ⟨b,es,cap,e⟩);exact no _ _ e
  ·obtain⟨⟨o,e⟩,_⟩:=h.mps a i b e;exact no _ _ e
theorem Ybu{fm:FM}{n:Nat}{w:World}{L:Nat->Loc}(h:HR fm w L (hf (Z n []))){B:List Nat}(b:Nat): ¬OwnC (asd n L B) b:=by
  have no:=YkX h b
  rintro(⟨a,es,cap,e⟩| ⟨a,i,e⟩)<;>unfold asd at e<;>split at e
  ·exact no (.inl ⟨a,es,cap,e⟩)
  ·split at e<;>cases e
  ·exact no (.inr ⟨a,i,e⟩)
  ·split at e<;>cases e
theorem Ycn{fm:FM}{n:Nat}{w:World}{L:Nat->Loc}(h:HR fm w L (hf (Z n []))){B:List Nat}{b:Nat}:YtT (asd n L B) b↔ (∃a,a<n/\L a= .hid b)\/b∈B:=by
  constructor
  ·rintro(e| ⟨a,e⟩)
   ·exact(Ybu h b e).elim
   ·unfold asd at e
    split at e
    ·exact .inl ⟨a,by trivial,e⟩
    ·split at e
     ·rename_i g hg
      injection e with e;subst e
      exact .inr (Yw7 hg)
     ·cases e
  ·rintro(⟨a,ha,e⟩|hb)
   ·exact .inr ⟨a,by unfold asd;rw[if_pos ha];exact e⟩
   ·obtain⟨i,hi,rfl⟩:=YxD.1 hb
    refine .inr ⟨n+i,?_⟩
    unfold asd
    rw[if_neg (by omega),Nat.add_sub_cancel_left,Yw8 hi]
theorem YsV{fm:FM}{n:Nat}{w W:World}{L:Nat->Loc}(h:HR fm w L (hf (Z n [])))(hb:Below w.heap.size w W){B:List Nat}(hB: ∀b∈B,b<W.heap.size):HR fm W (asd n L B) (hf (Z (n+B.length) [])):=by
  have no: ∀a o,hf (Z (n+B.length) []) a≠some (some o):=fun a o e=>by rw[zget]at e;split at e<;>cases e
  refine⟨fun a o e=>(no a o e).elim,?_,?_,?_,?_,fun a o g es cap e=>(no a o e).elim,?_,?_⟩
  ·rintro a (⟨g,es,cap,e⟩| ⟨b,e⟩)
   ·exact(Ybu h g (.inl ⟨a,es,cap,e⟩)).elim
   ·unfold asd at e
    split at e
    ·obtain⟨o,e⟩:=h.live a (.inr ⟨b,e⟩)
     rw[zget]at e;split at e<;>cases e
    ·split at e<;>cases e
  ·intro a
   rw[zget]
   by_cases ha:a<n
   ·rw[if_pos (by omega)]
    have:=h.fresh a
    rw[zget,if_pos ha]at this
    unfold asd
    rw[if_pos ha,this]
   ·unfold asd
    rw[if_neg ha]
    by_cases hb:a<n+B.length
    ·rw[if_pos hb,Yw8 (by omega)]
     simp
    ·rw[if_neg hb,Yxv (by omega)]
     simp
  ·intro a b g e c e' c' h1 h2
   exact(Ybu h g (.inl ⟨a,e,c,h1⟩)).elim
  ·intro a g e
   refine⟨?_,Ybu h g⟩
   unfold asd at e
   split at e
   ·exact YxN (h.hid a g e).1 hb.size
   ·split at e
    ·rename_i g' hg
     injection e with e;subst e
     exact hB _ (Yw7 hg)
    ·cases e
  ·intro a i g e
   exact(Ybu h g (.inr ⟨a,i,e⟩)).elim
  ·intro p hp
   obtain⟨_,c,t,f,h3,h4⟩:=h.tab p hp
   exact⟨Ybu h _,c,t,f,h3,(hb.block _ (Yx5.1 h4).1).trans h4⟩
theorem YsW{P:Program}{fm:FM}{f:FuncId}{R:List AV->AV->Prop}{n:Nat}{w W:World}{L:Nat->Loc}{B:List Nat}(K:FOK P fm f (Yua R))(h:HR fm w L (hf (Z n [])))(hb:Below w.heap.size w W)(hB: ∀b∈B,b<W.heap.size)
    {args:List AV} {r:AV} (hR:R args r) (hna: ∀a∈args,NR a) (hnr:NR r) {vs:Array Value} (hsz:vs.size=args.length) (hv: ∀j a,args[j]?=some a->VR fm W (asd n L B) (vs.getD j undef) a):
    Calls P f vs W fun e W'=> ∃v,e= .returned v/\Below W.heap.size W W'/\VR fm W' (asd n L B) v r:=by
  refine((K args _ r _ ⟨n+B.length,rfl,rfl,hna,hnr,hR⟩).2 W _ vs (YsV h hb hB) hsz hv).mono ?_
  rintro e W' ⟨v,L',rfl,hk,hl,hr,hvr⟩
  refine⟨v,rfl,⟨hk.os,hk.tape,hk.output,hk.size,fun b hb'=>hk.blk b hb' (Ybu h b)⟩,Yde (YxI _) (fun b o h1 _ _=>h1) ?_ hvr hnr⟩
  rintro b _ hno (ho| ⟨a,ho⟩)
  ·exact Ybu h b ho
  ·rcases hl.old a (by rw[ho];exact fun e=>by cases e)with e| ⟨e,e2⟩
   ·exact hno (.inr ⟨a,e.trans ho⟩)
   ·exact e2 b ho
end Go.Abs
namespace Go.Proofs
open Go Go.RowKit Go.Shelf Go.Abs Go.Abs.G12
attribute [local go_sem] Oper.semAt_some
set_option maxHeartbeats 1000000 in
theorem Tryz.seq(s:ByteArray)(w:World):Calls Tryz.prog 23 #[.string s,.string (bs [10])] w fun e w'=>
    e= .returned (.func (.func 58) #[] #[.pointer (some ⟨w.heap.size+1,0,none⟩),.pointer (some ⟨w.heap.size,0,none⟩),.pointer (some ⟨w.heap.size+2,0,none⟩)])/\
    w'=((w.alloc (.cells #[.string s] 9)).alloc (.cells #[.string (bs [10])] 9)).alloc (.cells #[.int .i64 1] 3):=by
  have h42:CallsIn Fence.wide 2 Tryz.prog 42 #[.string s,.string (bs [10]),.int .i64 1] w fun e w'=>
    e= .returned (.func (.func 58) #[] #[.pointer (some ⟨w.heap.size+1,0,none⟩),.pointer (some ⟨w.heap.size,0,none⟩),.pointer (some ⟨w.heap.size+2,0,none⟩)])/\
    w'=((w.alloc (.cells #[.string s] 9)).alloc (.cells #[.string (bs [10])] 9)).alloc (.cells #[.int .i64 1] 3):=by
    refine callsIn_of_wp Tryz.func42 rfl trivial ?_ rfl
    simp only[Tryz.ntmps42,List.size_toArray,Yxh,Yxu,Nat.reduceAdd,Nat.reduceSub,Array.replicate_succ,Array.replicate_zero,List.push_toArray,List.append_toArray,Yxr,Yxp]
    gi_wp2
    go_ret
    exact⟨rfl,rfl⟩
  have hs1:(bs [10]).size=1:=rfl
  refine(callsIn_wide (n:=3)).1 ?_
  refine callsIn_of_wp Tryz.func23 rfl trivial ?_ rfl
  simp only[Tryz.ntmps23,List.size_toArray,Yxh,Yxu,Nat.reduceAdd,Nat.reduceSub,Array.replicate_succ,Array.replicate_zero,List.push_toArray,List.append_toArray,Yxr,Yxp]
  gi_wp2_with (refine⟨trivial,?_⟩;refine h42.mono ?_;rintro e w' ⟨rfl,rfl⟩)
  go_ret
  exact⟨rfl,rfl⟩
def dvV(d:Dv)(c:Value):List Value:=[.int .i64 d.1,c,.int .u32 d.2.2.1,.int .u32 d.2.2.2]
abbrev fromA(d:Dv):AV:=.rd 1 (d.2.1.map (Cs.enc (.cons (.i .i64) .nil)))
def rowsV(ps:List (Dv×Value)):List Value:=(ps.map fun p=>dvV p.1 p.2).flatten
def hidB(h:Nat)(v:Value):List Nat:=[h,h+1,h+2,h+3,h+4,h+5,h+6]++v.ownBlock.toList
structure Inv(fm:FM)(F:ByteArray->Option (Int×List Int×Int×Int×Bool))(n:Nat)(L:Nat->Go.Abs.Loc)(w:World)(xs:List (List UInt8))(z:List Dv×Int×Int)(pre:List (List UInt8))(W:World)
    (ps:List (Dv×Value)) (v:Value) (rest:List (List UInt8)) (s:ByteArray):Prop where
  xs:xs=pre++rest
  par:Yul F (rest.map bs) (ps.map (·.1))=some z
  b0:Boxed W w.heap.size 22 (.slice none 0 0)
  b1:Boxed W (w.heap.size+1) 3 (.int .i64 0)
  b2:Boxed W (w.heap.size+2) 34 (.int .i64 0)
  b3:Boxed W (w.heap.size+3) 22 v
  b4:Boxed W (w.heap.size+4) 9 (.string s)
  b5:Boxed W (w.heap.size+5) 9 (.string (bs [10]))
  b6:Boxed W (w.heap.size+6) 3 (.int .i64 1)
  row:W.ownsRow w.heap.size 32 4 v ps.length (rowsV ps)
  len:ps.length<=pre.length
  vr: ∀p∈ps,p.2.oneCell'=true/\VR fm W (asd n L (hidB w.heap.size v)) p.2 (fromA p.1)
  bel:Below w.heap.size w W
def InvX(fm:FM)(F:ByteArray->Option (Int×List Int×Int×Int×Bool))(n:Nat)(L:Nat->Go.Abs.Loc)(w:World)(xs:List (List UInt8))(z:List Dv×Int×Int)(pre:List (List UInt8))(W:World):Prop:=
  ∃ps v rest s,Inv fm F n L w xs z pre W ps v rest s
def InvR(w:World)(z:List Dv×Int×Int)(W:World):Prop:=
  ∃k:Int,z=([],k,2)/\Boxed W w.heap.size 22 (.slice none 0 0)/\Boxed W (w.heap.size+1) 3 (.int .i64 k)/\Boxed W (w.heap.size+2) 34 (.int .i64 2)/\Below w.heap.size w W
theorem KpB.trans{b:Nat}{A B C:World}(h:KpB b A B)(k:KpB b B C):KpB b A C:=fun i h1 h2=>(k i h1 h2).trans (h i h1 h2)
section
variable{fm:FM}{F:ByteArray->Option (Int×List Int×Int×Int×Bool)}{n:Nat}{L:Nat->Go.Abs.Loc}{w:World}{xs:List (List UInt8)}{z:List Dv×Int×Int}
theorem Yco{A B:World}{b:Nat}{t:TypeId}{v:Value}(hk: ∀(k:Nat) (o:Obj),A.heap[k]?=some o->o.isCells=true->k≠w.heap.size+4->B.heap[k]?=some o)(hb:b≠w.heap.size+4)(h:Boxed A b t v):Boxed B b t v:=hk _ _ h rfl hb
theorem Yeq(d:Dv):NR (fromA d):=.rd _ _ fun e he x hx=>by
  obtain⟨y,_,rfl⟩:=Yxo.1 he
  exact YaI _ y x hx
theorem Yer(hr:HR fm w L (hf (Z n []))){v:Value}{k:Nat}(h:k∈hidB w.heap.size v):YtT (asd n L (hidB w.heap.size v)) k:=(Ycn hr).2 (.inr h)
theorem Inv.step(hr:HR fm w L (hf (Z n []))){pre:List (List UInt8)}{A B:World}{ps:List (Dv×Value)}{v:Value}{rest:List (List UInt8)}{s s':ByteArray}(h:Inv fm F n L w xs z pre A ps v rest s)
    (hs:A.heap.size<=B.heap.size) (hk: ∀(k:Nat) (o:Obj),A.heap[k]?=some o->o.isCells=true->k≠w.heap.size+4->B.heap[k]?=some o) (h4:Boxed B (w.heap.size+4) 9 (.string s')) (hb:Below w.heap.size A B):Inv fm F n L w xs z pre B ps v rest s' where
  xs:=h.xs
  par:=h.par
  b0:=Yco hk (by omega) h.b0
  b1:=Yco hk (by omega) h.b1
  b2:=Yco hk (by omega) h.b2
  b3:=Yco hk (by omega) h.b3
  b4:=h4
  b5:=Yco hk (by omega) h.b5
  b6:=Yco hk (by omega) h.b6
  row:=by
    have hne:=h.b4.not_row (by decide) h.row
    refine⟨h.row.1,?_⟩
    rcases h.row.2 with e| ⟨g,cap,cur,rfl,e1,e2,e3⟩
    ·exact .inl e
    ·exact .inr ⟨g,cap,cur,rfl,e1,hk _ _ e2 rfl (fun e=>hne (by rw[<-e];rfl)),e3⟩
  len:=h.len
  vr:=fun p hp=>⟨(h.vr p hp).1,Yde hs (fun b o h1 h2 h3=>hk b o h1 h2 (fun e=>h3 (Yer hr (by rw[e];simp[hidB])))) (fun _ _ h=>h) (h.vr p hp).2 (Yeq _)⟩
  bel:=h.bel.trans hb
theorem InvX.bk(hr:HR fm w L (hf (Z n []))){W0:World}(hw:w.heap.size<=W0.heap.size)(p:List (List UInt8))(A B:World)(h:Bk W0.heap.size A B)(hi:InvX fm F n L w xs z p A):InvX fm F n L w xs z p B:=by
  obtain⟨ps,v,rest,s,hi⟩:=hi
  cases h with
  |new o hle=>
   exact⟨ps,v,rest,s,hi.step hr (by simp) (fun k o' h1 _ _=>(World.grownBy_alloc A o none).block k (Yx5.1 h1).1 (by simp)|>.trans h1) (hi.b4.alloc _) ((Below.refl _ A).alloc (YxM hw hle) o)⟩
  |put l r r' hl h=>
   have hk: ∀(k:Nat) (o:Obj),A.heap[k]?=some o->o.isCells=true->(A.putObj l (.loop r')).heap[k]?=some o:=fun k o h1 h2=>by
     by_cases e:k=l
     ·subst e;rw[h]at h1;injection h1 with h1;subst h1;cases h2
     ·exact(World.putObj_heap_other e).trans h1
   exact⟨ps,v,rest,s,hi.step hr (grownBy_putObj' A l _).size (fun k o h1 h2 _=>hk k o h1 h2) (hk _ _ hi.b4 rfl) ((Below.refl _ A).grown (grownBy_putObj' A l _) (by have:=(Yx5.1 h).1;omega) (fun k e=>by cases e;omega))⟩
theorem InvX.ts(hr:HR fm w L (hf (Z n [])))(p:List (List UInt8))(A B:World)(h:TsB (w.heap.size+4) A B)(hi:InvX fm F n L w xs z p A):InvX fm F n L w xs z p B:=by
  obtain⟨ps,v,rest,s,hi⟩:=hi
  obtain⟨s',rfl⟩:=h
  have g:=grownBy_setCell' A (w.heap.size+4) (.string s')
  exact⟨ps,v,rest,s',hi.step hr g.size (fun k o h1 _ h3=>(g.block k (Yx5.1 h1).1 (by simpa using h3)).trans h1) (hi.b4.set _) ((Below.refl _ A).grown g (by have:=hi.bel.size;omega) (fun k e=>by cases e;omega))⟩
theorem InvR.bk{W0:World}(hw:w.heap.size<=W0.heap.size)(A B:World)(h:Bk W0.heap.size A B)(hi:InvR w z A):InvR w z B:=by
  obtain⟨k,e,b0,b1,b2,hb⟩:=hi
  cases h with
  |new o hle=>exact⟨k,e,b0.alloc _,b1.alloc _,b2.alloc _,hb.trans ((Below.refl _ A).alloc (YxM hw hle) o)⟩
  |put l r r' hl h=>
   have hk: ∀(k:Nat) (o:Obj),A.heap[k]?=some o->o.isCells=true->(A.putObj l (.loop r')).heap[k]?=some o:=fun k o h1 h2=>by
     by_cases e:k=l
     ·subst e;rw[h]at h1;injection h1 with h1;subst h1;cases h2
     ·exact(World.putObj_heap_other e).trans h1
   exact⟨k,e,hk _ _ b0 rfl,hk _ _ b1 rfl,hk _ _ b2 rfl,hb.trans ((Below.refl _ A).grown (grownBy_putObj' A l _) (by have:=(Yx5.1 h).1;omega) (fun k e=>by cases e;omega))⟩
end
set_option maxRecDepth 100000 in
theorem Tryz.parEnd{R:Ending->World->Prop}{ts:Array Value}{h D:Nat}{W:World}{v:Value}{k1 k2:Int}(e2:ts[2]?.getD undef= .pointer (some ⟨h,0,none⟩))(e3:ts[3]?.getD undef= .pointer (some ⟨h+1,0,none⟩))(e4:ts[4]?.getD undef= .pointer (some ⟨h+2,0,none⟩))
    (b0:Boxed W h 22 v) (b1:Boxed W (h+1) 3 (.int .i64 k1)) (b2:Boxed W (h+2) 34 (.int .i64 k2)) (hK:W.heap[D]?=some (.deferred (some []))) (hR:R (.returned (.tuple #[v,.int .i64 k1,.int .i64 k2])) (W.putObj D (.deferred none))):
    bodyPostM Fence.wide 3 Tryz.prog Tryz.f10 R Exit.ret {tmps:=ts,defers:=[{target:=Target.collected D,args:= #[]}]} W:=by
  have keep: ∀{b:Nat} {t:TypeId} {x:Value},Boxed W b t x->(W.putObj D (.deferred none)).cell? ⟨b,0,none⟩=some x:=fun{b t x} hb=>by
    have hne:b≠D:=fun e=>by subst e;rw[show W.heap[b]?=_ from hb]at hK;cases hK
    exact Boxed.cell (t:=t) ((World.putObj_heap_other hne).trans hb)
  have c0:=keep b0;have c1:=keep b1;have c2:=keep b2
  have z22:=Tryz.sizeOf22;have a22:=Tryz.isAgg22
  have z3:=Tryz.sizeOf3;have a3:=Tryz.isAgg3
  have z34:=Tryz.sizeOf34;have a34:=Tryz.isAgg34
  refine⟨by simp,.inl ⟨_,_,rfl,run_takeDeferred hK,?_⟩⟩
  refine⟨.tuple #[v,.int .i64 k1,.int .i64 k2],?_,hR⟩
  simp[results,Tryz.results10,go_sem,e2,e3,e4,c0,c1,c2,a22,a3,a34,z22,z3,z34]
theorem YkY: ∀(ps:List (Dv×Value)) (i j:Nat) (p:Dv×Value),ps[i]?=some p->j<4->(rowsV ps)[i*4+j]?=(dvV p.1 p.2)[j]?
  | [],_,_,_,h,_=>by simp at h
  |q::ps,0,j,p,h,hj=>by
   simp only[List.getElem?_cons_zero,Option.some.injEq]at h
   subst h
   have e:rowsV (q::ps)=dvV q.1 q.2++rowsV ps:=by simp[rowsV]
   rw[e,Nat.zero_mul,YxO,Yxb (by simpa[dvV]using hj)]
  |q::ps,i+1,j,p,h,hj=>by
   have e:rowsV (q::ps)=dvV q.1 q.2++rowsV ps:=by simp[rowsV]
   have hl:(dvV q.1 q.2).length=4:=rfl
   rw[e,Yxi (by omega),hl,show(i+1)*4+j-4=i*4+j by omega]
   exact YkY ps i j p (by simpa using h) hj
theorem YkZ{fm:FM}{n:Nat}{w:World}{L:Nat->Go.Abs.Loc}(hr:HR fm w L (hf (Z n []))){b:Nat}(h:YtT L b):b<w.heap.size/\ ∃a,a<n/\L a= .hid b:=by
  rcases h with h| ⟨a,h⟩
  ·exact(YkX hr b h).elim
  ·refine⟨(hr.hid a b h).1,a,Decidable.byContradiction fun ha=> ?_,h⟩
   have:=(hr.fresh a).2 (by rw[zget,if_neg ha])
   rw[h]at this;cases this
theorem YsX{fm:FM}{F:ByteArray->Option (Int×List Int×Int×Int×Bool)}{n:Nat}{L:Nat->Go.Abs.Loc}{w:World}{xs:List (List UInt8)}{z:List Dv×Int×Int}(hr:HR fm w L (hf (Z n []))){pre:List (List UInt8)}{W W':World}{ps:List (Dv×Value)}{v:Value}{rest:List (List UInt8)}{s:ByteArray}(hi:Inv fm F n L w xs z pre W ps v rest s)
    (hs:W.heap.size<=W'.heap.size) (hk: ∀(k:Nat) (o:Obj),W.heap[k]?=some o->o.isCells=true->k≠w.heap.size->k≠w.heap.size+1->k≠w.heap.size+2->W'.heap[k]?=some o):VR fm W' L v (.rd 4 (ps.map fun p=>dvC.enc p.1)):=by
  rcases hi.row.2 with⟨rfl,e0⟩| ⟨g,cap,cur,rfl,e1,e2,e3,e4,e5,e6⟩
  ·have:ps=[]:=Yxj.1 e0
   subst this
   exact .rd0 _ _ _
  ·by_cases hp:ps=[]
   ·subst hp;exact .rd0 _ _ _
   have g0:=hi.b0.not_row (by decide) hi.row
   have g1:=hi.b1.not_row (by decide) hi.row
   have g2:=hi.b2.not_row (by decide) hi.row
   have hg':W'.heap[g]?=some (.cells cur 32 (0,0)):=hk _ _ e2 rfl (fun e=>g0 (by rw[e];rfl)) (fun e=>g1 (by rw[e];rfl)) (fun e=>g2 (by rw[e];rfl))
   have hrow: ∀(i:Nat) (e:List AV) (j:Nat) (x:AV),(ps.map fun p=>dvC.enc p.1)[i]?=some e->e[j]?=some x-> ∃p,ps[i]?=some p/\j<4/\ (dvC.enc p.1)[j]?=some x:=by
     intro i e j x h1 h2
     rw[Yw9,YxV]at h1
     obtain⟨p,h1,rfl⟩:=h1
     have:=(Yw6.1 h2).1
     exact⟨p,h1,Nat.lt_of_lt_of_eq this (Yau dvC p.1),h2⟩
   have hval: ∀(i j:Nat) (p:Dv×Value),ps[i]?=some p->j<4->cur[i*4+j]?=(dvV p.1 p.2)[j]?:=by
     intro i j p h1 h2
     rw[<-YkY ps i j p h1 h2,<-e6,Yxs,if_pos (by have:=(Yw6.1 h1).1;omega),Array.getElem?_toList]
   have key: ∀(i j:Nat) (p:Dv×Value) (x:AV),ps[i]?=some p->j<4->(dvC.enc p.1)[j]?=some x-> ∃y,(dvV p.1 p.2)[j]?=some y/\y.oneCell'=true/\VR fm W' L y x:=by
     intro i j p x h1 h2 h3
     obtain⟨k1,k2⟩:=hi.vr p (Yw7 h1)
     match j,h2 with
     |0,_=>injection h3 with h3;subst h3;exact⟨_,rfl,rfl,.v _⟩
     |1,_=>
      injection h3 with h3;subst h3
      refine⟨_,rfl,k1,Yde hs (fun b o q1 q2 q3=>hk b o q1 q2 (fun e=>q3 (Yer hr (by rw[e];simp[hidB]))) (fun e=>q3 (Yer hr (by rw[e];simp[hidB]))) (fun e=>q3 (Yer hr (by rw[e];simp[hidB])))) ?_ k2 (Yeq _)⟩
      intro b _ q1 q2
      obtain⟨_,a,q3,q4⟩:=YkZ hr q2
      exact q1 ((Ycn hr).2 (.inl ⟨a,q3,q4⟩))
     |2,_=>injection h3 with h3;subst h3;exact⟨_,rfl,rfl,.v _⟩
     |3,_=>injection h3 with h3;subst h3;exact⟨_,rfl,rfl,.v _⟩
   have hl:ps.length=(ps.map fun p=>dvC.enc p.1).length:=by rw[Yxk]
   rw[hl]
   refine .rd g 0 cap 4 _ (fun i j=>cur.getD (i*4+j) undef) (by simpa using hp) (fun e he=> ?_) (by decide) (by rw[<-hl];exact e3) ?_ (YxN (Yx5.1 e2).1 hs) ?_ ?_ ?_
   ·obtain⟨d,_,rfl⟩:=Yxo.1 he
    exact Yau dvC d.1
   ·intro ho
    have:=(YkZ hr ho).1
    omega
   ·intro i e j x h1 h2
    obtain⟨p,q1,q2,q3⟩:=hrow i e j x h1 h2
    obtain⟨y,r1,_,_⟩:=key i j p x q1 q2 q3
    have r4:=(hval i j p q1 q2).trans r1
    simp[World.cell?,hg',r4]
   ·intro i e j x h1 h2
    obtain⟨p,q1,q2,q3⟩:=hrow i e j x h1 h2
    obtain⟨y,r1,r2,_⟩:=key i j p x q1 q2 q3
    simp only[Yx6,(hval i j p q1 q2).trans r1,YxZ,r2]
   ·intro i e j x h1 h2
    obtain⟨p,q1,q2,q3⟩:=hrow i e j x h1 h2
    obtain⟨y,r1,_,r3⟩:=key i j p x q1 q2 q3
    simp only[Yx6,(hval i j p q1 q2).trans r1,YxZ]
    exact r3
theorem tup3{fm:FM}{W:World}{L:Nat->Go.Abs.Loc}{v:Value}{a:AV}{k1 k2:Int}(h:VR fm W L v a):VR fm W L (.tuple #[v,.int .i64 k1,.int .i64 k2]) (.tup [a,.v (.int .i64 k1),.v (.int .i64 k2)]):=by
  refine .tup _ _ rfl fun j x hj=> ?_
  match j with
  |0=>injection hj with hj;subst hj;exact h
  |1=>injection hj with hj;subst hj;exact .v _
  |2=>injection hj with hj;subst hj;exact .v _
  |j+3=>cases hj
theorem YsY{fm:FM}{F:ByteArray->Option (Int×List Int×Int×Int×Bool)}{n:Nat}{L:Nat->Go.Abs.Loc}{w:World}{xs:List (List UInt8)}{z:List Dv×Int×Int}{pre:List (List UInt8)}{W:World}{ps:List (Dv×Value)}{v:Value}{rest:List (List UInt8)}{s:ByteArray}(hi:Inv fm F n L w xs z pre W ps v rest s): ∀b∈hidB w.heap.size v,b<W.heap.size:=by
  intro b hb
  have h6:=hi.b6.lt
  simp only[hidB,YxC,Yxg,List.not_mem_nil,or_false]at hb
  rcases hb with hb|hb
  ·omega
  ·rcases hi.row.2 with⟨rfl,_⟩| ⟨g,cap,cur,rfl,_,e2,_⟩
   ·simp[Value.ownBlock]at hb
   ·simp[Value.ownBlock]at hb
    rw[hb];exact(Yx5.1 e2).1
theorem YsZ{fm:FM}{W:World}{L:Nat->Go.Abs.Loc}{v:Value}{d:Dv}{ok:Bool}(h:VR fm W L v (.tup [.agg (dvC.enc d),.v (.bool ok)])):
    ∃c,v= .tuple #[.agg #[.int .i64 d.1,c,.int .u32 d.2.2.1,.int .u32 d.2.2.2],.bool ok]/\c.oneCell'=true/\VR fm W L c (fromA d):=by
  cases h with
  |tup xs cs hs h=>
   have h0:=h 0 _ rfl
   have h1:=Yad (h 1 _ rfl)
   obtain⟨x0,x1,rfl⟩: ∃x0 x1,xs= #[x0,x1]:=⟨xs[0]'(by rw[hs];exact Nat.zero_lt_succ _),xs[1]'(by rw[hs];exact Nat.succ_lt_succ (Nat.zero_lt_succ _)),by apply Array.ext;exact hs;intro i hi1 hi2;match i,hi2 with|0,_=>rfl|1,_=>rfl⟩
   have h1:x1= .bool ok:=h1
   have h0:VR fm W L x0 (.agg (dvC.enc d)):=h0
   subst h1
   generalize hcs:dvC.enc d=cs at h0
   cases h0 with
   |agg xs cs hs h1 h=>
    subst hcs
    have a0:=Yad (h 0 (.v (.int .i64 d.1)) rfl)
    have a1:=h 1 (fromA d) rfl
    have b1:=h1 1 (fromA d) rfl
    have a2:=Yad (h 2 (.v (.int .u32 d.2.2.1)) rfl)
    have a3:=Yad (h 3 (.v (.int .u32 d.2.2.2)) rfl)
    obtain⟨x0,x1,x2,x3,rfl⟩: ∃x0 x1 x2 x3,xs= #[x0,x1,x2,x3]:=⟨xs[0]'(by rw[hs];exact(by decide:0<4)),xs[1]'(by rw[hs];exact(by decide:1<4)),xs[2]'(by rw[hs];exact(by decide:2<4)),xs[3]'(by rw[hs];exact(by decide:3<4)),by apply Array.ext;exact hs;intro i hi1 hi2;match i,hi2 with|0,_=>rfl|1,_=>rfl|2,_=>rfl|3,_=>rfl⟩
    have a0:x0= .int .i64 d.1:=a0
    have a2:x2= .int .u32 d.2.2.1:=a2
    have a3:x3= .int .u32 d.2.2.2:=a3
    subst a0 a2 a3
    exact⟨x1,rfl,b1,a1⟩
theorem Ys0{fm:FM}{F:ByteArray->Option (Int×List Int×Int×Int×Bool)}{gr:Nat}(K:FOK Tryz.prog fm 24 (Yua (Ywd gr F).R)){n:Nat}{L:Nat->Go.Abs.Loc}{w:World}(hr:HR fm w L (hf (Z n []))){xs:List (List UInt8)}{z:List Dv×Int×Int}{pre:List (List UInt8)}{W:World}{ps:List (Dv×Value)}{v:Value}{rest:List (List UInt8)}{s:ByteArray}(hi:Inv fm F n L w xs z pre W ps v rest s)
    {x:ByteArray} {y1:Int} {y2:List Int} {y3 y4:Int} {ok:Bool} (hy:F x=some (y1,y2,y3,y4,ok)):Calls Tryz.prog 24 #[.string x] W fun e W'=> ∃A k m,e= .returned (.tuple #[.agg #[.int .i64 y1,.slice A k m,.int .u32 y3,.int .u32 y4],.bool ok])/\Below W.heap.size W W'/\VR fm W' (asd n L (hidB w.heap.size v)) (.slice A k m) (fromA (y1,y2,y3,y4)):=by
  refine(YsW (args:=[.v (.string x)]) (r:=.tup [.agg (dvC.enc (y1,y2,y3,y4)),.v (.bool ok)]) (vs:= #[.string x]) (B:=hidB w.heap.size v) K hr hi.bel (YsY hi)
    ⟨x,(y1,y2,y3,y4,ok),[.s x],.tp [.ag [.i .i64 y1,.l (.cons (.i .i64) .nil) y2,.i .u32 y3,.i .u32 y4],.b ok],hy,rfl,rfl,rfl,rfl,rfl,rfl⟩
    (fun a ha=>by rw[YxF]at ha;subst ha;exact .v _) (Yd2 (.tp [.ag [.i .i64 y1,.l (.cons (.i .i64) .nil) y2,.i .u32 y3,.i .u32 y4],.b ok])) rfl (fun j a hj=>by
      match j with
      |0=>injection hj with hj;subst hj;exact .v _
      |j+1=>cases hj)).mono ?_
  rintro e W' ⟨v',rfl,hb,hv⟩
  obtain⟨c,rfl,h1,h2⟩:=YsZ hv
  obtain⟨A,k,m,rfl⟩: ∃A k m,c= .slice A k m:=by
    generalize hq:fromA (y1,y2,y3,y4)=q at h2
    cases h2 with
    |rd0 A es m=>exact⟨A,0,m,rfl⟩
    |rd b o m es l vals=>exact⟨_,_,m,rfl⟩
    |_=>cases hq
  exact⟨A,k,m,rfl,hb,h2⟩
theorem Tryz.info32:(Tryz.prog.info? 32).map (fun i=>(i.zero,i.size,i.bytes))=some (some (.agg #[.int .i64 0,.slice none 0 0,.int .u32 0,.int .u32 0]),4,40):=by kernel_rfl
theorem chk_ok{β:Type}{p:Prop}[Decidable p]{x:Option β}{y:β}(h:chk p x=some y):p/\x=some y:=by
  by_cases hp:p
  ·rw[chkT _ hp]at h;exact⟨hp,h⟩
  ·simp[chk,hp]at h
structure Stop(p:Prop):Prop where
  h:p
theorem stopHere{p:Prop}(h:Stop p):p:=h.h
theorem Ys1(ps:List (Dv×Value))(d:Dv)(c:Value):rowsV (ps++[(d,c)])=rowsV ps++dvV d c:=by simp[rowsV]
theorem Ys2(W:World)(c0 c1 c2 c3:Value)(t:TypeId){b:Nat}(hb:b=W.heap.size): ∀(j:Nat) (u:Value),[c0,c1,c2,c3][j]?=some u->(W.alloc (.cells #[c0,c1,c2,c3] t)).cell? ((⟨b,0,none⟩:Addr).add j)=some u:=by
  intro j u hj
  subst hb
  have h:=World.alloc_heap_new W (.cells #[c0,c1,c2,c3] t)
  match j with
  |0=>injection hj with hj;subst hj;rw[show(⟨W.heap.size,0,none⟩:Addr).add 0=⟨W.heap.size,0,none⟩from rfl];simp only[World.cell?,h];rfl
  |1=>injection hj with hj;subst hj;rw[show(⟨W.heap.size,0,none⟩:Addr).add 1=⟨W.heap.size,1,none⟩from rfl];simp only[World.cell?,h];rfl
  |2=>injection hj with hj;subst hj;rw[show(⟨W.heap.size,0,none⟩:Addr).add 2=⟨W.heap.size,2,none⟩from rfl];simp only[World.cell?,h];rfl
  |3=>injection hj with hj;subst hj;rw[show(⟨W.heap.size,0,none⟩:Addr).add 3=⟨W.heap.size,3,none⟩from rfl];simp only[World.cell?,h];rfl
  |j+4=>cases hj
theorem Ys3{W W':World}{b:Nat}{e:TypeId}{sz:Nat}{v:Value}{k:Nat}{l:List Value}(h:W.ownsRow b e sz v k l)(hb:Below W.heap.size W W'):W'.ownsRow b e sz v k l:=by
  refine⟨h.1,?_⟩
  rcases h.2 with h| ⟨g,cap,cur,h1,h2,h3,h4⟩
  ·exact .inl h
  ·exact .inr ⟨g,cap,cur,h1,h2,(hb.block _ (Yx5.1 h3).1).trans h3,h4⟩
section
variable{fm:FM}{F:ByteArray->Option (Int×List Int×Int×Int×Bool)}{n:Nat}{L:Nat->Go.Abs.Loc}{w:World}{xs:List (List UInt8)}{z:List Dv×Int×Int}
theorem Inv.push(hr:HR fm w L (hf (Z n []))){pre:List (List UInt8)}{W W1:World}{ps:List (Dv×Value)}{v v':Value}{x:List UInt8}{rest:List (List UInt8)}{s:ByteArray}(hi:Inv fm F n L w xs z pre W ps v (x::rest) s)
    (hb1:Below W.heap.size W W1) {d:Dv} {c:Value} (hcv:VR fm W1 (asd n L (hidB w.heap.size v)) c (fromA d)) (hc1:c.oneCell'=true) {o1 o2:Obj} {w1:World} (hgrow:((W1.alloc o1).alloc o2).grownBy w1 v.ownBlock)
    (hown:w1.ownsRow w.heap.size 32 4 v' (ps.length+1) (rowsV ps++dvV d c)) (hat:v'.ownBlock=v.ownBlock\/v'.ownBlock=some ((W1.alloc o1).alloc o2).heap.size) (hpar:Yul F (rest.map bs) (ps.map (·.1)++[d])=some z) (B:Nat):
    KeepsFrom B W (w1.setCell ⟨w.heap.size+3,0,none⟩ v')/\KpB (w.heap.size+4) W (w1.setCell ⟨w.heap.size+3,0,none⟩ v')/\InvX fm F n L w xs z (pre++[x]) (w1.setCell ⟨w.heap.size+3,0,none⟩ v'):=by
  have hsz:((W1.alloc o1).alloc o2).heap.size=W1.heap.size+2:=by simp only[World.size_alloc]
  have G:=grownBy_setCell' w1 (w.heap.size+3) v'
  have K1: ∀(k:Nat) (o:Obj),W1.heap[k]?=some o->some k≠v.ownBlock->k≠w.heap.size+3->(w1.setCell ⟨w.heap.size+3,0,none⟩ v').heap[k]?=some o:=fun k o h1 h2 h3=>by
    have q1:=((World.grownBy_alloc W1 o1 none).block k (Yx5.1 h1).1 (by simp)).trans h1
    have q2:=((World.grownBy_alloc (W1.alloc o1) o2 none).block k (Yx5.1 q1).1 (by simp)).trans q1
    have q3:=(hgrow.block k (Yx5.1 q2).1 h2).trans q2
    exact(G.block k (Yx5.1 q3).1 (by simpa using h3)).trans q3
  have K0: ∀(k:Nat) (o:Obj),W.heap[k]?=some o->some k≠v.ownBlock->k≠w.heap.size+3->(w1.setCell ⟨w.heap.size+3,0,none⟩ v').heap[k]?=some o:=fun k o h1 h2 h3=>
    K1 k o ((hb1.block k (Yx5.1 h1).1).trans h1) h2 h3
  have hsW:W.heap.size<=W1.heap.size:=hb1.size
  have hsX:W1.heap.size<=(w1.setCell ⟨w.heap.size+3,0,none⟩ v').heap.size:=by have:=hgrow.size;have:=G.size;omega
  have hcells: ∀(k:Nat) (o:Obj),W.heap[k]?=some o->o.isCells=false->some k≠v.ownBlock/\k≠w.heap.size+3:=fun k o h1 h2=>by
    refine⟨fun e=> ?_,fun e=> ?_⟩
    ·rcases hi.row.2 with⟨rfl,_⟩| ⟨g,cap,cur,rfl,_,e2,_⟩
     ·cases e
     ·injection e with e;subst e;rw[h1]at e2;injection e2 with e2;subst e2;cases h2
    ·subst e;have:=hi.b3;rw[show W.heap[w.heap.size+3]?=_ from hi.b3]at h1;injection h1 with h1;subst h1;cases h2
  have box: ∀{b:Nat} {t:TypeId} {u:Value},Boxed W b t u->t≠32->b≠w.heap.size+3->Boxed (w1.setCell ⟨w.heap.size+3,0,none⟩ v') b t u:=fun{b t u} h ht hne=>K0 _ _ h (h.not_row ht hi.row) hne
  have b3:Boxed w1 (w.heap.size+3) 22 v:=by
    have q0:Boxed W1 (w.heap.size+3) 22 v:=(hb1.block _ hi.b3.lt).trans hi.b3
    exact((q0.alloc o1).alloc o2).kept hgrow (hi.b3.not_row (by decide) hi.row)
  have hle:=hi.bel.size
  have hrowb: ∀k,v.ownBlock=some k->w.heap.size<=k:=fun k e=>by
    rcases hi.row.2 with⟨rfl,_⟩| ⟨g,cap,cur,rfl,e1,_,_⟩
    ·cases e
    ·injection e with e;subst e;exact e1
  have hown2: ∀{b:Nat},b<W1.heap.size-> ¬YtT (asd n L (hidB w.heap.size v)) b-> ¬YtT (asd n L (hidB w.heap.size v')) b:=fun{b} h1 h2 h3=>by
    refine h2 ((Ycn hr).2 (((Ycn hr).1 h3).imp id fun h=> ?_))
    simp only[hidB,YxC,Option.mem_toList]at h⊢
    refine h.imp id fun h=> ?_
    rcases hat with e|e
    ·rw[<-e];exact h
    ·rw[e]at h
     injection h with h
     omega
  have hkeep: ∀(b:Nat),¬YtT (asd n L (hidB w.heap.size v)) b->some b≠v.ownBlock/\b≠w.heap.size+3:=fun b h=>by
    refine⟨fun e=>h ((Ycn hr).2 (.inr ?_)),fun e=>h ((Ycn hr).2 (.inr ?_))⟩
    ·simp only[hidB,YxC,Option.mem_toList];exact .inr e.symm
    ·subst e;simp[hidB]
  refine⟨⟨YxM hsW hsX,fun k o _ h1 h2=>K0 k o h1 (hcells k o h1 h2).1 (hcells k o h1 h2).2⟩,?_,ps++[(d,c)],v',rest,s,?_⟩
  ·intro k h1 h2
   rcases(show k=w.heap.size+4\/k=w.heap.size+5\/k=w.heap.size+6 by omega)with rfl|rfl|rfl
   ·exact(box hi.b4 (by decide) (by omega)).trans hi.b4.symm
   ·exact(box hi.b5 (by decide) (by omega)).trans hi.b5.symm
   ·exact(box hi.b6 (by decide) (by omega)).trans hi.b6.symm
  ·refine⟨by rw[hi.xs,Yxq];rfl,by rw[List.map_append];exact hpar,box hi.b0 (by decide) (by omega),box hi.b1 (by decide) (by omega),box hi.b2 (by decide) (by omega),b3.set v',box hi.b4 (by decide) (by omega),box hi.b5 (by decide) (by omega),box hi.b6 (by decide) (by omega),?_,?_,?_,?_⟩
   ·rw[Ys1,Yxc]
    exact hown.kept G (.inr (b3.not_row (by decide) hown).symm)
   ·have:=hi.len;simp only[Yxc,Yxn];omega
   ·intro q hq
    rcases YxC.1 hq with hq|hq
    ·obtain⟨k1,k2⟩:=hi.vr q hq
     exact⟨k1,Yde (YxM hsW hsX) (fun b o h1 _ h3=>K0 b o h1 (hkeep b h3).1 (hkeep b h3).2) (fun b h1 h2=>hown2 (YxN h1 hsW) h2) k2 (Yeq _)⟩
    ·rw[YxF]at hq;subst hq
     exact⟨hc1,Yde hsX (fun b o h1 _ h3=>K1 b o h1 (hkeep b h3).1 (hkeep b h3).2) (fun b h1 h2=>hown2 h1 h2) hcv (Yeq _)⟩
   ·refine hi.bel.trans (((((hb1.mono hle).trans ((Below.refl _ W1).alloc (YxM hle hsW) o1)).alloc (by simp only[World.size_alloc];omega) o2).grown hgrow (by omega) (fun k e=>hrowb k e)).grown G (by have:=hgrow.size;omega) (fun k e=>by cases e;omega))
theorem Inv.quit(hr:HR fm w L (hf (Z n []))){pre:List (List UInt8)}{W W1:World}{ps:List (Dv×Value)}{v:Value}{rest:List (List UInt8)}{s:ByteArray}(hi:Inv fm F n L w xs z pre W ps v rest s)
    (hb1:Below W.heap.size W W1) (o:Obj) (hz:(([]:List Dv),(ps.length:Int)+1,(2:Int))=z) (hl:ps.length<=70000) (B:Nat):
    KeepsFrom B W ((((W1.alloc o).setCell ⟨w.heap.size,0,none⟩ (.slice none 0 0)).setCell ⟨w.heap.size+1,0,none⟩ (.int .i64 (IntKind.i64.wrap (ps.length+1)))).setCell ⟨w.heap.size+1+1,0,none⟩ (.int .i64 2)).drew/\
      InvR w z ((((W1.alloc o).setCell ⟨w.heap.size,0,none⟩ (.slice none 0 0)).setCell ⟨w.heap.size+1,0,none⟩ (.int .i64 (IntKind.i64.wrap (ps.length+1)))).setCell ⟨w.heap.size+1+1,0,none⟩ (.int .i64 2)).drew:=by
  have e:IntKind.i64.wrap ((ps.length:Int)+1)=(ps.length:Int)+1:=wr6 (by omega) (by omega)
  rw[e]
  have G0:=grownBy_setCell' (W1.alloc o) w.heap.size (.slice none 0 0)
  have G1:=grownBy_setCell' ((W1.alloc o).setCell ⟨w.heap.size,0,none⟩ (.slice none 0 0)) (w.heap.size+1) (.int .i64 ((ps.length:Int)+1))
  have G2:=grownBy_setCell' (((W1.alloc o).setCell ⟨w.heap.size,0,none⟩ (.slice none 0 0)).setCell ⟨w.heap.size+1,0,none⟩ (.int .i64 ((ps.length:Int)+1))) (w.heap.size+1+1) (.int .i64 2)
  have d0:Boxed W1 _ _ _:=(hb1.block _ hi.b0.lt).trans hi.b0
  have d1:Boxed W1 _ _ _:=(hb1.block _ hi.b1.lt).trans hi.b1
  have d2:Boxed W1 (w.heap.size+1+1) _ _:=(hb1.block _ hi.b2.lt).trans hi.b2
  have hle:=hi.bel.size
  have hle1:w.heap.size<=(W1.alloc o).heap.size:=by have:=hb1.size;simp only[World.size_alloc];omega
  refine⟨KeepsOthers.from ?_ B,_,hz.symm,?_,?_,?_,?_⟩
  ·have k0:KeepsOthers W W1:=⟨hb1.size,fun k o h _=>(hb1.block k (Yx5.1 h).1).trans h⟩
   exact(((k0.trans (KeepsOthers.alloc _ _)).trans (KeepsOthers.setCell _ _ _)).trans (KeepsOthers.setCell _ _ _)).trans ((KeepsOthers.setCell _ _ _).trans (KeepsOthers.drew _))
  ·have m:=(((d0.alloc o).set (.slice none 0 0)).kept G1 (fun e=>by injection e;omega)).kept G2 (fun e=>by injection e;omega)
   exact m
  ·have m:=(((d1.alloc o).kept G0 (fun e=>by injection e;omega)).set (.int .i64 ((ps.length:Int)+1))).kept G2 (fun e=>by injection e;omega)
   exact m
  ·exact(((d2.alloc o).kept G0 (fun e=>by injection e;omega)).kept G1 (fun e=>by injection e;omega)).set _
  ·have q:=(((Below.refl w.heap.size (W1.alloc o)).grown G0 hle1 (fun k e=>by cases e;omega)).grown G1 (YxM hle1 G0.size) (fun k e=>by cases e;omega)).grown G2 (YxM hle1 (YxM G0.size G1.size)) (fun k e=>by cases e;omega)
   exact(hi.bel.trans (((hb1.mono hle).trans ((Below.refl _ W1).alloc (YxM hle hb1.size) o)).trans q)).drew
end
set_option maxRecDepth 100000 in
set_option maxHeartbeats 4000000 in
theorem Tryz.parse1{fm:FM}{F:ByteArray->Option (Int×List Int×Int×Int×Bool)}{gr:Nat}(K:FOK Tryz.prog fm 24 (Yua (Ywd gr F).R)){n:Nat}{L:Nat->Go.Abs.Loc}{w:World}(hr:HR fm w L (hf (Z n [])))(s:ByteArray)(z:List Dv×Int×Int)(hz:YuY F s=some z):
    Calls Tryz.prog 10 #[.string s] w fun e W'=> ∃v,e= .returned v/\Below w.heap.size w W'/\VR fm W' L v (.tup [.rd 4 (z.1.map dvC.enc),.v (.int .i64 z.2.1),.v (.int .i64 z.2.2)]):=by
  obtain⟨t,rfl⟩: ∃t,s=bs t:=⟨s.data.toList,(Yeo s).symm⟩
  have hst:(bs t).size=t.length:=rfl
  by_cases hlen:65536< (t.length:Int)
  ·have hz':(([]:List Dv),(0:Int),(3:Int))=z:=Option.some.inj (by simpa[YuY,hst,hlen]using hz)
   subst hz'
   refine(callsIn_wide (n:=3)).1 ?_
   refine callsIn_of_wp Tryz.func10 rfl trivial ?_ rfl
   simp only[Tryz.ntmps10,List.size_toArray,Yxh,Yxu,Nat.reduceAdd,Nat.reduceSub,Array.replicate_succ,Array.replicate_zero,List.push_toArray,List.append_toArray,Yxr,Yxp]
   have t22:=Tryz.underlying22;have a22:=Tryz.isAgg22;have z22:=Tryz.sizeOf22;have v22:=Tryz.zeroValue22
   have t3:=Tryz.underlying3;have a3:=Tryz.isAgg3;have z3:=Tryz.sizeOf3;have v3:=Tryz.zeroValue3
   have t34:=Tryz.underlying34;have a34:=Tryz.isAgg34;have z34:=Tryz.sizeOf34;have v34:=Tryz.zeroValue34
   gi_wp2
   refine bodyPost_ret (v:=.tuple #[.slice none 0 0,.int .i64 0,.int .i64 3]) (by simp[results,Tryz.results10,go_sem,a22,a3,a34,z22,z3,z34]) rfl ?_
   exact⟨_,rfl,((((Below.refl _ w).alloc (YxI _) _).alloc (by simp only[World.size_alloc];omega) _).alloc (by simp only[World.size_alloc];omega) _),tup3 (.rd0 _ _ _)⟩
  have hz:Yul F (YvG (bs t)) []=some z:=by simpa[YuY,hst,hlen]using hz
  rw[YkT]at hz
  refine(callsIn_wide (n:=3)).1 ?_
  refine callsIn_of_wp_marks Tryz.func10 rfl trivial ?_ rfl
  simp only[Tryz.ntmps10,List.size_toArray,Yxh,Yxu,Nat.reduceAdd,Nat.reduceSub,Array.replicate_succ,Array.replicate_zero,List.push_toArray,List.append_toArray,Yxr,Yxp]
  have t22:=Tryz.underlying22;have a22:=Tryz.isAgg22;have z22:=Tryz.sizeOf22;have v22:=Tryz.zeroValue22
  have t3:=Tryz.underlying3;have a3:=Tryz.isAgg3;have z3:=Tryz.sizeOf3;have v3:=Tryz.zeroValue3
  have t34:=Tryz.underlying34;have a34:=Tryz.isAgg34;have z34:=Tryz.sizeOf34;have v34:=Tryz.zeroValue34
  gi_wp2_with (refine⟨trivial,?_⟩;refine CallsIn.mono (callsIn_wide.2 (Tryz.seq (bs t) _)) ?_;rintro e W0 ⟨rfl,hW0⟩)
  rw[<-hW0]
  have q0:Boxed W0 w.heap.size 22 (.slice none 0 0):=by rw[hW0];exact(((((((Boxed.new w 22 _).alloc _).alloc _).alloc _).alloc _).alloc _).alloc _)
  have q1:Boxed W0 (w.heap.size+1) 3 (.int .i64 0):=by
    rw[hW0];have:=Boxed.new (w.alloc (.cells #[.slice none 0 0] 22)) 3 (.int .i64 0);simp only[World.size_alloc]at this
    exact((((this.alloc _).alloc _).alloc _).alloc _).alloc _
  have q2:Boxed W0 (w.heap.size+2) 34 (.int .i64 0):=by
    rw[hW0];have:=Boxed.new ((w.alloc (.cells #[.slice none 0 0] 22)).alloc (.cells #[.int .i64 0] 3)) 34 (.int .i64 0);simp only[World.size_alloc]at this
    exact(((this.alloc _).alloc _).alloc _).alloc _
  have q3:Boxed W0 (w.heap.size+3) 22 (.slice none 0 0):=by
    rw[hW0];have:=Boxed.new (((w.alloc (.cells #[.slice none 0 0] 22)).alloc (.cells #[.int .i64 0] 3)).alloc (.cells #[.int .i64 0] 34)) 22 (.slice none 0 0);simp only[World.size_alloc]at this
    exact((this.alloc _).alloc _).alloc _
  have q4:Boxed W0 (w.heap.size+4) 9 (.string (bs t)):=by
    rw[hW0];have:=Boxed.new ((((w.alloc (.cells #[.slice none 0 0] 22)).alloc (.cells #[.int .i64 0] 3)).alloc (.cells #[.int .i64 0] 34)).alloc (.cells #[.slice none 0 0] 22)) 9 (.string (bs t));simp only[World.size_alloc]at this
    exact(this.alloc _).alloc _
  have q5:Boxed W0 (w.heap.size+5) 9 (.string (bs [10])):=by
    rw[hW0];have:=Boxed.new (((((w.alloc (.cells #[.slice none 0 0] 22)).alloc (.cells #[.int .i64 0] 3)).alloc (.cells #[.int .i64 0] 34)).alloc (.cells #[.slice none 0 0] 22)).alloc (.cells #[.string (bs t)] 9)) 9 (.string (bs [10]));simp only[World.size_alloc]at this
    exact this.alloc _
  have q6:Boxed W0 (w.heap.size+6) 3 (.int .i64 1):=by
    rw[hW0];have:=Boxed.new ((((((w.alloc (.cells #[.slice none 0 0] 22)).alloc (.cells #[.int .i64 0] 3)).alloc (.cells #[.int .i64 0] 34)).alloc (.cells #[.slice none 0 0] 22)).alloc (.cells #[.string (bs t)] 9)).alloc (.cells #[.string (bs [10])] 9)) 3 (.int .i64 1);simp only[World.size_alloc]at this
    exact this
  have qs:W0.heap.size=w.heap.size+7:=by rw[hW0];simp only[World.size_alloc]
  have qb:Below w.heap.size w W0:=by
    rw[hW0]
    exact(((((((Below.refl _ w).alloc (YxI _) _).alloc (by simp only[World.size_alloc];omega) _).alloc (by simp only[World.size_alloc];omega) _).alloc (by simp only[World.size_alloc];omega) _).alloc (by simp only[World.size_alloc];omega) _).alloc (by simp only[World.size_alloc];omega) _).alloc (by simp only[World.size_alloc];omega) _
  clear hW0
  refine YsT (gf:=58) (encs:=fun x:List UInt8=> #[Value.string (bs x)]) (Kp:=KpB (w.heap.size+1+1+1+1)) (T:=TsB (w.heap.size+1+1+1+1)) rfl (enters_of Tryz.func58 (by kernel_rfl) rfl) (Tryz.lines 2 (w.heap.size+1+1+1+1) t W0 (by omega) q4 q5 q6) (fun _=>rfl)
    (fun h k=>KpB.trans h k) ?kb ?tt (InvX fm F n L w (cutS [10] 10 t) z) (InvR w z) ?ib ?it ?irb ?start
    (fun x=>{tmps:= #[.string (bs t),undef,.pointer (some ⟨w.heap.size,0,none⟩),.pointer (some ⟨w.heap.size+1,0,none⟩),.pointer (some ⟨w.heap.size+1+1,0,none⟩),.pointer (some ⟨w.heap.size+1+1+1,0,none⟩),.string (bs x),undef,undef,.string (bs t),.int .i64 t.length,.bool false,.string (bs t),
      .func (.func 58) #[] #[.pointer (some ⟨w.heap.size+1+1+1+1+1,0,none⟩),.pointer (some ⟨w.heap.size+1+1+1+1,0,none⟩),.pointer (some ⟨w.heap.size+1+1+1+1+2,0,none⟩)],.string (bs x),undef,undef,undef,undef,undef,undef,undef,undef,undef,undef,undef,undef,undef,undef,undef,undef,undef],defers:=[]})
    ?assign ?body ?done ?stop
  case kb=>
    intro A B h k h1 h2
    cases h with
    |new o hle=>exact(World.grownBy_alloc A o none).block k (by omega) (by simp)
    |put l r r' hl h=>exact World.putObj_heap_other (by omega)
  case tt=>
    rintro A B ⟨s',rfl⟩ k o hk h1
    exact((grownBy_setCell' A (w.heap.size+4) (.string s')).block k (Yx5.1 h1).1 (fun e=>by injection e;omega)).trans h1
  case ib=>exact InvX.bk hr (by omega)
  case it=>exact InvX.ts hr
  case irb=>exact InvR.bk (by omega)
  case start=>
    exact⟨[],.slice none 0 0,cutS [10] 10 t,bs t,rfl,hz,q0,q1,q2,q3,q4,q5,q6,⟨rfl,.inl ⟨rfl,rfl⟩⟩,YxI _,(fun p hp=>by cases hp),qb⟩
  case assign=>
    intro l x W K hK
    gi_wp2
    exact hK
  case body=>
    rintro l p x W hp ⟨ps,v,rest,s',hi⟩
    obtain⟨rest,rfl⟩: ∃r,rest=x::r:=by
      obtain⟨q,hq⟩:=hp
      have:=hi.xs
      rw[<-hq,Yxq]at this
      exact⟨q,(List.append_cancel_left this).symm⟩
    have hpar:=hi.par
    have hxs:cutS [10] 10 t=(p++[x])++rest:=by rw[hi.xs,Yxq];rfl
    have hbs0:Yx9 #[]=bs []:=rfl
    simp only[Yxa,Yul]at hpar
    by_cases hx:x=[]
    ·subst hx
     rw[cT _ _ (show bs []=Yx9 #[]from rfl)]at hpar
     have hin:InvX fm F n L w (cutS [10] 10 t) z (p++[[]]) W:=⟨ps,v,rest,s',{hi with xs:=hxs,par:=hpar,len:=by rw[Yxc];exact Nat.le_add_right_of_le hi.len}⟩
     gi_wp2
     exact⟨KeepsFrom.refl _ _,fun _ _ _=>rfl,hin⟩
    ·have hne: ¬bs x=Yx9 #[]:=fun e=>hx (bs_inj.1 (e.trans hbs0))
     have hq:((bs x).toList==(bs []).toList)=false:=by rw[Yfa];exact decide_eq_false (fun e=>hx (bs_inj.1 e))
     rw[cF _ _ hne]at hpar
     obtain⟨⟨y1,y2,y3,y4,ok⟩,hy,hpar⟩:=Yx0.1 hpar
     have hcall:=callsIn_wide (n:=0).2 (Ys0 K hr hi hy)
     obtain⟨A',cap',rfl⟩: ∃A cap,v= .slice A ps.length cap:=by
       rcases hi.row.2 with⟨e,e0⟩| ⟨g,cap,cur,e,_⟩
       ·exact⟨none,0,by rw[e0];exact e⟩
       ·exact⟨_,cap,e⟩
     cases ok with
     |false=>
      gi_wp2_with (refine⟨trivial,?_⟩;refine(CallsIn.inRound l hcall).mono ?_;rintro e W1 ⟨A,k,m,rfl,hb1,hcv⟩;have d0:Boxed W1 _ _ _:=(hb1.block _ hi.b0.lt).trans hi.b0;have d1:Boxed W1 _ _ _:=(hb1.block _ hi.b1.lt).trans hi.b1;have d2:Boxed W1 (w.heap.size+1+1) _ _:=(hb1.block _ hi.b2.lt).trans hi.b2;have d3:Boxed W1 (w.heap.size+1+1+1) _ _:=(hb1.block _ hi.b3.lt).trans hi.b3;have c0:=fun o=>(d0.alloc o).cell;have c1:=fun o=>(d1.alloc o).cell;have c2:=fun o=>(d2.alloc o).cell;have c3:=fun o=>(d3.alloc o).cell;have f0:=fun o=>(d0.alloc o).frozen;have f1:=fun o=>(d1.alloc o).frozen;have f2:=fun o=>(d2.alloc o).frozen;have f3:=fun o=>(d3.alloc o).frozen)
      have hmx:Tryz.prog.follows .mixedOrders=true:=by kernel_rfl
      have g0: ∀o,(W1.alloc o).drew.cell? ⟨w.heap.size,0,none⟩=_:=c0
      have g1: ∀o,(W1.alloc o).drew.cell? ⟨w.heap.size+1,0,none⟩=_:=c1
      have g2: ∀o,(W1.alloc o).drew.cell? ⟨w.heap.size+1+1,0,none⟩=_:=c2
      have g3: ∀o,(W1.alloc o).drew.cell? ⟨w.heap.size+1+1+1,0,none⟩=_:=c3
      have r0: ∀o,(W1.alloc o).drew.frozen? ⟨w.heap.size,0,none⟩=false:=f0
      have r1: ∀o,(W1.alloc o).drew.frozen? ⟨w.heap.size+1,0,none⟩=false:=f1
      have r2: ∀o,(W1.alloc o).drew.frozen? ⟨w.heap.size+1+1,0,none⟩=false:=f2
      gi_region_o
      all_goals gi_wp2
      all_goals exact Inv.quit hr hi hb1 _ (Option.some.inj (by simpa using hpar)) (by have h1:=hi.len;have h2:=hp.length_le;rw[Yel,Yxc,Yxn]at h2;have h3:=List.count_le_length (a:=(10:UInt8)) (l:=t);omega) _
     |true=>
      obtain⟨i0,hi0,hz0,hz1,hz2⟩:=info_parts Tryz.info32
      have hlenp:ps.length+1<=65540:=by
        have h1:=hi.len
        have h2:=hp.length_le
        rw[Yel,Yxc,Yxn]at h2
        have h3:=List.count_le_length (a:=(10:UInt8)) (l:=t)
        omega
      have hmx:65540<=maxLen:=by decide
      have hpar':Yul F (rest.map bs) (ps.map (·.1)++[(y1,y2,y3,y4)])=some z:=(chk_ok hpar).2
      gi_wp2_with (first| (refine⟨trivial,?_⟩;refine(CallsIn.inRound l hcall).mono ?_;rintro e W1 ⟨A,k,m,rfl,hb1,hcv⟩;have d0:Boxed W1 _ _ _:=(hb1.block _ hi.b0.lt).trans hi.b0;have d1:Boxed W1 _ _ _:=(hb1.block _ hi.b1.lt).trans hi.b1;have d2:Boxed W1 (w.heap.size+1+1) _ _:=(hb1.block _ hi.b2.lt).trans hi.b2;have d3:Boxed W1 (w.heap.size+1+1+1) _ _:=(hb1.block _ hi.b3.lt).trans hi.b3;have c0:=fun o=>(d0.alloc o).cell;have c1:=fun o=>(d1.alloc o).cell;have c2:=fun o=>(d2.alloc o).cell;have c3:=fun o=>(d3.alloc o).cell;have f0:=fun o=>(d0.alloc o).frozen;have f1:=fun o=>(d1.alloc o).frozen;have f2:=fun o=>(d2.alloc o).frozen;have f3:=fun o=>(d3.alloc o).frozen)| (gi_at_builtin;refine stopHere ?_))
      refine⟨?_⟩
      refine wpListIn_append_own_at _ rfl _ _ 22 rfl w.heap.size 32 i0 _ 4 40 t22 hi0 hz0 hz1 hz2 rfl (by decide) _ ps.length (rowsV ps) rfl (((Ys3 hi.row hb1).alloc _).alloc _) ⟨W1.heap.size+1,0,none⟩ 1 1 (dvV (y1,y2,y3,y4) (.slice A k m)) rfl rfl (Ys2 _ _ _ _ _ _ (by simp only[World.size_alloc])) ?h1 (by omega) (by omega) ?hb ?_
      case h1=>
        intro u hu
        simp only[dvV,Yxg,List.not_mem_nil,or_false]at hu
        rcases hu with rfl|rfl|rfl|rfl<;>rfl
      case hb=>
        have q1:=hi.bel.size
        have q2:=hb1.size
        simp only[World.size_alloc]
        omega
      intro v' w1 hown' hgrow hnil hat
      obtain⟨g',cap2,rfl⟩:=ownsRow_succ hown'
      have q3:Boxed w1 (w.heap.size+1+1+1) 22 _:=((d3.alloc _).alloc _).kept hgrow (hi.b3.not_row (by decide) hi.row)
      have e3:=q3.cell
      have e4:=q3.frozen
      gi_wp2
      exact Inv.push hr hi hb1 hcv rfl hgrow hown' hat hpar' _
  case done=>
    rintro D W hD ⟨ps,v,rest,s',hi⟩ hK
    have hrest:rest=[]:=by simpa using hi.xs
    subst hrest
    have hz':((ps.map (·.1),0,0):List Dv×Int×Int)=z:=Option.some.inj hi.par
    subst hz'
    obtain⟨A,cap,rfl⟩: ∃A cap,v= .slice A ps.length cap:=by
      rcases hi.row.2 with⟨e,e0⟩| ⟨g,cap,cur,e,_⟩
      ·exact⟨none,0,by rw[e0];exact e⟩
      ·exact⟨_,cap,e⟩
    have c0:=hi.b0.cell;have c1:=hi.b1.cell
    have c2:W.cell? ⟨w.heap.size+1+1,0,none⟩=some (.int .i64 0):=hi.b2.cell
    have c3:W.cell? ⟨w.heap.size+1+1+1,0,none⟩=some (.slice A ps.length cap):=hi.b3.cell
    have f0:=hi.b0.frozen;have f1:=hi.b1.frozen
    have f2:W.frozen? ⟨w.heap.size+1+1,0,none⟩=false:=hi.b2.frozen
    gi_wp2
    have G0:=grownBy_setCell' W w.heap.size (.slice A ps.length cap)
    have G1:=grownBy_setCell' (W.setCell ⟨w.heap.size,0,none⟩ (.slice A ps.length cap)) (w.heap.size+1) (.int .i64 0)
    have G2:=grownBy_setCell' ((W.setCell ⟨w.heap.size,0,none⟩ (.slice A ps.length cap)).setCell ⟨w.heap.size+1,0,none⟩ (.int .i64 0)) (w.heap.size+1+1) (.int .i64 0)
    have m0:=((hi.b0.set (.slice A ps.length cap)).kept G1 (by simp)).kept G2 (fun e=>by injection e;omega)
    have m1:=((hi.b1.kept G0 (by simp)).set (.int .i64 0)).kept G2 (by simp)
    have m2:=((hi.b2.kept G0 (by simp)).kept G1 (by simp)).set (.int .i64 0)
    have hle:=hi.bel.size
    refine Tryz.parEnd rfl rfl rfl m0 m1 m2 ((((KeepsOthers.setCell _ _ _).trans (KeepsOthers.setCell _ _ _)).trans (KeepsOthers.setCell _ _ _)).same D _ hK rfl) ⟨_,rfl,?_,?_⟩
    ·refine hi.bel.trans ((((((Below.refl _ W).grown G0 hle (fun k e=>by cases e;omega)).grown G1 (YxM hle G0.size) (fun k e=>by cases e;omega)).grown G2 (YxM hle (YxM G0.size G1.size)) (fun k e=>by cases e;omega))).grown (grownBy_putObj' _ D _) (YxM hle (YxM G0.size (YxM G1.size G2.size))) (fun k e=>by cases e;omega))
    ·have e0:(ps.map (·.1)).map dvC.enc=ps.map fun p=>dvC.enc p.1:=Yxw ..
     refine tup3 (Eq.mp (congrArg (fun l=>VR fm _ L (.slice A ps.length cap) (.rd 4 l)) e0.symm) ?_)
     refine YsX hr hi (YxM G0.size (YxM G1.size (YxM G2.size (grownBy_putObj' _ D _).size))) fun k o h1 h2 h3 h4 h5=> ?_
     have k0:=(G0.block k (Yx5.1 h1).1 (by simpa using h3)).trans h1
     have k1:=(G1.block k (Yx5.1 k0).1 (by simpa using h4)).trans k0
     have k2:=(G2.block k (Yx5.1 k1).1 (by simpa using h5)).trans k1
     refine(World.putObj_heap_other (fun e=> ?_)).trans k2
     subst e
     rw[h1]at hK
     injection hK with hK;subst hK;cases h2
  case stop=>
    rintro D W hD ⟨k,rfl,b0,b1,b2,hb⟩ hK
    gi_wp2
    refine Tryz.parEnd rfl rfl rfl b0 b1 b2 hK ⟨_,rfl,hb.trans ((Below.refl _ W).grown (grownBy_putObj' _ D _) hb.size (fun k e=>by cases e;omega)),tup3 (.rd0 _ _ _)⟩
theorem Tryz.parseC{fm:FM}(gr:Nat)(hgr:fm 24=gr)(hcal:YtJ Tryz.prog 10=true):Yv1 Tryz.prog fm 10 gr:=by
  intro F g K
  rintro args H r H' ⟨n,rfl,rfl,_,_,hR⟩
  refine⟨hcal,fun w L vs hr hsz hv=> ?_⟩
  obtain⟨x,y,tvs,v,h1,h2,h3,rfl,h5,h6,rfl⟩:=hR
  have hl:tvs.length=1:=Ybq h2
  have hfill:=YaB h2
  have key: ∀(x:ByteArray) (y:List Dv×Int×Int),YuY F x=some y->Sg.fill ⟨[0],[.s],[],.cons .s .nil⟩ x=some ⟨zipE [0] tvs,[]⟩->YtP (.tp [.l dvC,.i .i64,.i .i64]) (unp (.cons (.l dvC) (.cons (.i .i64) (.cons (.i .i64) .nil))) y)=some (v,[])->
      tvs=[.s x]/\v= .tp [.l dvC y.1,.i .i64 y.2.1,.i .i64 y.2.2]:=by
    rintro x ⟨y1,y2,y3⟩ e1 e2 e3
    refine⟨YjF hl e2,?_⟩
    have:some (TV.tp [.l dvC y1,.i .i64 y2,.i .i64 y3],([]:List Lf))=some (v,[]):=e3
    simp_all
  obtain⟨rfl,rfl⟩:=key x y h1 hfill h5
  obtain⟨s,rfl⟩: ∃s:ByteArray,s=x:=⟨x,rfl⟩
  have hvs:vs= #[.string s]:=by
    have e0:=Yad (hv 0 (.v (.string s)) rfl)
    apply Array.ext
    ·exact hsz
    ·intro i h1 h2
     match i,h2 with
     |0,_=>simpa[Yx8 h1]using e0
  subst hvs
  refine(Tryz.parse1 (K 24 hgr) hr s y h1).mono ?_
  rintro e W' ⟨v,rfl,hb,hvr⟩
  exact⟨v,L,rfl,YaY hb,LStep.refl _ _,hr.mono (YaY hb) (fun b hb' _=>hb.block b hb'),hvr⟩
end Go.Proofs
namespace Go.Abs
open Go.Proofs Go.Shelf
open Go Go.RowKit Go.ChangeShapes Go.ChangeAt Go.WideShapes
theorem YtF{H:Type}{enc:TypeId×Value->H}{a:Assume}{C:Checked}{os:Os}{f:FuncId}{fn:Func}{s:OpenSpec}{k:(H:Type)->List (DataW H)->Bool}(hk:s.cond=some k){F:Stop.Interp}{conds:List PathCond}{apart fresh handsOn again:Bool}{X:World->Prop}
    (own:ownKnob C.prog.godebug=none) (started:os.Started) (noInit:C.prog.inits.idxOf? f=none) (hfn:C.prog.funcs[f]?=some fn)
    (witness: ∃(w:World) (tape:Tape) (i:Input),w.os=os/\ (w.forCall tape i).Shaped C.prog/\i.vars=[]/\Input.okWide C.prog (w.forCall tape i) .any w.heap.size f i/\
      ((s.pre enc C.prog fn conds apart (w.forCall tape i).memory i.args/\X (w.forCall tape i).memory)/\sizedMet enc C.prog fn s apart (w.forCall tape i).memory i.args)/\a.holds C.prog (lone (Frame.enter C.prog f i.args .normal) [] (w.forCall tape i)))
    (contract: ∀(W:World) (base:Nat) (args:Array Value) (ds gs:List (DataW H)) (before:List MemPlace),
      (∀(j:Nat) t v,fn.params[j]?=some t->args[j]?=some v->Value.okWide C.prog W .any base t v)->
      DataW.Whole enc C.prog fn.params.toList s.vars apart W args.toList ds gs before->k H (ds++gs)=true->X W.memory->W.ShapedOpen C.prog->
      Calls C.prog f args W fun e W'=> ∃v,e= .returned v/\ (s.at F).post enc C.prog fn apart fresh handsOn again W args v W'):
    ReturnsInHanded a C os f .any (fun w args=>(s.pre enc C.prog fn conds apart w args/\X w)/\sizedMet enc C.prog fn s apart w args) ((s.at F).post enc C.prog fn apart fresh handsOn again):=by
  refine returnsInHanded_of_calls own started noInit witness ?_
  intro w tape i _ hsh _ hok hpre hholds
  obtain⟨_,_,_,fn',hfn',_,_,_,_,hval⟩:=hok
  have e:fn'=fn:=Option.some.inj (hfn'.symm.trans hfn)
  subst e
  obtain⟨ds,gs,before,hw,hc,hkk⟩:=(OpenSpec.pre_some hk conds apart _ _).1 hpre.1.1
  have hw':=DataW.Whole.of_heap (w':=w.forCall tape i) (by rfl) hw
  refine(contract (w.forCall tape i) w.heap.size i.args ds gs before hval hw' hkk hpre.1.2 hsh).mono fun e W' ⟨v,he,hp⟩=> ?_
  subst he
  exact ChangeSpec.post_blind hp
theorem YtG{P:Program}{w:World}{g:Nat}{t:TypeId}{zero:Array Value}{k:IntKind}(h:w.ShapedOpen P)(hg:g<P.globals.size)
    (h0:((begin P (fun _ _=>0) default).world.heap[g]?).bind Obj.row?=some (zero,t)) (hz:zero.size=1)
    (hb:P.buildable t=true) (hc:P.cellTypes P.depth t=some [t]) (hu:P.underlying t=some (.int k)):
    ∃c t f,(∃m,c= #[Value.int k m])/\w.heap[g]?=some (.cells c t f):=by
  obtain⟨m,hm⟩:=cell_of_shapedOpen_int h hg h0 hz hb hc hu
  obtain⟨cs,hh,hs,hr⟩:=h.1 g zero t hg h0
  have hs:cs.size=1:=by omega
  obtain⟨x,rfl⟩: ∃x,cs= #[x]:=⟨cs[0]'(by omega),by apply Array.ext;simpa using hs;intro i h1 h2;match i,h2 with|0,_=>rfl⟩
  simp only[World.cell?,hh]at hm
  have:x= .int k m:=by simpa using hm
  subst this
  exact⟨_,_,_,⟨m,rfl⟩,hh⟩
theorem Yln{P:Program}{W:World}{n:String}{g:Nat}{t:TypeId}{x:Value}(hg:P.globalNamed n=some g)(h:W.var? P n=some #[.iface t x]): ∃c t f,YuX c/\W.heap[g]?=some (.cells c t f):=by
  unfold World.var? at h
  rw[hg,YxX]at h
  split at h
  ·rename_i cs t' f hh
   injection h with h
   exact⟨cs,t',f,⟨_,_,h⟩,hh⟩
  ·cases h
end Go.Abs
