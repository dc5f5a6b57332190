/- All operations but calls. No condition. -/
import Derived.Test.YtkgoecnchnbbfaaA
import Derived.Lib.LazyBuf
import Derived.Lib.MinMax
import Derived.ProofKit
set_option linter.unusedVariables false
set_option linter.unusedSimpArgs false
set_option linter.unusedSectionVars false
open List renaming getElem?_eq_some_iff → YzN, getElem?_eq_getElem → YzO, getElem?_map → YzP, mem_of_getElem? → YzQ, map_cons → YzR, getElem?_append_left → YzS, map_nil → YzT, getElem?_append_right → YzU, getElem?_set_ne → YzV, getD_eq_getElem?_getD → YzW, append_assoc → YzX, length_eq_zero_iff → YzY, getElem?_set_self → YzZ, mem_singleton → Yz0, mem_iff_getElem? → Yz1, mem_cons_self → Yz2, getElem?_take → Yz3, mem_cons → Yz4, mem_map → Yz5, mem_append → Yz6, length_map → Yz7, getElem?_drop → Yz8, all_eq_true → Yz9, getElem?_eq_none → YAa, length_cons → YAb, map_map → YAc, mem_append_left → YAd, cons_append → YAe, getElem?_range → YAf, take_length → YAg, mem_cons_of_mem → YAh, length_append → YAi, mem_iff_getElem → YAj, append_nil → YAk, getElem?_replicate → YAl, ext_getElem? → YAm, nil_append → YAn, mem_filter → YAo, map_append → YAp, any_eq_true → YAq, getElem?_cons_succ → YAr, drop_zero → YAs, pairwise_cons → YAt, getElem_mem → YAu, mem_of_mem_take → YAv, mem_append_right → YAw, getElem?_eq_none_iff → YAx
namespace Go.Abs
open Go Go.RowKit
section
variable {P : Program} {fm : FM} {w : World} {L : Nat -> Loc}
theorem Yjx {mx : Bool} {k : IntKind} : ∀ {r : List AV} {vs : List Value} {m : Int} {v : AV}, mmF mx k m r = some v -> vs.length = r.length -> (∀ (j : Nat) (a : AV) (y : Value), r[j]? = some a -> vs[j]? = some y -> VR fm w L y a) ->
  ∃ n, v = .v (.int k n) /\ (vs.foldlM (bif mx then Builtin.max2 else Builtin.min2) (.int k m)).run P w = .ok (.int k n) w
 | [], vs, m, v, h, hl, hv => by
   simp only [mmF] at h; injection h with h
   have : vs = [] := YzY.1 hl
   subst this
   exact ⟨m, h.symm, by simp⟩
 | a :: r, [], m, v, h, hl, hv => by simp at hl
 | a :: r, y :: vs, m, v, h, hl, hv => by
   cases a with
   | v x =>
     cases x with
     | int k' n =>
       simp only [mmF] at h
       have hy := Yag (hv 0 _ _ rfl rfl)
       subst hy
       obtain ⟨n', e1, e2⟩ := Yjx (mx := mx) (vs := vs) h (by simpa using hl) (fun j a y hj hy => hv (j + 1) a y (by simpa using hj) (by simpa using hy))
       refine ⟨n', e1, ?_⟩
       have e3 : (if n < m then n else m) = min m n := by rw [Int.min_def]; split <;> split <;> omega
       have e4 : (if n > m then n else m) = max m n := by rw [Int.max_def]; split <;> split <;> omega
       cases mx
       ·simp only [cond_false] at e2 ⊢
        simp [List.foldlM_cons, Builtin.min2, e3, e2]
       ·simp only [cond_true] at e2 ⊢
        simp [List.foldlM_cons, Builtin.max2, e4, e2]
     | _ => simp [mmF] at h
   | _ => simp [mmF] at h
theorem YpK {h : HF} {nid : Nat} (hr : HR fm w L h) {a : Act} {env : Env} (he : ER fm w L a env) {t : TypeId} {x : Operand} {g : Bool} {n : Nat} (hg : aggT P t = some g) (hn : YwR P t = some n)
  {dst : Option Tmp} {ty : TypeId} {pos : String} {after : Array Edge} {guard : Option (Nat × Bool)} {K : AV -> List Upd -> Prop}
  (hev : evG (.load g n (YwN fm x)) env h nid K) : Shown P fm { dst, op := .load t x, type := ty, pos, after, guard } a w L h nid K := by
 simp only [evG, opK] at hev
 have hx := Yac he x
 revert hev hx
 cases hp : opd env (YwN fm x) <;> intro hev hx <;> try exact hev.elim
 case rp cs =>
  obtain ⟨b, o, vals, e, hb, hbs, hc, h1, hrr⟩ := Yby hx
  obtain ⟨y, v, k1, k2, k3⟩ := YeY (P := P) (w := w) hg hn hc h1 hrr hev
  exact .pure hr (Yja e k1) k2 k3
 case ptr b i j =>
  obtain ⟨o, ha, e, hi, hev⟩ := hev
  obtain ⟨ad, y, v, e1, k1, k2, k3⟩ := Yi9 hg hn hr ha hx hi hev
  exact .pure hr (Yja e1 k1) k2 k3
theorem YpL {h : HF} {nid : Nat} (hr : HR fm w L h) {a : Act} {env : Env} (he : ER fm w L a env) {t : TypeId} {x y : Operand} {n : Nat} (hn : YwR P t = some n)
  {dst : Option Tmp} {ty : TypeId} {pos : String} {after : Array Edge} {guard : Option (Nat × Bool)} {K : AV -> List Upd -> Prop}
  (hev : evG (.store n (YwN fm x) (YwN fm y)) env h nid K) : Shown P fm { dst, op := .store t x y, type := ty, pos, after, guard } a w L h nid K := by
 simp only [evG, opK] at hev
 have hx := Yac he x
 have hy := Yac he y
 revert hev hx
 cases hp : opd env (YwN fm x) <;> intro hev hx <;> try exact hev.elim
 case ptr b i j =>
  obtain ⟨o, ha, e, hi, cs, hcs, hcn, hje, hk⟩ := hev
  obtain ⟨ad, w', e1, k1, k2, k3⟩ := Ypf hn hr ha hx hi (Ydb hy hcs) hcn hje
  refine ⟨undef, .u, _, w', .inr ⟨?_, rfl⟩, hk, L, k2, LStep.refl _ _, k3, .u _⟩
  simp [execOp, Instr.storeAt, Instr.sureAddr, e1, k1]
theorem Ybz {x : Value} {k : IntKind} {n : Int} {y : Nat} {code : BoundsCode} (hx : x = .int k n) (h0 : 0 <= n) (h1 : n.toNat <= y) (w : World) : (Instr.sliceBound x y code).run P w = .ok n.toNat w := by
 subst hx
 have : 0 <= n /\ n <= (y : Int) := by omega
 simp [Instr.sliceBound, asIntOf, this]
theorem Ydm {a : Act} {env : Env} (he : ER fm w L a env) (b : Bool) {len cap : Nat} {lo hi : Option Operand} {K : Nat -> Nat -> Prop} (_hc : len <= cap)
  (hev : slB env (lo.map (YwN fm)) 0 fun l => slB env (hi.map (YwN fm)) len fun h => K l h) (hK : ∀ l h, K l h -> l <= h /\ h <= cap) :
  ∃ l h, (Instr.sliceBounds b len cap (lo.map a.eval) (hi.map a.eval) none).run P w = .ok (l, h, cap) w /\ K l h := by
 have hint : ∀ (x : Operand) (k : IntKind) (n : Int), opd env (YwN fm x) = .v (.int k n) -> a.eval x = .int k n := fun x k n e => by
  have := Yac he x; rw [e] at this; exact Yag this
 cases lo with
 | none =>
   cases hi with
   | none => exact ⟨0, len, by simp [Instr.sliceBounds], hev⟩
   | some y =>
     obtain ⟨k, n, e, h0, hk⟩ := hev
     obtain ⟨_, h2⟩ := hK _ _ hk
     refine ⟨0, n.toNat, ?_, hk⟩
     simp [Instr.sliceBounds, Ybz (hint y k n e) h0 h2]
 | some x =>
   obtain ⟨k, n, e, h0, hev⟩ := hev
   cases hi with
   | none =>
     obtain ⟨h1, _⟩ := hK _ _ hev
     refine ⟨n.toNat, len, ?_, hev⟩
     simp [Instr.sliceBounds, Ybz (hint x k n e) h0 h1]
   | some y =>
     obtain ⟨k', n', e', h0', hk⟩ := hev
     obtain ⟨h1, h2⟩ := hK _ _ hk
     refine ⟨n.toNat, n'.toNat, ?_, hk⟩
     simp [Instr.sliceBounds, Ybz (hint x k n e) h0 h1, Ybz (hint y k' n' e') h0' h2]
theorem YpM {l : List (List AV)} {h i k : Nat} {e : List AV} (hk : ((l.take h).drop i)[k]? = some e) : l[i + k]? = some e := by
 rw [Yz8, Yz3] at hk
 split at hk
 ·exact hk
 ·cases hk
theorem Ye7 {o : Oper} {op : AOp} (htr : trOp P fm o = some op) {h : HF} {nid : Nat} (hr : HR fm w L h) {a : Act} {env : Env} (he : ER fm w L a env) (hn : h nid = none)
  {K : AV -> List Upd -> Prop} (hev : evG op env h nid K) : Shown P fm o a w L h nid K := by
 have hval : ∀ (x : Operand) (y : Value), opd env (YwN fm x) = .v y -> a.eval x = y := fun x y e => by
  have := Yac he x; rw [e] at this; exact Yag this
 obtain ⟨dst, oop, ty, pos, after, guard⟩ := o
 cases oop <;> simp only [trOp] at htr
 case move x =>
  injection htr with htr; subst htr
  exact .pure hr (by simp [execOp]) hev (Yac he x)
 case assign x =>
  injection htr with htr; subst htr
  exact .pure hr (by simp [execOp]) hev (Yac he x)
 case pick c x y =>
  injection htr with htr; subst htr
  obtain ⟨t, e, hk⟩ := hev
  have hc := hval c _ e
  cases t with
  | true => exact .pure hr (by simp [execOp, hc, asBool]) (hk.1 rfl) (Yac he x)
  | false => exact .pure hr (by simp [execOp, hc, asBool]) (hk.2 rfl) (Yac he y)
 case alloc e =>
  have plain : (Yw3 P e).map .alloc = some op -> Shown P fm { dst, op := .alloc e, type := ty, pos, after, guard } a w L h nid K := by
   intro htr
   cases hz : Yw3 P e with
   | none => simp [hz] at htr
   | some z =>
   simp [hz] at htr; subst htr
   obtain ⟨i, z0, hi, hz0, hzc, hzs, hil, hp, hm, hby, h1⟩ := Ybh hz
   have hcr : CR fm w L z0.cells (z.map zc) := by
    have := YiQ (fm := fm) (w := w) (L := L) z h1
    rwa [<- hzc, Array.toArray_toList, hzc] at this
   have hb := Yi5 hr hn e hcr (by simpa using hp) (by simp [maxEl]; omega)
   simp only [Yz7] at hb
   exact ⟨_, _, _, _, .inl (by simp [execOp, Instr.alloc, zeroValue, typeInfo, hi, hz0, newVar, newRow]), hev, hb⟩
  split at htr
  ·rename_i hbt
   cases hz : Yw3 P e with
   | none => rw [hz] at htr; cases htr
   | some z =>
     rw [hz] at htr
     simp only [Option.bind_some] at htr
     split at htr
     ·injection htr with htr; subst htr
      obtain ⟨v, us, hx, hk⟩ := hev
      simp only [YzT, xF] at hx
      injection hx with hx; injection hx with e1 e2; subst e1; subst e2
      obtain ⟨i, z0, hi, hz0, hzc, hzs, hil, hp, hm, hby, h1⟩ := Ybh hz
      have hzc' : z0.cells = #[.pointer none, .slice none 0 0] := by rw [<- Array.toArray_toList (xs := z0.cells), hzc]
      have hb := Ypj (fm := fm) hr hn
      rw [<- hzc', <- hbt] at hb
      exact ⟨_, _, _, _, .inl (by simp [execOp, Instr.alloc, zeroValue, typeInfo, hi, hz0, newVar, newRow]), hk, hb⟩
     ·exact plain (by rw [hz]; exact htr)
  ·exact plain htr
 case box e x =>
  injection htr with htr; subst htr
  obtain ⟨cs, hcs, h0, hm, hk⟩ := hev
  exact ⟨_, _, _, _, .inl (by simp [execOp, Instr.box, newVar, newRow]), hk, Yi5 hr hn e (Ydb (Yac he x) hcs) h0 hm⟩
 case build t parts =>
  cases hu : P.underlying t with
  | none => simp [hu] at htr
  | some d =>
    cases hz : Yw3 P t with
    | none => cases d <;> simp [hu, hz] at htr
    | some z =>
      obtain ⟨i, z0, hi, hz0, hzc, hzs, hil, hp, hm, hby, h1⟩ := Ybh hz
      have hcr : CR fm w L z0.cells (z.map zc) := by
       have := YiQ (fm := fm) (w := w) (L := L) z h1
       rwa [<- hzc, Array.toArray_toList, hzc] at this
      have fin : ∀ (place : Nat -> Option (Nat × Nat)) (aps : List (Nat × Nat × Opd)), op = .build z aps -> parts.toList.length = aps.length ->
        (∀ (k : Nat) (p : Nat × Operand) (q : Nat × Nat × Opd), parts.toList[k]? = some p -> aps[k]? = some q -> place p.1 = some (q.1, q.2.1) /\ q.2.2 = YwN fm p.2) ->
        (∀ ps, Instr.fill place z0.cells ps = P.built t ps) -> Shown P fm { dst, op := .build t parts, type := ty, pos, after, guard } a w L h nid K := by
       intro place aps hop hlen hcor hpl
       subst hop
       obtain ⟨R', cs, k1, k2, k3⟩ := YiU he place parts.toList aps z0.cells (z.map zc) _ hlen hcor hcr hev
       rw [hpl] at k1
       have hrun := run_build (P := P) w t (parts.map fun p => (p.1, a.eval p.2)) R' (by simpa using k1)
       exact .pure hr (by simp only [execOp, Sem.run_bind]; rw [hrun]; rfl) k3 k2.agg
      cases d with
      | struct fs =>
        simp only [hu, hz] at htr
        cases hm2 : (parts.toList.mapM fun (p : Nat × Operand) => (fs[p.1]?).bind fun f => (YwR P f.type).map fun s => (f.offset, s, YwN fm p.2)) with
        | none => simp [hm2] at htr
        | some aps =>
          simp only [hm2, Option.bind_some] at htr
          split at htr
          ·rename_i hall
           injection htr with htr
           have hpl : ∃ places, fs.toList.mapM (fun f => (P.info? f.type).map fun i => (f.offset, i.size)) = some places /\ ∀ (k : Nat) (f : Field), fs.toList[k]? = some f -> ∃ s, YwR P f.type = some s /\ places[k]? = some (f.offset, s) := by
            clear hm2 htr hcr
            revert hall
            generalize fs.toList = fl
            intro hall
            induction fl with
            | nil => exact ⟨[], rfl, fun k f hk => by simp at hk⟩
            | cons f fl ih =>
              simp only [List.all_cons, Bool.and_eq_true] at hall
              obtain ⟨pl, h1, h2⟩ := ih hall.2
              obtain ⟨s, hs⟩ := Option.isSome_iff_exists.1 hall.1
              have hs' := hs
              unfold YwR at hs
              cases hii : P.info? f.type with
              | none => simp [hii] at hs
              | some ii =>
                simp [hii] at hs
                refine ⟨(f.offset, ii.size) :: pl, by simp [List.mapM_cons, hii, h1], fun k g hk => ?_⟩
                cases k with
                | zero => simp at hk; subst hk; exact ⟨s, hs', by simp [hs]⟩
                | succ k => simpa using h2 k g (by simpa using hk)
           obtain ⟨places, hp1, hp2⟩ := hpl
           have hmem : ∀ (ps : List (Nat × Operand)) (aps : List (Nat × Nat × Opd)), (ps.mapM fun (p : Nat × Operand) => (fs[p.1]?).bind fun f => (YwR P f.type).map fun s => (f.offset, s, YwN fm p.2)) = some aps ->
             ps.length = aps.length /\ ∀ (k : Nat) (p : Nat × Operand) (q : Nat × Nat × Opd), ps[k]? = some p -> aps[k]? = some q -> places.toArray[p.1]? = some (q.1, q.2.1) /\ q.2.2 = YwN fm p.2 := by
            intro ps
            induction ps with
            | nil => intro aps h; simp at h; subst h; exact ⟨rfl, fun k p q hk => by simp at hk⟩
            | cons p ps ih =>
              intro aps h
              simp only [List.mapM_cons, Option.bind_eq_bind, Option.pure_def] at h
              cases hf : fs[p.1]? with
              | none => simp [hf] at h
              | some f =>
                obtain ⟨s, hs, hpk⟩ := hp2 p.1 f (by simpa using hf)
                cases hrest : (ps.mapM fun (p : Nat × Operand) => (fs[p.1]?).bind fun f => (YwR P f.type).map fun s => (f.offset, s, YwN fm p.2)) with
                | none => simp [hf, hs, hrest] at h
                | some rest =>
                  simp [hf, hs, hrest] at h
                  subst h
                  obtain ⟨i1, i2⟩ := ih rest hrest
                  refine ⟨by simp [i1], fun k p' q hk1 hk2 => ?_⟩
                  cases k with
                  | zero => simp at hk1 hk2; subst hk1; subst hk2; exact ⟨by simpa using hpk, rfl⟩
                  | succ k => exact i2 k p' q (by simpa using hk1) (by simpa using hk2)
           obtain ⟨m1, m2⟩ := hmem parts.toList aps hm2
           exact fin (places.toArray[·]?) aps htr.symm m1 m2 (fun ps => by simp [Program.built, hi, hu, hz0, hp1])
          ·cases htr
      | array n e =>
        simp only [hu, hz] at htr
        cases hse : YwR P e with
        | none => simp [hse] at htr
        | some s =>
          simp [hse] at htr
          have hse' := hse
          unfold YwR at hse
          cases hie : P.info? e with
          | none => simp [hie] at hse
          | some ie =>
            simp [hie] at hse
            refine fin (fun i => some (i * s, s)) _ htr.symm (by simp) (fun k p q hk1 hk2 => ?_) (fun ps => by simp [Program.built, hi, hu, hz0, hie, hse])
            rw [YzP, hk1] at hk2
            simp at hk2
            subst hk2
            exact ⟨rfl, rfl⟩
      | _ => simp [hu, hz] at htr
 case buildSlice t len parts =>
  cases hu : P.underlying t with
  | none => simp [hu] at htr
  | some d =>
    cases d with
    | slice e =>
      cases hz : Yw3 P e with
      | none => simp [hu, hz] at htr
      | some z =>
        simp only [hu, hz, Option.bind_some] at htr
        have run : ∀ (R' : Array Value), (∃ i z0, P.info? e = some i /\ i.zero = some z0 /\ i.size = z.length /\ z0.cells.size = z.length /\ z0.cells.toList = z /\ Instr.fill (fun i => some (i * z.length, z.length)) (((Array.range (len * z.length)).map (z0.cells[· % z.length]!))) (parts.toList.map fun p => (p.1, a.eval p.2)) = some R') -> len * z.length <= 2 ^ 24 ->
          (Instr.buildSlice t len (parts.map fun p => (p.1, a.eval p.2))).run P w = .ok (.slice (some ⟨w.heap.size, 0, none⟩) len len) (w.alloc (.cells R' e)) := by
         rintro R' ⟨i, z0, hi, hz0, hil, hz0s, hzc, k1⟩ hbig
         have hbig' : ¬ (2 ^ 24 < len * z.length) := by omega
         by_cases hl0 : len * z.length = 0
         ·have : (Array.range (len * z.length)).map (z0.cells[· % z.length]!) = (Array.range 0).map ((#[] : Array Value)[· % 0]!) := by rw [hl0]; simp
          rw [this] at k1
          simp only [Instr.buildSlice, Sem.run_bind, run_underlying hu, Result.andThen_ok]
          simp [sizeOf, typeInfo, hi, hil, hl0]
          simp at k1
          simp [k1, newRow]
         ·simp only [Instr.buildSlice, Sem.run_bind, run_underlying hu, Result.andThen_ok]
          simp [sizeOf, typeInfo, hi, hil, hbig', hl0, zeroValue, hz0, hz0s]
          try simp at k1
          simp [k1, newRow]
        split at htr
        ·rename_i hh
         simp only [Bool.and_eq_true, decide_eq_true_eq, beq_iff_eq] at hh
         obtain ⟨⟨⟨_, hidx⟩, hlen0⟩, hbig⟩ := hh
         have fin : ∀ (os : Nat), wd os = z.length -> (os = 0 -> e = fm.bu) -> ∀ (e0 : List AV) (l0 : List (List AV)), cellsAll ((parts.toList.map fun p => YwN fm p.2).map (opd env)) = some (e0 :: l0) -> (∀ x ∈ (e0 :: l0), x.length = z.length) -> (e0 :: l0).length <= maxEl ->
           K (.ref nid 0 (e0 :: l0).length) [.push (some ⟨os, e0 :: l0⟩)] -> Shown P fm { dst, op := .buildSlice t len parts, type := ty, pos, after, guard } a w L h nid K := by
          intro os hwd hty e0 l0 hca hall' hml hk
          have hes0 : 0 < z.length := by rw [<- hwd]; exact YiO os
          obtain ⟨i, z0, hi, hz0, hzc, hzs, hil, hp, hm, hby, h1⟩ := Ybh hz
          have hz0s : z0.cells.size = z.length := by rw [hzs, hil]
          have h0 := Ye3 (fm := fm) (w := w) (L := L) z0.cells len (by rw [hzc]; exact h1)
          rw [hzc, hz0s] at h0
          have hpl : parts.toList.length = len := by have := congrArg List.length hidx; simpa using this
          have hcl := Yjj hca
          simp only [Yz7] at hcl
          have hfill := Yjk (env := env) (es := z.length) (parts.toList.map fun p => YwN fm p.2) (e0 :: l0) (List.replicate len (z.map zc)) 0 (fun l => l = e0 :: l0) (by simpa using hca) hall' (by simp [hpl]) (by simp [hpl])
          have hzip : ((parts.toList.map fun p => YwN fm p.2).zipIdx 0 |>.map fun p => (p.2, p.1)) = parts.toList.map fun p => (p.1, YwN fm p.2) := by
           apply YAm
           intro k
           have hk := congrArg (fun l => l[k]?) hidx
           simp only [YzP] at hk
           simp only [YzP, List.getElem?_zipIdx]
           cases hpk : parts.toList[k]? with
           | none => simp
           | some p =>
             rw [hpk] at hk
             have hkl : k < len := by rw [<- hpl]; exact (YzN.1 hpk).1
             rw [YAf hkl] at hk
             simp at hk
             simp [hk]
          rw [hzip] at hfill
          obtain ⟨R', l', k1, k2, rfl⟩ := Ye2 he parts.toList _ _ _ h0 hfill
          have hrun := run R' ⟨i, z0, hi, hz0, hil, hz0s, hzc, k1⟩ hbig
          obtain ⟨hs1, hs2, hs3⟩ := k2
          have hll : (e0 :: l0).length = len := by rw [hcl, <- hpl]
          obtain ⟨g1, g2, g3⟩ := YeW (os := os) (w' := w.alloc (.cells R' e)) (cap := len) (es := z.length) (el := e0 :: l0) (cur := R') (ty := e) hr hn rfl rfl rfl rfl hes0 (by omega) (by simp only [maxEl] at hml; simp only [maxLen]; omega) hs2 (by rw [hs1, hll]) hs3 hwd hty
          refine ⟨_, _, _, _, .inl (by simp only [execOp, Sem.run_bind]; rw [hrun]; rfl), hk, _, g1, g2, g3, ?_⟩
          have := VR.refAt (fm := fm) (w := w.alloc (.cells R' e)) (L := fun a => if a = nid then .cells w.heap.size z.length len else L a) w.heap.size z.length len nid 0 len (by simp) (by omega)
          rw [hll]
          simpa using this
         split at htr
         ·rename_i hbu
          split at htr
          ·rename_i hz1
           injection htr with htr
           subst htr
           obtain ⟨v, us, hx, hk⟩ := hev
           simp only [xF] at hx
           split at hx <;> try (cases hx; done)
           rename_i e0 l0 hca
           obtain ⟨hcond, hx⟩ := cond_ok' hx
           injection hx with hx; injection hx with e1 e2; subst e1; subst e2
           simp only [Bool.and_eq_true, Nat.ble_eq] at hcond
           exact fin 0 (by rw [hz1]; rfl) (fun _ => hbu) e0 l0 hca (fun e he => by rw [hz1]; exact Nat.eq_of_beq_eq_true (Yz9.1 hcond.1 e he)) hcond.2 hk
          ·cases htr
         ·injection htr with htr
          subst htr
          obtain ⟨v, us, hx, hk⟩ := hev
          simp only [xF] at hx
          split at hx <;> try (cases hx; done)
          rename_i e0 l0 hca
          obtain ⟨hcond, hx⟩ := cond_ok' hx
          injection hx with hx; injection hx with e1 e2; subst e1; subst e2
          simp only [Bool.and_eq_true, Nat.blt_eq, Nat.ble_eq] at hcond
          obtain ⟨⟨hes0, hall⟩, hml⟩ := hcond
          exact fin z.length (YaL hes0) (fun h => absurd hes0 (by omega)) e0 l0 hca (fun e he => Nat.eq_of_beq_eq_true (Yz9.1 hall e he)) hml hk
        split at htr
        ·rename_i hbig
         injection htr with htr
         subst htr
         obtain ⟨i, z0, hi, hz0, hzc, hzs, hil, hp, hm, hby, h1⟩ := Ybh hz
         have hz0s : z0.cells.size = z.length := by rw [hzs, hil]
         have h0 := Ye3 (fm := fm) (w := w) (L := L) z0.cells len (by rw [hzc]; exact h1)
         rw [hzc, hz0s] at h0
         obtain ⟨R', l', k1, k2, k3, k4⟩ := Ye2 he parts.toList _ _ _ h0 (YiV _ _ _ hev)
         simp at k4
         have hrun := run R' ⟨i, z0, hi, hz0, hil, hz0s, hzc, k1⟩ hbig
         obtain ⟨hs1, hs2, hs3⟩ := k2
         have hk := Ye1 w L (.cells R' e)
         refine ⟨_, _, [], _, .inl (by simp only [execOp, Sem.run_bind]; rw [hrun]; rfl), k3, L, hk, LStep.refl _ _, Yo2 hr _, ?_⟩
         cases l' with
         | nil => simp at k4; subst k4; exact .emp _
         | cons e0 l0 =>
           rw [<- k4]
           have hget : (w.alloc (.cells R' e)).heap[w.heap.size]? = some (.cells R' e (0, 0)) := heap_alloc_new w _
           have hidx : ∀ i e' j c, (e0 :: l0)[i]? = some e' -> e'[j]? = some c -> i * z.length + j < R'.size := by
            intro i e' j c hi' hj'
            have hil' := (YzN.1 hi').1
            have hjl := (YzN.1 hj').1
            have hee := hs2 e' (YzQ hi')
            have hb : (i + 1) * z.length <= (e0 :: l0).length * z.length := Nat.mul_le_mul_right _ hil'
            rw [Nat.add_mul] at hb
            rw [hs1]; omega
           have := VR.rd (fm := fm) (w := w.alloc (.cells R' e)) (L := L) w.heap.size 0 (e0 :: l0).length z.length (e0 :: l0) (fun i j => R'.getD (i * z.length + j) undef)
            (by simp) hs2 hp (Nat.le_refl _) (fun hb => hb.elim (fun h => h.elim (fun ⟨b, es', cap', hb⟩ => by have := hr.blk hb; omega) (fun ⟨b, i, hb⟩ => by have := hr.mpl hb; omega)) (fun ⟨b, hb⟩ => by have := (hr.hid b _ hb).1; omega)) (by simp)
            (fun i e' j c hi' hj' => by
             rw [cell_of_row _ _ _ R' e (0, 0) hget]
             rw [Nat.zero_add]
             exact YaJ (hidx i e' j c hi' hj'))
            (fun i e' j c hi' hj' => (hs3 i e' j c hi' hj').1)
            (fun i e' j c hi' hj' => (hs3 i e' j c hi' hj').2.mono hk (LStep.refl _ _))
           exact this
        ·cases htr
    | _ => simp [hu] at htr
 case load t x =>
  cases hg : aggT P t with
  | none => simp [hg] at htr
  | some g =>
    cases hs : YwR P t with
    | none => simp [hg, hs] at htr
    | some n =>
      simp [hg, hs] at htr; subst htr
      exact YpK hr he hg hs hev
 case store t x y =>
  cases hs : YwR P t with
  | none => simp [hs] at htr
  | some n =>
    simp [hs] at htr; subst htr
    exact YpL hr he hs hev
 case nilCheck x =>
  injection htr with htr; subst htr
  simp only [evG, opK] at hev
  have hx := Yac he x
  revert hev hx
  cases hp : opd env (YwN fm x) <;> intro hev hx <;> try exact hev.elim
  case rp cs =>
   obtain ⟨b, o, vals, e, _⟩ := Yby hx
   exact .pure hr (by simp [execOp, e]) hev (e ▸ hx)
  case ptr b i j =>
   obtain ⟨ad, e⟩ := Ye5 hx
   exact .pure hr (by simp [execOp, e]) hev (e ▸ hx)
  case clo f cs =>
   obtain ⟨gf, xs, e, _⟩ := Ycm hx
   exact .pure hr (by simp [execOp, e]) hev (e ▸ hx)
 case binOp op' t x y yt =>
  have plain : op = .bin op' (YwN fm x) (YwN fm y) -> Shown P fm { dst, op := .binOp op' t x y yt, type := ty, pos, after, guard } a w L h nid K := by
   intro e; subst e
   simp only [evG, opK] at hev
   have hx := Yac he x
   have hy := Yac he y
   obtain ⟨va, vb, hp, hq⟩ := Ypb hev
   rw [hp] at hx hev
   rw [hq] at hy hev
   obtain ⟨r, k1, k2⟩ := Ypa (P := P) (w := w) (t := t) (ea := x) (eb := y) hev
   have e1 := Yag hx; have e2 := Yag hy
   refine .pure hr ?_ k2 (.v r)
   simp only [execOp, Sem.run_bind] at k1 ⊢
   rw [e1, e2]
   simp only [k1, Result.andThen_ok]
   rfl
  have beq : ∀ ng, (op' = .eql /\ ng = false \/ op' = .neq /\ ng = true) -> P.underlying t = some .bool -> op = .beq ng (YwN fm x) (YwN fm y) -> Shown P fm { dst, op := .binOp op' t x y yt, type := ty, pos, after, guard } a w L h nid K := by
   intro ng hng hu e; subst e
   obtain ⟨s, e1, t', e2, hk⟩ := hev
   have h1 := hval x _ e1; have h2 := hval y _ e2
   refine .pure hr ?_ hk (.v _)
   rcases hng with ⟨rfl, rfl⟩ | ⟨rfl, rfl⟩ <;> simp [execOp, eqGuard, h1, h2, binOp, Op.equal, Op.maxDepth, run_equalIn_bool' w _ t s t' hu]
  have beqa : ∀ ng, (op' = .eql /\ ng = false \/ op' = .neq /\ ng = true) -> (∃ fs, P.underlying t = some (.struct fs)) -> ∀ ks, Yxr P 9 t = some ks -> P.eqGuardType P.depth t = false -> op = .eqa ng ks (YwN fm x) (YwN fm y) -> Shown P fm { dst, op := .binOp op' t x y yt, type := ty, pos, after, guard } a w L h nid K := by
   intro ng hng hst ks hks hgd e; subst e
   obtain ⟨cs, ds, r, e1, e2, heq, hk⟩ := hev
   have h1 := Yac he x; rw [e1] at h1
   have h2 := Yac he y; rw [e2] at h2
   obtain ⟨xs, ex, cx⟩ := Ybi h1
   obtain ⟨ys, ey, cy⟩ := Ybi h2
   obtain ⟨fs, hu⟩ := hst
   obtain ⟨va, vb, p1, p2, p3⟩ := Yo0 (P := P) (fm := fm) (w := w) (L := L) 9 9991 t ks hks xs ys 0 cs ds r ⟨by rw [cx.1]; simp, fun j c hc => by simpa using (cx.2 j c hc).2⟩ ⟨by rw [cy.1]; simp, fun j c hc => by simpa using (cy.2 j c hc).2⟩ heq
   obtain ⟨l1, l2⟩ := Ycj heq
   have hsz : YwR P t = some ks.length := by
    unfold Yxr at hks
    simp only [hu] at hks
    split at hks
    ·cases hks
    ·split at hks
     ·split at hks
      ·injection hks with hks; subst hks; assumption
      ·cases hks
     ·cases hks
   have whole : ∀ (zs : Array Value) (v : Value), zs.size = ks.length -> (part t zs 0).run P w = .ok v w -> v = .agg zs := by
    intro zs v hz hp
    have hg : aggT P t = some true := by simp [aggT, hu]
    simp only [part, Sem.run_bind, Ybw hg, Result.andThen_ok, if_true, YaI hsz, Sem.run_pure] at hp
    injection hp with hp
    rw [<- hp, Nat.zero_add, <- hz]
    simp
   have w1 := whole xs va (by rw [cx.1, l1]) p1
   have w2 := whole ys vb (by rw [cy.1, l2]) p2
   subst w1; subst w2
   refine .pure hr ?_ hk (.v _)
   rcases hng with ⟨rfl, rfl⟩ | ⟨rfl, rfl⟩ <;> simp [execOp, ex, ey, run_eqGuard_agg w _ t x y xs ys hgd, run_eql_struct, run_neq_struct, p3]
  cases op' <;> simp only at htr
  case eql =>
   cases hu : P.underlying t with
   | none => simp [hu] at htr
   | some d =>
     rw [hu] at htr
     cases d <;> simp only at htr <;> try (cases htr; done)
     case slice e =>
      split at htr
      ·injection htr with htr; subst htr
       obtain ⟨r, hr', hk⟩ := hev
       have hx := Yac he x
       have fin : ∀ A l c, a.eval x = .slice A l c -> r = .v (.bool (bif false then !A.isNone else A.isNone)) -> Shown P fm { dst, op := .binOp .eql t x (.const (.slice none 0 0)) yt, type := ty, pos, after, guard } a w L h nid K := by
        intro A l c ex er; subst er
        refine .pure hr ?_ hk (.v _)
        simp [execOp, eqGuard, show a.eval (.const (.slice none 0 0)) = .slice none 0 0 from rfl, ex, run_eql_slice_nil w t e A l c hu]
       revert hr' hx
       simp only [YzR, YzT]
       cases hp : opd env (YwN fm x) <;> intro hr' hx <;> try (simp [pvF] at hr'; done)
       case v y =>
        have ex := Yag hx
        cases y <;> simp only [pvF] at hr' <;> try (cases hr'; done)
        injection hr' with hr'
        exact fin _ _ _ ex hr'.symm
       case rd es l =>
        cases l with
        | nil => simp [pvF] at hr'
        | cons e0 l0 =>
          simp only [pvF] at hr'; injection hr' with hr'
          rcases Ybj hx with ⟨h0, _⟩ | ⟨b, o, c, vals, ex, _⟩
          ·cases h0
          ·exact fin _ _ _ ex hr'.symm
      ·cases htr
     case bool => injection htr with htr; exact beq false (.inl ⟨rfl, rfl⟩) hu htr.symm
     case int => injection htr with htr; exact plain htr.symm
     case string => injection htr with htr; exact plain htr.symm
     case struct fs =>
      split at htr
      ·cases htr
      ·rename_i hgd
       cases hl : Yxr P 9 t with
       | none => simp [hl] at htr
       | some ks => simp [hl] at htr; exact beqa false (.inl ⟨rfl, rfl⟩) ⟨fs, hu⟩ ks hl (by simpa using hgd) htr.symm
  case neq =>
   cases hu : P.underlying t with
   | none => simp [hu] at htr
   | some d =>
     rw [hu] at htr
     cases d <;> simp only at htr <;> try (cases htr; done)
     case slice e =>
      split at htr
      ·injection htr with htr; subst htr
       obtain ⟨r, hr', hk⟩ := hev
       have hx := Yac he x
       have fin : ∀ A l c, a.eval x = .slice A l c -> r = .v (.bool (bif true then !A.isNone else A.isNone)) -> Shown P fm { dst, op := .binOp .neq t x (.const (.slice none 0 0)) yt, type := ty, pos, after, guard } a w L h nid K := by
        intro A l c ex er; subst er
        refine .pure hr ?_ hk (.v _)
        simp [execOp, eqGuard, show a.eval (.const (.slice none 0 0)) = .slice none 0 0 from rfl, ex, run_neq_slice_nil w t e A l c hu]
       revert hr' hx
       simp only [YzR, YzT]
       cases hp : opd env (YwN fm x) <;> intro hr' hx <;> try (simp [pvF] at hr'; done)
       case v y =>
        have ex := Yag hx
        cases y <;> simp only [pvF] at hr' <;> try (cases hr'; done)
        injection hr' with hr'
        exact fin _ _ _ ex hr'.symm
       case rd es l =>
        cases l with
        | nil => simp [pvF] at hr'
        | cons e0 l0 =>
          simp only [pvF] at hr'; injection hr' with hr'
          rcases Ybj hx with ⟨h0, _⟩ | ⟨b, o, c, vals, ex, _⟩
          ·cases h0
          ·exact fin _ _ _ ex hr'.symm
      ·cases htr
     case bool => injection htr with htr; exact beq true (.inr ⟨rfl, rfl⟩) hu htr.symm
     case int => injection htr with htr; exact plain htr.symm
     case string => injection htr with htr; exact plain htr.symm
     case struct fs =>
      split at htr
      ·cases htr
      ·rename_i hgd
       cases hl : Yxr P 9 t with
       | none => simp [hl] at htr
       | some ks => simp [hl] at htr; exact beqa true (.inr ⟨rfl, rfl⟩) ⟨fs, hu⟩ ks hl (by simpa using hgd) htr.symm
  all_goals (injection htr with htr; exact plain htr.symm)
 case unOp op' t x =>
  cases op' <;> simp only at htr <;> try (cases htr; done)
  case not =>
   injection htr with htr; subst htr
   obtain ⟨b, e, hk⟩ := hev
   exact .pure hr (by simp [execOp, hval x _ e, Op.unary]) hk (.v _)
  case neg =>
   injection htr with htr; subst htr
   obtain ⟨k, n, e, hk⟩ := hev
   exact .pure hr (by simp [execOp, hval x _ e, Op.unary, Op.intArith]) hk (.v _)
 case convert s d x =>
  cases hs : P.underlying s with
  | none => simp [hs] at htr
  | some ds =>
    cases hd : P.underlying d with
    | none => cases ds <;> simp [hs, hd] at htr
    | some dd =>
      cases ds <;> cases dd <;> simp only [hs, hd] at htr <;> try (cases htr; done)
      case string.slice e =>
       cases he' : P.underlying e with
       | none => rw [he'] at htr; cases htr
       | some de =>
         rw [he'] at htr
         cases de <;> (try simp only at htr) <;> try (cases htr; done)
         rename_i k
         cases k <;> (try simp only at htr) <;> try (cases htr; done)
         injection htr with htr; subst htr
         obtain ⟨r, hpv, hk⟩ := hev
         simp only [YzR, YzT] at hpv
         cases hp : opd env (YwN fm x) with
         | v y =>
           rw [hp] at hpv
           cases y with
           | string str =>
             simp only [pvF] at hpv
             injection hpv with hpv; subst hpv
             obtain ⟨y, w', k1, k2, k3, k4⟩ := Ypi (P := P) (w := w) (L := L) hs hd he' hr str
             exact ⟨y, _, [], w', .inl (by simp [execOp, hval x _ hp, k1]), hk, L, k2, LStep.refl _ _, k3, k4⟩
           | _ => simp [pvF] at hpv
         | _ => rw [hp] at hpv; simp [pvF] at hpv
      case slice.string e =>
       cases he' : P.underlying e with
       | none => rw [he'] at htr; cases htr
       | some de =>
         rw [he'] at htr
         cases de <;> (try simp only at htr) <;> try (cases htr; done)
         rename_i k
         cases k <;> (try simp only at htr) <;> try (cases htr; done)
         injection htr with htr; subst htr
         obtain ⟨v, us, hx, hk⟩ := hev
         have hvx := Yac he x
         have fin : ∀ (l : List (List AV)) (b : List UInt8), VR fm w L (a.eval x) (.rd 1 l) -> Yxf l = some b -> v = .v (.string ⟨b.toArray⟩) -> us = [] -> Shown P fm { dst, op := .convert s d x, type := ty, pos, after, guard } a w L h nid K := by
          intro l b h1 h2 h3 h4
          subst h3; subst h4
          exact .pure hr (by simp [execOp, Yji (P := P) hs he' hd h1 h2]) hk (.v _)
         simp only [YzR, YzT] at hx
         revert hx hvx
         cases hp : opd env (YwN fm x) <;> intro hvx hx <;> (try simp only [xF] at hx) <;> try (cases hx; done)
         case emp =>
          injection hx with hx; injection hx with e1 e2
          obtain ⟨A, ex⟩ := YaM hvx
          exact fin [] [] (by rw [ex]; exact .rd0 _ _ _) rfl e1.symm e2.symm
         case rd es l =>
          obtain ⟨h1, hx⟩ := cond_ok' hx
          split at hx
          ·rename_i b hb
           injection hx with hx; injection hx with e1 e2
           have := Nat.eq_of_beq_eq_true h1; subst this
           exact fin l b hvx hb e1.symm e2.symm
          ·cases hx
         case ref b off len =>
          split at hx
          ·rename_i o ho
           obtain ⟨h1, hx⟩ := cond_ok' hx
           simp only [Bool.and_eq_true, Nat.beq_eq, Nat.ble_eq] at h1
           obtain ⟨⟨h1, h2⟩, h3⟩ := h1
           split at hx
           ·rename_i bs hb
            injection hx with hx; injection hx with e1 e2
            subst h2
            have hrd := Yjb hr ho h3 hvx
            rw [h1] at hrd
            subst e1; subst e2
            exact .pure hr (by simp [execOp, Yji (P := P) hs he' hd hrd hb]) hk (.v _)
           ·cases hx
          ·cases hx
      all_goals (injection htr with htr; subst htr)
      case int.int k' k =>
       obtain ⟨kk, n, e, hk⟩ := hev
       exact .pure hr (by simp [execOp, hval x _ e, convert, run_underlying hs, run_underlying hd, Conv.intToInt]) hk (.v _)
      case string.string =>
       obtain ⟨sx, e, hk⟩ := hev
       exact .pure hr (by simp [execOp, hval x _ e, convert, run_underlying hs, run_underlying hd]) hk (.v _)
 case fieldAddr s x f =>
  cases hs : P.underlying s with
  | none => simp [hs] at htr
  | some d =>
    cases d <;> simp only [hs] at htr <;> try (cases htr; done)
    case struct fs =>
     cases hf : fs[f]? with
     | none => simp [hf] at htr
     | some fd =>
       cases hn2 : YwR P fd.type with
       | none => simp [hf, hn2] at htr
       | some n =>
         simp only [hf, hn2, Option.bind_some] at htr
         split at htr
         ·cases htr
         ·rename_i hn0
          injection htr with htr; subst htr
          simp only [evG, opK] at hev
          have hx := Yac he x
          have run : ∀ ad, a.eval x = .pointer (some ad) -> (execOp a.eval { dst, op := .fieldAddr s x f, type := ty, pos, after, guard }).run P w = .ok (.value (.pointer (some (ad.add fd.offset)))) w := by
           intro ad e
           simp [execOp, e, Instr.fieldAt, run_underlying hs, hf, Instr.sureAddr, fieldPlace, YaI hn2, hn0]
          revert hev hx
          cases hp : opd env (YwN fm x) <;> intro hev hx <;> try exact hev.elim
          case rp cs =>
           obtain ⟨b, o, vals, e, hb, hbs, hc, h1, hrr⟩ := Yby hx
           refine .pure hr (run _ e) hev ?_
           rw [Ya5]
           refine .rp b (o + fd.offset) _ (fun j => vals (fd.offset + j)) hb hbs (fun j y hj => ?_) (fun j y hj => ?_) (fun j y hj => ?_)
           all_goals rw [Yz8] at hj
           ·have := hc _ y hj; rwa [<- Nat.add_assoc] at this
           ·exact h1 _ y hj
           ·exact hrr _ y hj
          case ptr b i j =>
           obtain ⟨ad, e⟩ := Ye5 hx
           rw [e] at hx
           exact .pure hr (run _ e) hev (Yi7 fd.offset hx)
 case field s x f =>
  cases hs : P.underlying s with
  | none => simp [hs] at htr
  | some d =>
    cases d <;> simp only [hs] at htr <;> try (cases htr; done)
    case struct fs =>
     cases hf : fs[f]? with
     | none => simp [hf] at htr
     | some fd =>
       cases hg : aggT P fd.type with
       | none => simp [hf, hg] at htr
       | some g =>
         cases hn2 : YwR P fd.type with
         | none => simp [hf, hg, hn2] at htr
         | some n =>
           simp [hf, hg, hn2] at htr; subst htr
           obtain ⟨cs, e, hle, hk⟩ := hev
           have hx := Yac he x; rw [e] at hx
           obtain ⟨xs, ex, cx⟩ := Ybi hx
           obtain ⟨y, v, k1, k2, k3⟩ := Yo9 hg hn2 cx hle hk
           exact .pure hr (by simp [execOp, ex, Instr.field, run_underlying hs, hf, asAgg, k1]) k2 k3
 case indexAddr t x i =>
  cases hs : P.underlying t with
  | none => simp [hs] at htr
  | some d =>
    cases d <;> simp only [hs] at htr <;> try (cases htr; done)
    case slice e =>
     cases hn2 : YwR P e with
     | none => simp [hn2] at htr
     | some sz =>
       simp [hn2] at htr; subst htr
       simp only [evG, opK] at hev
       obtain ⟨k, n, ei, hev⟩ := hev
       have hi := hval i _ ei
       have hx := Yac he x
       have run : ∀ (ad : Addr) (len c : Nat), a.eval x = .slice (some ad) len c -> 0 <= n -> n < (len : Int) ->
         (execOp a.eval { dst, op := .indexAddr t x i, type := ty, pos, after, guard }).run P w = .ok (.value (.pointer (some (ad.add (n.toNat * sz))))) w := by
        intro ad len c ex h0 h1
        have : 0 <= n /\ n < (len : Int) := ⟨h0, h1⟩
        simp [execOp, ex, hi, Instr.indexAt, asIntOf, run_underlying hs, YaI hn2, this]
       revert hev hx
       cases hp : opd env (YwN fm x) <;> intro hev hx <;> try exact hev.elim
       case rd es l =>
        obtain ⟨hes, h0, el, hel, hk⟩ := hev
        subst hes
        have hil := (YzN.1 hel).1
        rcases Ybj hx with ⟨e0, _⟩ | ⟨b, o, c, vals, ex, hne, hall, hes0, hlc, hb, hbs, hc, h1, hrr⟩
        ·subst e0; simp at hel
        ·refine .pure hr (run _ _ _ ex h0 (by omega)) hk ?_
         rw [Ya5]
         exact .rp b _ el (fun j => vals n.toNat j) hb hbs (fun j y hj => hc _ el j y hel hj) (fun j y hj => h1 _ el j y hel hj) (fun j y hj => hrr _ el j y hel hj)
       case ref b off len =>
        obtain ⟨o, ha, hes, hle, h0, h1, hk⟩ := hev
        subst hes
        rcases YaY hr ha hx with ⟨g, es, cap, hL, e1, e2, ex⟩ | ⟨A, _, hL, _, e1, e2, ex⟩
        ·subst e1
         refine .pure hr (run _ _ _ ex h0 h1) hk ?_
         rw [Ya5, <- Nat.add_mul]
         have := VR.ptrAt (fm := fm) (w := w) (L := L) g (wd o.es) cap b (off + n.toNat) 0 hL
         simpa using this
        ·omega
    case array len e =>
     cases hn2 : YwR P e with
     | none => simp [hn2] at htr
     | some sz =>
       simp [hn2] at htr; subst htr
       simp only [evG, opK] at hev
       obtain ⟨k, n, ei, h0, h1, hev⟩ := hev
       have hi := hval i _ ei
       have hx := Yac he x
       have run : ∀ (ad : Addr), a.eval x = .pointer (some ad) ->
         (execOp a.eval { dst, op := .indexAddr t x i, type := ty, pos, after, guard }).run P w = .ok (.value (.pointer (some (ad.add (n.toNat * sz))))) w := by
        intro ad ex
        have : 0 <= n /\ n < (len : Int) := ⟨h0, h1⟩
        simp [execOp, ex, hi, Instr.indexAt, asIntOf, run_underlying hs, YaI hn2, this, Instr.sureAddr]
       revert hev hx
       cases hp : opd env (YwN fm x) <;> intro hev hx <;> try exact hev.elim
       case rp cs =>
        obtain ⟨b, o, vals, e, hb, hbs, hc, h1, hrr⟩ := Yby hx
        refine .pure hr (run _ e) hev ?_
        rw [Ya5]
        refine .rp b (o + n.toNat * sz) _ (fun j => vals (n.toNat * sz + j)) hb hbs (fun j y hj => ?_) (fun j y hj => ?_) (fun j y hj => ?_)
        all_goals rw [Yz8] at hj
        ·have := hc _ y hj; rwa [<- Nat.add_assoc] at this
        ·exact h1 _ y hj
        ·exact hrr _ y hj
       case ptr b i' j =>
        obtain ⟨ad, e⟩ := Ye5 hx
        rw [e] at hx
        exact .pure hr (run _ e) hev (Yi7 _ hx)
 case index t x i =>
  cases hs : P.underlying t with
  | none => simp [hs] at htr
  | some d =>
    cases d <;> simp only [hs] at htr <;> try (cases htr; done)
    case string =>
     injection htr with htr; subst htr
     obtain ⟨s, ex, k, n, ei, h0, b, hb, hk⟩ := hev
     have h1 := hval x _ ex; have h2 := hval i _ ei
     exact .pure hr (by simp [execOp, h1, h2, Instr.index, asIntOf, run_underlying hs, h0, hb]) hk (.v _)
 case slice t x lo hi mx =>
  cases mx with
  | some m =>
    cases lo with
    | none => simp at htr
    | some lo =>
      cases hi with
      | none => simp at htr
      | some hi =>
        simp only at htr
        cases hs : P.underlying t with
        | none => simp [hs] at htr
        | some d =>
          cases d <;> simp only [hs] at htr <;> try (cases htr; done)
          case slice e =>
           cases hz : YwR P e with
           | none => simp [hz] at htr
           | some sz =>
             simp [hz] at htr; subst htr
             obtain ⟨r, hr', hk⟩ := hev
             simp only [YzR, YzT, pvF] at hr'
             split at hr'
             ·rename_i hc
              have zv : ∀ y, YxY (opd env (YwN fm y)) = true -> ∃ k, a.eval y = .int k 0 := by
               intro y hy
               cases hp : opd env (YwN fm y) with
               | v x =>
                 rw [hp] at hy
                 cases x with
                 | int k n => simp [YxY] at hy; subst hy; exact ⟨k, hval y _ hp⟩
                 | _ => simp [YxY] at hy
               | _ => rw [hp] at hy; simp [YxY] at hy
              obtain ⟨k1, e1⟩ := zv lo hc.1
              obtain ⟨k2, e2⟩ := zv hi hc.2.1
              obtain ⟨k3, e3⟩ := zv m hc.2.2
              have hx := Yac he x
              have fin : ∀ A l c, a.eval x = .slice A l c -> r = .emp -> Shown P fm { dst, op := .slice t x (some lo) (some hi) (some m), type := ty, pos, after, guard } a w L h nid K := by
               intro A l c ex er; subst er
               refine .pure hr (x := .slice A 0 0) ?_ hk (.emp A)
               simp [execOp, ex, e1, e2, e3, Instr.sliceAt, Instr.slice, run_underlying hs, Instr.sliceBounds, Ybz (P := P) (w := w) (x := .int k1 0) (n := 0) rfl (Int.le_refl 0) (Nat.zero_le _), Ybz (P := P) (w := w) (x := .int k2 0) (n := 0) rfl (Int.le_refl 0) (Nat.zero_le _), Ybz (P := P) (w := w) (x := .int k3 0) (n := 0) rfl (Int.le_refl 0) (Nat.zero_le _), YaI hz]
              revert hr' hx
              cases hp : opd env (YwN fm x) <;> intro hr' hx <;> try (simp at hr'; done)
              case v y =>
               have ex := Yag hx
               cases y <;> simp only at hr' <;> try (cases hr'; done)
               injection hr' with hr'
               exact fin _ _ _ ex hr'.symm
              case emp =>
               injection hr' with hr'
               obtain ⟨A, ex⟩ := YaM hx
               exact fin _ _ _ ex hr'.symm
              case rd es l =>
               injection hr' with hr'
               obtain ⟨A, c, ex, _⟩ := Ydg hx
               exact fin _ _ _ ex hr'.symm
             ·cases hr'
  | none =>
    simp only at htr
    cases hs : P.underlying t with
    | none => simp [hs] at htr
    | some d =>
      cases d <;> simp only [hs] at htr <;> try (cases htr; done)
      case string =>
       injection htr with htr; subst htr
       obtain ⟨s, ex, hev⟩ := hev
       have h1 := hval x _ ex
       obtain ⟨l, hh, k1, k2, k3, k4⟩ := Ydm (P := P) he false (Nat.le_refl _) hev (fun l h hk => ⟨hk.1, hk.2.1⟩)
       exact .pure hr (by simp [execOp, h1, Instr.sliceAt, Instr.slice, run_underlying hs, k1]) k4 (.v _)
      case slice e =>
       cases hn2 : YwR P e with
       | none => simp [hn2] at htr
       | some sz =>
         simp [hn2] at htr; subst htr
         simp only [evG, opK] at hev
         have hx := Yac he x
         have run : ∀ (A : Option Addr) (len c l h' : Nat), a.eval x = .slice A len c -> (Instr.sliceBounds true len c (lo.map a.eval) (hi.map a.eval) none).run P w = .ok (l, h', c) w ->
           (execOp a.eval { dst, op := .slice t x lo hi none, type := ty, pos, after, guard }).run P w = .ok (.value (.slice (if c = l then A else A.map (·.add (l * sz))) (h' - l) (c - l))) w := by
          intro A len c l h' ex hb
          simp [execOp, ex, Instr.sliceAt, Instr.slice, run_underlying hs, hb, YaI hn2]
         revert hev hx
         cases hp : opd env (YwN fm x) <;> intro hev hx <;> try exact hev.elim
         case emp =>
          obtain ⟨A, ex⟩ := YaM hx
          obtain ⟨l, hh, k1, e1, e2, hk⟩ := Ydm (P := P) he true (Nat.le_refl 0) hev (fun l h hk => ⟨by omega, by omega⟩)
          subst e1; subst e2
          exact .pure hr (run A 0 0 0 0 ex k1) hk (.emp _)
         case ref b off len =>
          obtain ⟨A, c, ex, hlc⟩ := Yi8 hx
          rw [ex] at hx
          obtain ⟨l, hh, k1, e1, e2, hk⟩ := Ydm (P := P) he true hlc hev (fun l h hk => ⟨by omega, by omega⟩)
          subst e1
          refine .pure hr (run A len c 0 hh ex k1) hk ?_
          have : (if c = 0 then A else A.map (·.add (0 * sz))) = A := by
           split
           ·rfl
           ·cases A with
            | none => rfl
            | some ad => simp [Addr.add]
          rw [this]
          exact Ypc e2 hx
         case rd es l0 =>
          obtain ⟨A, c, ex, hlc⟩ := Ydg hx
          obtain ⟨hes, hev⟩ := hev
          subst hes
          obtain ⟨l, hh, k1, e1, e2, hk⟩ := Ydm (P := P) he true hlc hev (fun l h hk => ⟨by omega, by omega⟩)
          refine .pure hr (run A _ c l hh ex k1) hk ?_
          by_cases hem : hh - l = 0
          ·have : (l0.take hh).drop l = [] := by
            apply List.eq_nil_of_length_eq_zero
            simp; omega
           rw [this, hem]
           exact .rd0 _ es _
          ·rcases Ybj hx with ⟨e0, _⟩ | ⟨b, o, c', vals, ex', hne, hall, hes0, hlc', hb, hbs, hc, h1, hrr⟩
           ·subst e0; simp at e2; omega
           ·rw [ex] at ex'
            injection ex' with e3 e4 e5
            subst e3; subst e5
            have hcl : ¬ c = l := by omega
            simp only [hcl, if_false, Option.map_some, Ya5]
            have hrows : ∀ i e, ((l0.take hh).drop l)[i]? = some e -> l0[l + i]? = some e := fun i e hi => YpM hi
            have hlen : ((l0.take hh).drop l).length = hh - l := by simp; omega
            have := VR.rd (fm := fm) (w := w) (L := L) b (o + l * es) (c - l) es ((l0.take hh).drop l) (fun i j => vals (l + i) j)
             (fun e0 => hem (by rw [<- hlen, e0]; rfl)) (fun e he' => hall e (YAv (List.mem_of_mem_drop he'))) hes0 (by rw [hlen]; omega) hb hbs
             (fun i e j y hi hj => by
              have := hc _ e j y (hrows i e hi) hj
              rw [Nat.add_mul, <- Nat.add_assoc] at this
              exact this)
             (fun i e j y hi hj => h1 _ e j y (hrows i e hi) hj)
             (fun i e j y hi hj => hrr _ e j y (hrows i e hi) hj)
            rwa [hlen] at this
 case extract x i =>
  injection htr with htr; subst htr
  obtain ⟨l, e, b, hb, hk⟩ := hev
  have hx := Yac he x; rw [e] at hx
  obtain ⟨xs, ex, hsz, hall⟩ := Ydf hx
  have hlt : i < xs.size := by rw [hsz]; exact (YzN.1 hb).1
  refine .pure hr (x := xs.getD i undef) ?_ hk (hall i b hb)
  have := YaJ hlt
  simp only [execOp, ex, Instr.extract, this, Sem.run_bind, Sem.run_pure, Result.andThen_ok]
 case makeSlice t n c =>
  cases hs : P.underlying t with
  | none => simp [hs] at htr
  | some d =>
    cases d <;> simp only [hs] at htr <;> try (cases htr; done)
    case slice e =>
     cases hz : Yw3 P e with
     | none => simp [hz] at htr
     | some z =>
       simp [hz] at htr; subst htr
       obtain ⟨k, n', en, k', c', ec, h0, h1, h2, hk⟩ := hev
       obtain ⟨i, z0, hi, hz0, hzc, hzs, hil, hp, hm, hby, hz1⟩ := Ybh hz
       have hz0s : z0.cells.size = z.length := by rw [hzs, hil]
       have en' := hval n _ en; have ec' := hval c _ ec
       have hbnd : (i.bytes : Int) * c' <= 281474976710656 := by
        have h3 : i.bytes * c'.toNat <= 1024 * maxEl := Nat.mul_le_mul hby (by omega)
        have h4 : ((i.bytes * c'.toNat : Nat) : Int) <= ((1024 * maxEl : Nat) : Int) := Int.ofNat_le.2 h3
        rw [Int.natCast_mul, Int.toNat_of_nonneg (by omega)] at h4
        have : ((1024 * maxEl : Nat) : Int) <= 281474976710656 := by decide
        omega
       have hm' : (maxEl : Int) = 1073741824 := rfl
       have hrun := run_make (P := P) w t e i z0 hs hi hz0 k k' n' c' h0 h1 hbnd (by omega)
       have hero := Ye3 (fm := fm) (w := w) (L := L) z0.cells c'.toNat (by rw [hzc]; exact hz1)
       rw [hzc, hz0s] at hero
       have hrep : List.replicate c'.toNat (z.map zc) = List.replicate n'.toNat (z.map zc) ++ List.replicate (c'.toNat - n'.toNat) (z.map zc) := by
        rw [List.replicate_append_replicate]; congr 1; omega
       obtain ⟨k1, k2, k3⟩ := YeX (w' := w.alloc (.cells (madeCells z0.cells (c'.toNat * i.size)) e)) (cap := c'.toNat) (es := z.length) (el := List.replicate n'.toNat (z.map zc))
        (cur := madeCells z0.cells (c'.toNat * i.size)) (ty := e) hr hn rfl rfl rfl rfl hp (by simp; omega) (by simp only [maxLen]; omega) (fun e' he' => by rw [(List.mem_replicate.1 he').2]; simp)
        (by rw [size_madeCells, hil])
        (fun i' e' j x hi' hj' => by
         have := hero.2.2 i' e' j x (by
          rw [hrep, YzS (YzN.1 hi').1]; exact hi') hj'
         unfold madeCells
         rw [hil, hz0s]
         exact this)
       refine ⟨_, _, _, _, .inl (by simp only [execOp, en', ec', Sem.run_bind, hrun, Result.andThen_ok]; rfl), hk, _, k1, k2, k3, ?_⟩
       have := VR.refAt (fm := fm) (w := w.alloc (.cells (madeCells z0.cells (c'.toNat * i.size)) e)) (L := fun a => if a = nid then .cells w.heap.size z.length c'.toNat else L a)
        w.heap.size z.length c'.toNat nid 0 n'.toNat (by simp) (by omega)
       simpa using this
 case makeFunc f first caps =>
  cases f <;> simp only at htr <;> try (cases htr; done)
  case func f =>
   split at htr
   ·rename_i hem
    injection htr with htr; subst htr
    have hfe : first = #[] := by simpa using hem
    subst hfe
    refine .pure hr (x := .func (.func f) #[] (caps.map a.eval)) (by simp [execOp, Instr.makeFunc]) hev ?_
    refine .clo f _ _ (by simp) (fun j c hj => ?_)
    rw [YAc, YzP] at hj
    cases hc : caps.toList[j]? with
    | none => simp [hc] at hj
    | some y =>
      simp [hc] at hj
      subst hj
      have hlt : j < caps.size := by have := (YzN.1 hc).1; simpa using this
      have e1 : (caps.map a.eval).getD j undef = a.eval y := by
       have h2 := (YzN.1 hc).2
       simp [Array.getD, hlt]
       simp at h2
       rw [h2]
      rw [e1]
      exact Yac he y
   ·cases htr
 case call c =>
  obtain ⟨callee, args, ats⟩ := c
  cases callee with
  | invoke r m => cases htr
  | value f =>
    cases f with
    | func f =>
      simp only at htr
      split at htr
      ·injection htr with htr; subst htr; exact hev.elim
      ·split at htr <;> try (cases htr; done)
       rename_i fn hfn
       split at htr <;> try (cases htr; done)
       rename_i hbo
       simp only [Bool.or_eq_true, Bool.not_eq_true', not_or, Bool.not_eq_true, Bool.not_eq_false, beq_iff_eq] at hbo
       have ext : ∀ (k : POp) (g : Array Value -> Sem Value), (∀ (xs : List AV) (vs : List Value) (r : AV), pvF k xs = some r -> vs.length = xs.length -> (∀ (j : Nat) (c : AV) (y : Value), xs[j]? = some c -> vs[j]? = some y -> VR fm w L y c) -> ∃ y, (g vs.toArray).run P w = .ok y w /\ VR fm w L y r) ->
         Extern.findNext fn = none -> Extern.find fn = some g -> (fn.name == "runtime.NumGoroutine") = false -> op = .pv k (args.toList.map (YwN fm)) -> Shown P fm { dst, op := .call ⟨.value (.func f), args, ats⟩, type := ty, pos, after, guard } a w L h nid K := by
        intro k g hg h1 h2 h3 hop
        subst hop
        obtain ⟨r, hr', hk⟩ := hev
        obtain ⟨y, hy1, hy2⟩ := hg _ (args.toList.map a.eval) r hr' (by simp) (fun j c y hj hy => by
         simp only [YAc, YzP, Option.map_eq_some_iff, Function.comp] at hj hy
         obtain ⟨u, h1, rfl⟩ := hj
         obtain ⟨u', h2, rfl⟩ := hy
         rw [h1] at h2; injection h2 with h2; subst h2
         exact Yac he u)
        refine .pure hr ?_ hk hy2
        have hb : fn.body.isNone = true := by cases hfb : fn.body with | none => rfl | some c => rw [hfb] at hbo; simp at hbo
        have e3 : (args.map a.eval) = (args.toList.map a.eval).toArray := by apply Array.ext'; simp
        have hc := run_callFunc_extern hfn h3 hb h1 h2 (args.toList.map a.eval).toArray w
        rw [hy1] at hc
        unfold execOp
        simp only [resolve, Deferred.ofValue, Act.eval, invoke, Sem.run_bind, Sem.run_pure, Result.andThen]
        simp [e3, hc, Result.andThen]
       split at htr
       ·rename_i hname
        injection htr with htr
        refine ext .add64 _ Ypm (Yjl (n := "math/bits.Add64") hname hbo.2 (by kernel_rfl)) (Yjm (n := "math/bits.Add64") hname (by kernel_rfl) (by kernel_rfl) (by kernel_rfl)) (by rw [hname]; rfl) htr.symm
       ·split at htr <;> try (cases htr; done)
        rename_i hname
        injection htr with htr
        refine ext .sub64 _ Ypn (Yjl (n := "math/bits.Sub64") hname hbo.2 (by kernel_rfl)) (Yjm (n := "math/bits.Sub64") hname (by kernel_rfl) (by kernel_rfl) (by kernel_rfl)) (by rw [hname]; rfl) htr.symm
    | tmp t => injection htr with htr; subst htr; exact hev.elim
    | _ => cases htr
  | builtin b =>
    have mm : ∀ mx, (b = bif mx then .max else .min) -> (if args.size = 0 then none else some (AOp.pv (.mm mx) (args.toList.map (YwN fm)))) = some op -> Shown P fm { dst, op := .call ⟨.builtin b, args, ats⟩, type := ty, pos, after, guard } a w L h nid K := by
     intro mx hb htr
     split at htr
     ·cases htr
     ·rename_i h0
      injection htr with htr; subst htr
      obtain ⟨r, hr', hk⟩ := hev
      have hall : ∀ (j : Nat) (c : AV) (y : Value), (args.toList.map fun x => opd env (YwN fm x))[j]? = some c -> (args.toList.map a.eval)[j]? = some y -> VR fm w L y c := by
       intro j c y h1 h2
       simp only [YzP, Option.map_eq_some_iff] at h1 h2
       obtain ⟨u, h1, rfl⟩ := h1
       obtain ⟨u', h2, rfl⟩ := h2
       rw [h1] at h2; injection h2 with h2; subst h2
       exact Yac he u
      rw [YAc] at hr'
      cases hal : args.toList with
      | nil => exact absurd (by simpa using congrArg List.length hal) h0
      | cons x0 xr =>
        rw [hal] at hr' hall
        simp only [YzR, Function.comp_def] at hr' hall
        have hx0 := Yac he x0
        revert hr' hx0
        cases hp : opd env (YwN fm x0) <;> intro hr' hx0 <;> try (simp [pvF] at hr'; done)
        case v y =>
         cases y with
         | int k m =>
           have ex := Yag hx0
           simp only [pvF] at hr'
           obtain ⟨n, e1, e2⟩ := Yjx (P := P) (fm := fm) (w := w) (L := L) hr' (vs := xr.map a.eval) (by simp) (fun j c y h1 h2 => hall (j + 1) c y (by simpa using h1) (by simpa using h2))
           subst e1
           refine .pure hr ?_ hk (.v _)
           have e3 : (args.map a.eval).toList = .int k m :: xr.map a.eval := by simp [hal, ex]
           cases mx
           ·simp only [cond_false] at hb e2; subst hb
            have hm : (Builtin.min_ ats ty (args.map a.eval)).run P w = .ok (.int k n) w := by
             unfold Builtin.min_; rw [e3]; exact e2
            simp [execOp, resolve, invoke, builtin, hm]
           ·simp only [cond_true] at hb e2; subst hb
            have hm : (Builtin.max_ ats ty (args.map a.eval)).run P w = .ok (.int k n) w := by
             unfold Builtin.max_; rw [e3]; exact e2
            simp [execOp, resolve, invoke, builtin, hm]
         | _ => simp [pvF] at hr'
    cases b <;> simp only at htr <;> try (cases htr; done)
    case len =>
     have hats : ∀ d, (ats[0]?).bind P.underlying = some d -> ∃ t, ats[0]? = some t /\ P.underlying t = some d := by
      intro d h
      cases h0 : ats[0]? with
      | none => simp [h0] at h
      | some t => exact ⟨t, rfl, by simpa [h0] using h⟩
     split at htr
     ·rename_i x hat hargs
      injection htr with htr; subst htr
      have hargs' : args = #[x] := by rw [<- Array.toArray_toList (xs := args), hargs]
      subst hargs'
      obtain ⟨t, h0, hu⟩ := hats _ hat
      obtain ⟨s, ex, hk⟩ := hev
      refine .pure hr ?_ hk (.v _)
      simp [execOp, resolve, invoke, builtin, Builtin.len_, h0, run_underlying hu, hval x _ ex, goInt]
     ·rename_i e x hat hargs
      injection htr with htr; subst htr
      have hargs' : args = #[x] := by rw [<- Array.toArray_toList (xs := args), hargs]
      subst hargs'
      obtain ⟨t, h0, hu⟩ := hats _ hat
      have run : ∀ A n c, a.eval x = .slice A n c -> (execOp a.eval { dst, op := .call ⟨.builtin .len, #[x], ats⟩, type := ty, pos, after, guard }).run P w = .ok (.value (.int .i64 (n : Nat))) w := by
       intro A n c ex
       simp [execOp, resolve, invoke, builtin, Builtin.len_, h0, run_underlying hu, ex, goInt]
      simp only [evG, opK] at hev
      have hx := Yac he x
      revert hev hx
      cases hp : opd env (YwN fm x) <;> intro hev hx <;> try exact hev.elim
      case emp =>
       obtain ⟨A, ex⟩ := YaM hx
       exact .pure hr (run _ _ _ ex) hev (.v _)
      case rd es l =>
       obtain ⟨A, c, ex, _⟩ := Ydg hx
       exact .pure hr (run _ _ _ ex) hev (.v _)
      case ref b off len =>
       obtain ⟨A, c, ex, _⟩ := Yi8 hx
       exact .pure hr (run _ _ _ ex) hev (.v _)
     ·rename_i kt e m hat hargs
      injection htr with htr; subst htr
      have hargs' : args = #[m] := by rw [<- Array.toArray_toList (xs := args), hargs]
      subst hargs'
      obtain ⟨t, h0, hu⟩ := hats _ hat
      refine Ya6 hev (fun v us hx => ?_)
      obtain ⟨b, o, c, el, tags, hxs, ho, hm, rfl, rfl⟩ := YpF hx
      simp only [YzR, YzT] at hxs
      injection hxs with e1 _
      have hmv := Yac he m; rw [e1] at hmv
      obtain ⟨g, es, nc, ex, _, hL, hg, hmr, _⟩ := YbT hr ho hm hmv
      refine ⟨.int .i64 (es.size : Nat), w, .inl ?_, OpPost.same hr (by rw [hmr.len]; exact .v _)⟩
      simp [execOp, resolve, invoke, builtin, Builtin.len_, h0, run_underlying hu, ex, goInt, MapKept.run_getObj_map hg]
     ·cases htr
    case min => exact mm false (by simp) htr
    case max => exact mm true (by simp) htr
    case append =>
     split at htr
     ·rename_i t t' s x hat hargs
      split at htr
      ·rename_i htt
       subst htt
       cases hu : P.underlying t with
       | none => simp [hu] at htr
       | some d =>
         cases d <;> simp only [hu] at htr <;> try (cases htr; done)
         case slice e =>
          cases hz : Yw3 P e with
          | none => simp [hz] at htr
          | some z =>
            simp only [hz, Option.bind_some] at htr
            have hargs' : args = #[s, x] := by rw [<- Array.toArray_toList (xs := args), hargs]
            have hats' : ats = #[t, t] := by rw [<- Array.toArray_toList (xs := ats), hat]
            subst hargs'; subst hats'
            have run : ∀ y w', (Builtin.append_ #[t, t] ty #[a.eval s, a.eval x]).run P w = .ok y w' ->
              (execOp a.eval { dst, op := .call ⟨.builtin .append, #[s, x], #[t, t]⟩, type := ty, pos, after, guard }).run P w = .ok (.value y) w' := by
             intro y w' h
             simp [execOp, resolve, invoke, builtin, h]
            have hx := Yac he x
            have hs := Yac he s
            split at htr
            ·rename_i hbu
             split at htr
             ·rename_i hz1
              have hz1' : z.length = 1 := hz1
              injection htr with htr
              split at htr
              ·subst htr
               obtain ⟨v, us, hxf, hk⟩ := hev
               simp only [YzR, YzT, xF] at hxf
               split at hxf
               ·rename_i l hl
                obtain ⟨hes, hxf⟩ := cond_ok' hxf
                split at hxf
                ·rename_i o us0 hap
                 injection hxf with hxf; injection hxf with e1 e2; subst e1; subst e2
                 rw [<- hz1'] at hes hap hk
                 obtain ⟨y, w', k1, k2⟩ := Yjf (os := 0) (ty := ty) (by rw [hz1']; rfl) (fun _ => hbu) hu hz hr hn hs hx hl hes hap
                 exact ⟨y, _, _, w', .inl (run y w' k1), hk, k2⟩
                ·cases hxf
               ·cases hxf
              ·subst htr
               obtain ⟨v, us, hxf, hk⟩ := hev
               simp only [YzR, YzT, xF] at hxf
               split at hxf
               ·rename_i l hl
                obtain ⟨hes, hxf⟩ := cond_ok' hxf
                split at hxf
                ·rename_i o us0 hap
                 injection hxf with hxf; injection hxf with e1 e2; subst e1; subst e2
                 rw [<- hz1'] at hes hap
                 obtain ⟨y, w', k1, _, k2⟩ := Yje (os := 0) (ty := ty) (by rw [hz1']; rfl) (fun _ => hbu) hu hz hr hn hs hx hl hes hap
                 exact ⟨y, _, _, w', .inl (run y w' k1), hk, k2⟩
                ·cases hxf
               ·cases hxf
             ·cases htr
            injection htr with htr
            split at htr
            ·subst htr
             obtain ⟨v, us, hxf, hk⟩ := hev
             simp only [YzR, YzT, xF] at hxf
             split at hxf
             ·rename_i l hl
              obtain ⟨hes, hxf⟩ := cond_ok' hxf
              split at hxf
              ·rename_i o us0 hap
               injection hxf with hxf; injection hxf with e1 e2; subst e1; subst e2
               simp only [Bool.and_eq_true] at hes
               obtain ⟨y, w', k1, k2⟩ := Yjf (ty := ty) (YaL (Nat.le_of_ble_eq_true hes.2)) (fun h => absurd (Nat.le_of_ble_eq_true hes.2) (by omega)) hu hz hr hn hs hx hl hes.1 hap
               exact ⟨y, _, _, w', .inl (run y w' k1), hk, k2⟩
              ·cases hxf
             ·cases hxf
            subst htr
            simp only [evG, opK] at hev
            revert hev hx
            cases hp : opd env (YwN fm x) <;> intro hx hev <;> try exact hev.elim
            case emp =>
             obtain ⟨A, ex⟩ := YaM hx
             rw [ex] at run
             obtain ⟨y, v, us, w', k1, k2, k3⟩ := Yi4 (P := P) (ty := ty) hu hz hr hn hs (VR.rd0 A z.length 0) hev
             exact ⟨y, v, us, w', .inl (run y w' k1), k2, k3⟩
            case rd es l =>
             obtain ⟨hes, hev⟩ := hev
             subst hes
             obtain ⟨y, v, us, w', k1, k2, k3⟩ := Yi4 (P := P) (ty := ty) hu hz hr hn hs hx hev
             exact ⟨y, v, us, w', .inl (run y w' k1), k2, k3⟩
      ·split at htr
       ·rename_i e hu hu2
        split at htr
        ·rename_i zn hz
         split at htr
         case isFalse => cases htr
         rename_i hbu
         injection htr with htr; subst htr
         have hargs' : args = #[s, x] := by rw [<- Array.toArray_toList (xs := args), hargs]
         have hats' : ats = #[t, t'] := by rw [<- Array.toArray_toList (xs := ats), hat]
         subst hargs'; subst hats'
         have run : ∀ y w', (Builtin.append_ #[t, t'] ty #[a.eval s, a.eval x]).run P w = .ok y w' ->
           (execOp a.eval { dst, op := .call ⟨.builtin .append, #[s, x], #[t, t']⟩, type := ty, pos, after, guard }).run P w = .ok (.value y) w' := by
          intro y w' h
          simp [execOp, resolve, invoke, builtin, h]
         obtain ⟨v, us, hxf, hk⟩ := hev
         simp only [YzR, YzT] at hxf
         cases hp : opd env (YwN fm x) with
         | v y =>
           rw [hp] at hxf
           cases y with
           | string str =>
             have ex := hval x _ hp
             simp only [xF] at hxf
             split at hxf
             ·rename_i o us0 hap
              injection hxf with hxf; injection hxf with e1 e2; subst e1; subst e2
              obtain ⟨y, w', k1, k2⟩ := Yph (ty := ty) hu hu2 hz rfl hbu hr hn (Yac he s) hap
              rw [<- ex] at k1
              exact ⟨y, _, _, w', .inl (run y w' k1), hk, k2⟩
             ·cases hxf
           | _ => simp [xF] at hxf
         | _ => rw [hp] at hxf; simp [xF] at hxf
        ·cases htr
       ·cases htr
     ·cases htr
    case delete =>
     split at htr <;> try (cases htr; done)
     rename_i q m k hq hargs
     cases hsz : YwR P q.2.2 with
     | none => rw [hsz] at htr; cases htr
     | some n =>
     rw [hsz] at htr
     injection htr with htr; subst htr
     have hargs' : args = #[m, k] := by rw [<- Array.toArray_toList (xs := args), hargs]
     subst hargs'
     obtain ⟨t, h0, hq⟩ : ∃ t, ats[0]? = some t /\ mapT P t = some q := by
      cases h0 : ats[0]? with
      | none => simp [h0] at hq
      | some t => exact ⟨t, rfl, by simpa [h0] using hq⟩
     refine Ya6 hev (fun v us hx => ?_)
     obtain ⟨b, kv, o, c, el, tags, hxs, ho, hm, hk, rfl, hcase⟩ := YpE hx
     simp only [YzR, YzT] at hxs
     injection hxs with e1 e2; injection e2 with e2 _
     have hmv := Yac he m; rw [e1] at hmv
     have hkv := hval k _ e2
     obtain ⟨r1, r2⟩ := Ypv (ty := ty) hr hq (n + 2) ho hm hmv hk h0
     have run : ∀ w', (Builtin.delete_ ats ty #[a.eval m, kv]).run P w = .ok (.tuple #[]) w' -> Yyx P { dst, op := .call ⟨.builtin .delete, #[m, k], ats⟩, type := ty, pos, after, guard } a w (.tuple #[]) w' := by
      intro w' h
      refine .inl ?_
      simp [execOp, resolve, invoke, builtin, hkv, h]
     rcases hcase with ⟨p, r', hf, rfl⟩ | ⟨hf, rfl⟩
     ·obtain ⟨w', k1, k2, k3⟩ := r1 p r' hf
      exact ⟨_, w', run w' k1, Yco k2 k3 nid (.u _)⟩
     ·obtain ⟨w', k1, k2, k3⟩ := r2 hf
      exact ⟨_, w', run w' k1, Yco k2 k3 nid (.u _)⟩
    case copy =>
     split at htr <;> try (cases htr; done)
     rename_i t t' d s hat hargs
     split at htr <;> try (cases htr; done)
     rename_i e e' hu hu'
     cases hsz : YwR P e with
     | none => rw [hsz] at htr; cases htr
     | some n =>
       rw [hsz] at htr
       injection htr with htr; subst htr
       have hargs' : args = #[d, s] := by rw [<- Array.toArray_toList (xs := args), hargs]
       have hats' : ats = #[t, t'] := by rw [<- Array.toArray_toList (xs := ats), hat]
       subst hargs'; subst hats'
       refine Ya6 hev (fun v us hx => ?_)
       obtain ⟨b, x, o, l, hxs, ho, hl, hes, hoes, hel, h0, rfl, rfl⟩ := YpI hx
       simp only [YzR, YzT] at hxs
       injection hxs with e1 e2; injection e2 with e2 _
       have hd := Yac he d; rw [e1] at hd
       have hs := Yac he s; rw [e2] at hs
       obtain ⟨w', k1, k2, k3⟩ := YpA (t' := t') (ty := ty) hu hsz hr ho h0 hoes hd (Yjd hs hl hes) hel
       exact ⟨_, w', .inl (by simp [execOp, resolve, invoke, builtin, k1]), Yco k2 k3 nid (.v _)⟩
 case makeMap t r =>
  cases r with
  | some r => cases htr
  | none =>
    cases hq : mapT P t with
    | none => simp [hq] at htr
    | some q =>
      cases hsz : YwR P q.2.2 with
      | none => simp [hq, hsz] at htr
      | some n =>
      simp [hq, hsz] at htr; subst htr
      refine Ya6 hev (fun v us hx => ?_)
      obtain ⟨_, hkd, rfl, rfl⟩ := YpB hx
      exact ⟨_, _, .inl (by simp [execOp, Instr.makeMap]), Yps hr hn hkd _⟩
 case lookup t m k ok =>
  cases hq : mapT P t with
  | none => simp [hq] at htr
  | some q =>
    cases hz : (P.info? q.2.2).bind (·.zero) with
    | none => simp only [hq, hz, Option.bind_some, Option.map_none] at htr; cases htr
    | some z =>
      simp only [hq, hz, Option.bind_some, Option.map_some] at htr
      injection htr with htr; subst htr
      refine Ya6 hev (fun v us hx => ?_)
      obtain ⟨b, kv, z', o, c, el, tags, hxs, ho, hm, hes, hk, rfl, hcase⟩ := YpC hx
      simp only [YzR, YzT] at hxs
      injection hxs with e1 e2; injection e2 with e2 e3; injection e3 with e3 _
      have hmv := Yac he m; rw [e1] at hmv
      have hkv := hval k _ e2
      obtain ⟨r1, r2⟩ := Ypt (ok := ok) hr hq hz ho hm hmv hk hes
      rcases hcase with ⟨p, r, y, hf, hy, rfl⟩ | ⟨hf, rfl⟩
      ·obtain ⟨y', k1, k2⟩ := r1 p r y hf hy
       exact ⟨y', w, .inl (by simp [execOp, hkv, k1]), OpPost.same hr k2⟩
      ·obtain ⟨y', k1, k2⟩ := r2 hf
       have : z' = ofV z := e3.symm
       subst this
       exact ⟨y', w, .inl (by simp [execOp, hkv, k1]), OpPost.same hr k2⟩
 case mapUpdate t m k x =>
  cases hq : mapT P t with
  | none => simp [hq] at htr
  | some q =>
    cases hsz : YwR P q.2.2 with
    | none => simp [hq, hsz] at htr
    | some n =>
    simp [hq, hsz] at htr; subst htr
    refine Ya6 hev (fun v us hx => ?_)
    obtain ⟨b, kv, y, o, c, el, tags, r, hxs, ho, hm, hes, hk, rfl, hcell, hcase⟩ := YpD hx
    simp only [YzR, YzT] at hxs
    injection hxs with e1 e2; injection e2 with e2 e3; injection e3 with e3 _
    have hmv := Yac he m; rw [e1] at hmv
    have hkv := hval k _ e2
    have hxv := Yac he x; rw [e3] at hxv
    obtain ⟨r1, r2⟩ := Ypu hr hq (n + 2) ho hm hmv hk hes hxv hcell
    rcases hcase with ⟨p, r', hf, rfl⟩ | ⟨hf, rfl⟩
    ·obtain ⟨w', k1, k2, k3⟩ := r1 p r' hf
     exact ⟨undef, w', .inr ⟨by simp [execOp, hkv, k1], rfl⟩, Yco k2 k3 nid (.u _)⟩
    ·obtain ⟨w', k1, k2, k3⟩ := r2 hf
     exact ⟨undef, w', .inr ⟨by simp [execOp, hkv, k1], rfl⟩, Yco k2 k3 nid (.u _)⟩
 case range t m =>
  cases hq : mapT P t with
  | none => simp [hq] at htr
  | some q =>
    simp [hq] at htr; subst htr
    refine Ya6 hev (fun v us hx => ?_)
    obtain ⟨b, o, c, el, tags, hxs, ho, hm, rfl, rfl⟩ := YpG hx
    simp only [YzR, YzT] at hxs
    injection hxs with e1 _
    have hmv := Yac he m; rw [e1] at hmv
    obtain ⟨y, w', k1, k2⟩ := Ypw hr hn hq ho hm hmv
    exact ⟨y, w', .inl (by simp [execOp, k1]), k2⟩
 case next i st =>
  cases st with
  | true => cases htr
  | false =>
    injection htr with htr; subst htr
    exact Ya6 hev (fun v us hx => (YpJ hx).elim)
 case entry i =>
  injection htr with htr; subst htr
  refine Ya6 hev (fun v us hx => ?_)
  obtain ⟨it, oi, m, s, t, bl, o, n, c, el, tags, b, k, r, y, hxs, hi, hio, ho, hn', hm, htc, hf, hy, rfl, rfl⟩ := YpH hx
  simp only [YzR, YzT] at hxs
  injection hxs with e1 _
  have hiv := Yac he i; rw [e1] at hiv
  obtain ⟨y', k1, k2⟩ := Ypx (P := P) hr hi hio hiv ho hn' hm htc hf hy
  exact ⟨y', w, .inl (by simp [execOp, k1]), OpPost.same hr k2⟩
 all_goals (cases htr)
end
end Go.Abs
namespace Go.Abs
open Go Go.RowKit
def FOK (P : Program) (fm : FM) (f : FuncId) (c : Yw1) : Prop :=
 ∀ args H r H', c args H r H' -> YwM P f = true /\ ∀ (w : World) (L : Nat -> Loc) (vs : Array Value), HR fm w L (hf H) -> vs.size = args.length ->
   (∀ j a, args[j]? = some a -> VR fm w L (vs.getD j undef) a) ->
   Calls P f vs w fun e w' => ∃ v L', e = .returned v /\ Keep L w w' /\ LStep L L' w.heap.size /\ HR fm w' L' (hf H') /\ VR fm w' L' v r
structure CtxOK (P : Program) (fm : FM) (C : Ctx) : Prop where
 ok : ∀ f, FOK P fm f (C.C (fm f))
 nr : ∀ f args H r H', C.pf f = true -> C.C f args H r H' -> (∀ a ∈ args, NR a) /\ NR r /\ H' = H
 any : ∀ f args r n, C.pf f = true -> C.C f args [] r [] -> C.C f args (List.replicate n none) r (List.replicate n none)
section
variable {P : Program} {fm : FM} {w : World} {L : Nat -> Loc}
theorem YbU {L1 : Nat -> Loc} (hmv : ∀ b, b < w.heap.size -> ¬ Yw5 L b -> ¬ Yw5 L1 b) {x : Value} {a : AV} (h : VR fm w L x a) : NR a -> VR fm w L1 x a := by
 induction h with
 | v x => intro _; exact .v x
 | u x => intro _; exact .u x
 | emp A => intro _; exact .emp A
 | rd0 A es c => intro _; exact .rd0 A es c
 | rd b o c es l vals hne hes hes0 hlc hb hbs hc h1 hr ih =>
   intro hn
   cases hn with
   | rd es l hn => exact .rd b o c es l vals hne hes hes0 hlc (hmv b hbs hb) hbs hc h1 (fun i e j x hi hj => ih i e j x hi hj (hn e (YzQ hi) x (YzQ hj)))
 | rp b o cs vals hb hbs hc h1 hr ih =>
   intro hn
   cases hn with
   | rp cs hn => exact .rp b o cs vals (hmv b hbs hb) hbs hc h1 (fun j x hj => ih j x hj (hn x (YzQ hj)))
 | refAt g es cap a off len h hl => intro hn; cases hn
 | refNil A a b h hA => intro hn; cases hn
 | refDead A c a off len h hl => intro hn; cases hn
 | ptrAt g es cap a i j h => intro hn; cases hn
 | ptrDead ad a i j h => intro hn; cases hn
 | npAt g a v h ht hv => intro hn; cases hn
 | npDead p a h => intro hn; cases hn
 | mpAt g a h => intro hn; cases hn
 | itAt g a h => intro hn; cases hn
 | mpDead p a h => intro hn; cases hn
 | agg xs cs hs h1 h ih =>
   intro hn
   cases hn with
   | agg cs hn => exact .agg xs cs hs h1 (fun j a ha => ih j a ha (hn a (YzQ ha)))
 | tup xs cs hs h ih =>
   intro hn
   cases hn with
   | tup cs hn => exact .tup xs cs hs (fun j a ha => ih j a ha (hn a (YzQ ha)))
 | clo f xs cs hs h ih =>
   intro hn
   cases hn with
   | clo f' cs hn => exact .clo f xs cs hs (fun j a ha => ih j a ha (hn a (YzQ ha)))
theorem YpN {L1 : Nat -> Loc} {w1 : World} {x : Value} {a : AV} (h : VR fm w L x a) (hs : Scal a) : VR fm w1 L1 x a := by
 cases hs with
 | v y => rw [Yag h]; exact .v y
 | tup l hl =>
   obtain ⟨xs, rfl, hsz, hall⟩ := Ydf h
   refine .tup xs l hsz (fun j c hc => ?_)
   obtain ⟨y, rfl⟩ := hl c (YzQ hc)
   rw [Yag (hall j _ hc)]; exact .v y
noncomputable def hide (L : Nat -> Loc) (n : Nat) (Bw : Nat -> Prop) : Nat -> Loc := fun k =>
 open Classical in if k < n then (if Yw5 L k /\ ¬ Bw k then .hid k else .dead) else .fresh
theorem YaZ {n : Nat} {Bw : Nat -> Prop} {b : Nat} : ¬ OwnC (hide L n Bw) b := by
 rintro (⟨a, e, c, h⟩ | ⟨a, i, h⟩)
 ·unfold hide at h
  split at h
  ·split at h <;> cases h
  ·cases h
 ·unfold hide at h
  split at h
  ·split at h <;> cases h
  ·cases h
theorem Ycp {n : Nat} {Bw : Nat -> Prop} {b : Nat} (h : Yw5 (hide L n Bw) b) : Yw5 L b /\ ¬ Bw b /\ b < n := by
 rcases h with h | ⟨a, h⟩
 ·exact absurd h YaZ
 ·unfold hide at h
  split at h
  ·rename_i hlt
   split at h
   ·rename_i hc; injection h with h; subst h; exact ⟨hc.1, hc.2, hlt⟩
   ·cases h
  ·cases h
theorem Yjy (n : Nat) (hn : n = w.heap.size) (Bw : Nat -> Prop) : HR fm w (hide L n Bw) (hf (List.replicate n none)) := by
 refine ⟨fun a o h => ?_, fun a h => ?_, fun a => ?_, fun a b g e c e' c' h => ?_, fun a g h => ?_, fun a o g es cap h1 h2 h3 => absurd (.inl ⟨a, es, cap, h3⟩) YaZ, fun a i g h => absurd (.inr ⟨a, i, h⟩) (YaZ (L := L) (n := n) (Bw := Bw) (b := g))⟩
 ·simp [hf, YAl] at h
 ·unfold hide at h
  rcases h with ⟨g, es, cap, h⟩ | ⟨_, h⟩
  ·split at h
   ·split at h <;> cases h
   ·cases h
  ·split at h
   ·split at h <;> cases h
   ·cases h
 ·unfold hide
  simp only [hf, YAl]
  by_cases h : a < n
  ·rw [if_pos h, if_pos h]
   constructor
   ·intro h1; split at h1 <;> cases h1
   ·intro h1; cases h1
  ·rw [if_neg h, if_neg h]; simp
 ·exact absurd (.inl ⟨a, e, c, h⟩) YaZ
 ·have := Ycp (L := L) (n := n) (Bw := Bw) (b := g) (.inr ⟨a, h⟩)
  exact ⟨by omega, YaZ⟩
theorem YbV {R : AV -> AV -> Prop} : ∀ {as bs : List AV}, All2 R as bs -> as.length = bs.length /\ ∀ (j : Nat) (b : AV), bs[j]? = some b -> ∃ a, as[j]? = some a /\ R a b
 | [], [], _ => ⟨rfl, fun j b h => by simp at h⟩
 | a :: as, b :: bs, h => by
   obtain ⟨h1, h2⟩ := YbV h.2
   refine ⟨by simp [h1], fun j c hc => ?_⟩
   cases j with
   | zero => simp at hc; subst hc; exact ⟨a, rfl, h.1⟩
   | succ j => simpa using h2 j c (by simpa using hc)
 | [], _ :: _, h => h.elim
 | _ :: _, [], h => h.elim
theorem YpO {α : Type} {l : List α} {n i : Nat} (h : l.length = n) (hi : i < n) : ∃ e, l[i]? = some e :=
 ⟨l[i], YzO (by omega)⟩
theorem Yab {α β : Type} {l : List α} {l' : List β} (h : l.length = l'.length) {i : Nat} {e' : β} (hi : l'[i]? = some e') : ∃ e, l[i]? = some e :=
 YpO h (YzN.1 hi).1
theorem Ydn {a b : AV} (hc : Coe a b) : ∀ {x : Value}, VR fm w L x a -> VR fm w L x b := by
 induction hc with
 | refl a => exact id
 | empRd es => intro x h; obtain ⟨A, rfl⟩ := YaM h; exact .rd0 A es 0
 | rd es l l' hl hlz h ih =>
   intro x hx
   rcases Ybj hx with ⟨rfl, A, c, rfl⟩ | ⟨b, o, c, vals, rfl, hne, hes, hes0, hlc, hb, hbs, hcl, h1, hrr⟩
   ·have : l' = [] := YzY.1 hl.symm
    subst this; exact .rd0 A es c
   ·have g2 : ∀ (i : Nat) (e' : List AV) (j : Nat) (y' : AV), l'[i]? = some e' -> e'[j]? = some y' -> ∃ e y, l[i]? = some e /\ e[j]? = some y := by
     intro i e' j y' hi hj
     obtain ⟨e, he⟩ := Yab hl hi
     obtain ⟨y, hy⟩ := Yab (hlz i e e' he hi) hj
     exact ⟨e, y, he, hy⟩
    rw [hl]
    exact .rd b o c es l' vals (fun e => hne (YzY.1 (by rw [hl, e]; rfl))) (fun e' he' => by
      obtain ⟨i, hi, he⟩ := YAj.1 he'
      have hi' : l'[i]? = some e' := by rw [YzO hi, he]
      obtain ⟨e, hie⟩ := Yab hl hi'
      rw [<- hlz i e e' hie hi']
      exact hes e (YzQ hie)) hes0 (by omega) hb hbs
     (fun i e' j y' hi hj => by obtain ⟨e, y, h2, h3⟩ := g2 i e' j y' hi hj; exact hcl i e j y h2 h3)
     (fun i e' j y' hi hj => by obtain ⟨e, y, h2, h3⟩ := g2 i e' j y' hi hj; exact h1 i e j y h2 h3)
     (fun i e' j y' hi hj => by obtain ⟨e, y, h2, h3⟩ := g2 i e' j y' hi hj; exact ih i e e' j y y' h2 hi h3 hj (hrr i e j y h2 h3))
 | rp cs cs' hl h ih =>
   intro x hx
   obtain ⟨b, o, vals, rfl, hb, hbs, hcl, h1, hrr⟩ := Yby hx
   exact .rp b o cs' vals hb hbs
    (fun j y' hj => by obtain ⟨y, hy⟩ := Yab hl hj; exact hcl j y hy)
    (fun j y' hj => by obtain ⟨y, hy⟩ := Yab hl hj; exact h1 j y hy)
    (fun j y' hj => by obtain ⟨y, hy⟩ := Yab hl hj; exact ih j y y' hy hj (hrr j y hy))
 | agg cs cs' hl h ih =>
   intro x hx
   obtain ⟨xs, rfl, hs, hall⟩ := Ybi hx
   exact .agg xs cs' (by omega) (fun j y' hj => by obtain ⟨y, hy⟩ := Yab hl hj; exact (hall j y hy).1)
    (fun j y' hj => by obtain ⟨y, hy⟩ := Yab hl hj; exact ih j y y' hy hj (hall j y hy).2)
 | tup cs cs' hl h ih =>
   intro x hx
   obtain ⟨xs, rfl, hs, hall⟩ := Ydf hx
   exact .tup xs cs' (by omega) (fun j y' hj => by obtain ⟨y, hy⟩ := Yab hl hj; exact ih j y y' hy hj (hall j y hy))
 | clo f cs cs' hl h ih =>
   intro x hx
   obtain ⟨g, xs, rfl, hf, hs, hall⟩ := Ycm hx
   subst hf
   exact .clo g xs cs' (by omega) (fun j y' hj => by obtain ⟨y, hy⟩ := Yab hl hj; exact ih j y y' hy hj (hall j y hy))
theorem Ycq {a b : AV} (hc : Coe a b) : NR b -> NR a := by
 induction hc with
 | refl a => exact id
 | empRd es => intro _; exact .emp
 | rd es l l' hl hlz h ih =>
   intro hn
   cases hn with
   | rd es l' hn =>
     refine .rd es l (fun e he x hx => ?_)
     obtain ⟨i, hi⟩ := Yz1.1 he
     obtain ⟨j, hj⟩ := Yz1.1 hx
     obtain ⟨e', he'⟩ := Yab hl.symm hi
     obtain ⟨x', hx'⟩ := Yab (hlz i e e' hi he').symm hj
     exact ih i e e' j x x' hi he' hj hx' (hn e' (YzQ he') x' (YzQ hx'))
 | rp cs cs' hl h ih =>
   intro hn
   cases hn with
   | rp cs' hn =>
     refine .rp cs (fun x hx => ?_)
     obtain ⟨j, hj⟩ := Yz1.1 hx
     obtain ⟨x', hx'⟩ := Yab hl.symm hj
     exact ih j x x' hj hx' (hn x' (YzQ hx'))
 | agg cs cs' hl h ih =>
   intro hn
   cases hn with
   | agg cs' hn =>
     refine .agg cs (fun x hx => ?_)
     obtain ⟨j, hj⟩ := Yz1.1 hx
     obtain ⟨x', hx'⟩ := Yab hl.symm hj
     exact ih j x x' hj hx' (hn x' (YzQ hx'))
 | tup cs cs' hl h ih =>
   intro hn
   cases hn with
   | tup cs' hn =>
     refine .tup cs (fun x hx => ?_)
     obtain ⟨j, hj⟩ := Yz1.1 hx
     obtain ⟨x', hx'⟩ := Yab hl.symm hj
     exact ih j x x' hj hx' (hn x' (YzQ hx'))
 | clo f cs cs' hl h ih =>
   intro hn
   cases hn with
   | clo f cs' hn =>
     refine .clo f cs (fun x hx => ?_)
     obtain ⟨j, hj⟩ := Yz1.1 hx
     obtain ⟨x', hx'⟩ := Yab hl.symm hj
     exact ih j x x' hj hx' (hn x' (YzQ hx'))
def Yy3 (a b : AV) (i off len : Nat) (o : AObj) : Prop :=
 (a = .ref i off len /\ b = .rd (wd o.es) ((o.el.drop off).take len)) \/
 ∃ (cs ds : List AV) (k : Nat), a = .agg cs /\ b = .agg ds /\ cs[k]? = some (.ref i off len) /\ ds[k]? = some (.rd (wd o.es) ((o.el.drop off).take len))
theorem YpP {a : AV} {i off len : Nat} {o : AObj} (h : Yy3 a a i off len o) : False := by
 rcases h with ⟨h1, h2⟩ | ⟨cs, ds, k, h1, h2, h3, h4⟩
 ·rw [h1] at h2; cases h2
 ·rw [h1] at h2; injection h2 with h2; subst h2; rw [h3] at h4; injection h4 with h4; cases h4
theorem Yjz {h : HF} (hr : HR fm w L h) {x : Value} {i off len : Nat} {o : AObj} (hio : h i = some (some o)) (hle : off + len <= o.el.length) (hv : VR fm w L x (.ref i off len)) {Bw : Nat -> Prop}
  (hB : ∀ g es cap, L i = .cells g es cap -> Bw g) (hnb : NR (.rd (wd o.es) ((o.el.drop off).take len))) : VR fm w (hide L w.heap.size Bw) x (.rd (wd o.es) ((o.el.drop off).take len)) := by
 have mv : ∀ b, b < w.heap.size -> ¬ Yw5 L b -> ¬ Yw5 (hide L w.heap.size Bw) b := fun b _ h1 h2 => h1 (Ycp h2).1
 rcases YaY hr hio hv with ⟨g, es, cap, hL, e1, e2, ex⟩ | ⟨A, _, hL, _, e1, e2, ex⟩
 ·subst e1
  rw [ex]
  by_cases hl0 : len = 0
  ·subst hl0; simp only [List.take_zero]; exact .rd0 _ _ _
  ·have hob := hr.obj i o hio
   rw [hL] at hob
   obtain ⟨_, hes, hlc, hcm, hall, cur, ty, hg, hcs, hrr⟩ := hob
   have hlt := (Array.getElem?_eq_some_iff.1 hg).1
   have hsub : ∀ k e, ((o.el.drop off).take len)[k]? = some e -> o.el[off + k]? = some e := by
    intro k e hk
    rw [Yz3] at hk
    split at hk
    ·rwa [Yz8] at hk
    ·cases hk
   have hll : ((o.el.drop off).take len).length = len := by simp; omega
   have key : ∀ k e j' y, ((o.el.drop off).take len)[k]? = some e -> e[j']? = some y -> (off + k) * (wd o.es) + j' < cur.size := by
    intro k e j' y hk hj
    have h1 := hsub k e hk
    have h2 := (YzN.1 h1).1
    have h3 := hall e (YzQ h1)
    have h4 := (YzN.1 hj).1
    have h5 : (off + k + 1) * (wd o.es) <= cap * (wd o.es) := Nat.mul_le_mul_right _ (by omega)
    rw [Nat.add_mul] at h5
    rw [hcs]; omega
   cases hnb with
   | rd es' l' hn =>
     have := VR.rd (fm := fm) (w := w) (L := hide L w.heap.size Bw) g (off * (wd o.es)) (cap - off) (wd o.es) ((o.el.drop off).take len) (fun k j' => cur.getD ((off + k) * (wd o.es) + j') undef)
      (fun e => hl0 (by rw [<- hll, e]; rfl)) (fun e he => hall e (List.mem_of_mem_drop (YAv he))) hes (by rw [hll]; omega)
      (fun ho => (Ycp ho).2.1 (hB g (wd o.es) cap hL)) hlt
      (fun k e j' y hk hj => by
       rw [cell_of_row w g _ cur ty (0, 0) hg, <- Nat.add_mul]
       exact YaJ (key k e j' y hk hj))
      (fun k e j' y hk hj => (hrr _ e j' y (hsub k e hk) hj).1)
      (fun k e j' y hk hj => YbU mv (hrr _ e j' y (hsub k e hk) hj).2 (hn e (YzQ hk) y (YzQ hj)))
     rwa [hll] at this
 ·rw [ex, e2]; simp only [List.take_zero]; exact .rd0 _ _ _
theorem YpQ {cs : List AV} (h : NR (.agg cs)) : ∀ x ∈ cs, NR x := by cases h; assumption
theorem Ye8 {C : Ctx} (hC : CtxOK P fm C) {f : FuncId} (hpf : C.pf (fm f) = true) {h : HF} (hr : HR fm w L h) {vs : Array Value} {args args1 args' : List AV} {r : AV} (hsz : vs.size = args.length)
  (hvs : ∀ j a, args[j]? = some a -> VR fm w L (vs.getD j undef) a) (hb : All2 (Bor h) args args1) (hsc : args1 = args \/ Scal r) (hco : All2 Coe args1 args') (hc : C.C (fm f) args' [] r []) :
  YwM P f = true /\ Calls P f vs w fun e w' => ∃ v, e = .returned v /\ Keep L w w' /\ HR fm w' L h /\ VR fm w' L v r := by
 obtain ⟨hlen, hget⟩ := YbV hb
 obtain ⟨hlen', hget'⟩ := YbV hco
 let Bw : Nat -> Prop := fun g => ∃ (j : Nat) (a b : AV) (i off len : Nat) (o : AObj) (es cap : Nat), args[j]? = some a /\ args1[j]? = some b /\ Yy3 a b i off len o /\ h i = some (some o) /\ L i = Loc.cells g es cap
 have hc' := hC.any _ _ _ w.heap.size hpf hc
 obtain ⟨hna, hnr, _⟩ := hC.nr _ _ _ _ _ hpf hc'
 obtain ⟨hcal, hok⟩ := hC.ok f _ _ _ _ hc'
 refine ⟨hcal, (hok w (hide L w.heap.size Bw) vs (Yjy _ rfl Bw) (by rw [hsz, hlen, hlen']) (fun j b' hjb' => ?_)).mono ?_⟩
 ·obtain ⟨b, hjb, hbb⟩ := hget' j b' hjb'
  obtain ⟨a, hja, hab⟩ := hget j b hjb
  have hv := hvs j a hja
  have hnb := Ycq hbb (hna b' (YzQ hjb'))
  refine Ydn hbb ?_
  have mv : ∀ b, b < w.heap.size -> ¬ Yw5 L b -> ¬ Yw5 (hide L w.heap.size Bw) b := fun b _ h1 h2 => h1 (Ycp h2).1
  rcases hab with (rfl | ⟨i, off, len, o, rfl, hio, hle, rfl⟩) | ⟨cs, ds, rfl, rfl, hcd⟩
  ·exact YbU mv hv hnb
  ·exact Yjz hr hio hle hv (fun g es cap hL => ⟨j, _, _, i, off, len, o, es, cap, hja, hjb, .inl ⟨rfl, rfl⟩, hio, hL⟩) hnb
  ·obtain ⟨hl2, hget2⟩ := YbV hcd
   obtain ⟨xs, e, hs, hall⟩ := Ybi hv
   rw [e]
   refine .agg xs ds (by omega) (fun k b hk => ?_) (fun k b hk => ?_)
   ·obtain ⟨a, ha, _⟩ := hget2 k b hk
    exact (hall k a ha).1
   ·obtain ⟨a, ha, hab⟩ := hget2 k b hk
    have hnk := YpQ hnb b (YzQ hk)
    rcases hab with rfl | ⟨i, off, len, o, rfl, hio, hle, rfl⟩
    ·exact YbU mv (hall k a ha).2 hnk
    ·exact Yjz hr hio hle (hall k _ ha).2 (fun g es cap hL => ⟨j, _, _, i, off, len, o, es, cap, hja, hjb, .inr ⟨cs, ds, k, rfl, rfl, ha, hk⟩, hio, hL⟩) hnk
 ·rintro e w' ⟨v, L', rfl, hk, hs, hr', hv⟩
  have hkL : Keep L w w' := ⟨hk.os, hk.tape, hk.output, hk.size, fun b hb _ => hk.blk b hb YaZ, hk.typ⟩
  refine ⟨v, rfl, hkL, hr.mono hkL (fun b hb _ => hk.blk b hb YaZ), ?_⟩
  rcases hsc with hsame | hsc
  ·
   refine YbU (fun b hb hnb hoL => hnb ?_) hv hnr
   have hbl : b < w.heap.size := by
    rcases hoL with (⟨a, e, c, h1⟩ | ⟨a, i, h1⟩) | ⟨a, h1⟩
    ·exact hr.blk h1
    ·exact hr.mpl h1
    ·exact (hr.hid a b h1).1
   have hnB : ¬ Bw b := by
    rintro ⟨j, a, b, i, off, len, o, es, cap, h1, h2, h3, _, _⟩
    rw [hsame, h1] at h2
    injection h2 with h2
    subst h2
    exact YpP h3
   have hhid : hide L w.heap.size Bw b = .hid b := by
    unfold hide
    rw [if_pos hbl, if_pos ⟨hoL, hnB⟩]
   rcases hs.old b (by rw [hhid]; exact fun h => by cases h) with h1 | ⟨_, h1⟩
   ·exact .inr ⟨b, by rw [h1, hhid]⟩
   ·exact absurd hhid (h1 b)
  ·exact YpN hv hsc
theorem YpR {os : Nat} {h : HF} {nid : Nat} (hr : HR fm w L h) (hn : h nid = none) {w' : World} (hk : Keep L w w') (hkb : ∀ b, b < w.heap.size -> w'.heap[b]? = w.heap[b]?) {g : Nat} (hgs : w.heap.size <= g) {cur : Array Value} {ty : TypeId} {es cap : Nat} {el : List (List AV)}
  (hw : w'.heap[g]? = some (.cells cur ty (0, 0)))
  (hes : 0 < es) (hlc : el.length <= cap) (hcm : cap <= maxLen) (hel : ∀ e ∈ el, e.length = es) (hsz : cur.size = cap * es)
  (hrr : ∀ i e j x, el[i]? = some e -> e[j]? = some x -> (cur.getD (i * es + j) undef).oneCell' = true /\ VR fm w' (fun a => if a = nid then .cells g es cap else L a) (cur.getD (i * es + j) undef) x) (hwd : es = wd os) (hos : 0 < os) :
  LStep L (fun a => if a = nid then .cells g es cap else L a) w.heap.size /\
   HR fm w' (fun a => if a = nid then .cells g es cap else L a) (appU h nid (.push (some ⟨os, el⟩))) := by
 have hnf : L nid = .fresh := (hr.fresh nid).2 hn
 have hownc : ∀ b, OwnC (fun a => if a = nid then .cells g es cap else L a) b -> OwnC L b \/ w.heap.size <= b := fun b hb => by
  rcases hb with ⟨a, e, c, hac⟩ | ⟨a, i, hac⟩
  ·dsimp only at hac
   by_cases e : a = nid
   ·simp [e] at hac; right; omega
   ·simp [e] at hac; exact .inl (.inl ⟨a, _, _, hac⟩)
  ·dsimp only at hac
   by_cases e : a = nid
   ·simp [e] at hac
   ·simp [e] at hac; exact .inl (.inr ⟨a, i, hac⟩)
 have hls : LStep L (fun a => if a = nid then .cells g es cap else L a) w.heap.size := by
  refine ⟨fun a ha => ?_, fun b hb => ?_, hownc⟩
  ·by_cases e : a = nid
   ·subst e; exact absurd hnf ha
   ·simp [e]
  ·rcases hb with hb | ⟨a, ha⟩
   ·exact (hownc b hb).imp .inl id
   ·by_cases e : a = nid
    ·simp [e] at ha
    ·simp [e] at ha; exact .inl (.inr ⟨a, ha⟩)
 refine ⟨hls, ?_⟩
 have hlt : ∀ a g e c, L a = .cells g e c -> g < w.heap.size := fun a g e c hac => hr.blk hac
 refine ⟨fun a o hao => ?_, fun a ha => ?_, fun a => ?_, fun a b g e c e' c' ha hb => ?_, fun a g ha => by
  by_cases e : a = nid
  ·simp [e] at ha
  ·simp [e] at ha; exact ⟨Nat.lt_of_lt_of_le (hr.hid a g ha).1 hk.size, fun hc => (hownc g hc).elim (hr.hid a g ha).2 (fun h => by have := (hr.hid a g ha).1; omega)⟩, fun a o g es' cap' h1 h2 h3 => ?_, fun a i g ha => by
  by_cases e : a = nid
  ·simp [e] at ha
  ·simp only [e, if_false] at ha
   obtain ⟨⟨o, ho⟩, k⟩ := hr.mps a i g ha
   refine ⟨⟨o, by simp [appU, e, ho]⟩, fun b j hb => ?_⟩
   by_cases e2 : b = nid
   ·simp [e2] at hb
   ·simp only [e2, if_false] at hb; exact k b j hb⟩
 ·by_cases e : a = nid
  ·subst e
   simp [appU] at hao
   subst hao
   simp only [if_true]
   exact ⟨hwd, hes, hlc, hcm, hel, cur, ty, hw, hsz, hrr⟩
  ·simp [appU, e] at hao
   have hobj := hr.obj a o hao
   simp only [e, if_false]
   revert hobj
   cases hL : L a with
   | fresh => exact id
   | dead => exact id
   | nil => exact id
   | hid g => exact id
   | cells g' es' cap' =>
     rintro ⟨h0, h1, h2, h3, h4, cur', ty', h5, h6, h7⟩
     refine ⟨h0, h1, h2, h3, h4, cur', ty', ?_, h6, fun i e' j x hi hj => ⟨(h7 i e' j x hi hj).1, (h7 i e' j x hi hj).2.mono hk hls⟩⟩
     rw [hkb _ (hlt a g' es' cap' hL)]; exact h5
   | mp i g' =>
     intro hm
     exact YaX hm hk hls (fun ob h1 => by rw [hkb _ (hr.mpl hL)]; exact h1)
 ·by_cases e : a = nid
  ·subst e; exact ⟨⟨os, el⟩, by simp [appU]⟩
  ·simp only [e, if_false] at ha
   obtain ⟨o, ho⟩ := hr.live a ha
   exact ⟨o, by simp [appU, e, ho]⟩
 ·by_cases e : a = nid
  ·subst e; simp [appU]
  ·simp only [e, if_false, appU]; exact hr.fresh a
 ·by_cases e1 : a = nid <;> by_cases e2 : b = nid
  ·rw [e1, e2]
  ·simp only [e1, if_true] at ha; simp only [e2, if_false] at hb
   have := hlt b _ _ _ hb; injection ha; omega
  ·simp only [e2, if_true] at hb; simp only [e1, if_false] at ha
   have := hlt a _ _ _ ha; injection hb; omega
  ·simp only [e1, if_false] at ha; simp only [e2, if_false] at hb
   exact hr.inj a b _ _ _ _ _ ha hb
 ·by_cases e : a = nid
  ·subst e
   simp [appU] at h1
   subst h1
   simp only at h2
   omega
  ·simp [appU, e] at h1
   simp only [e, if_false] at h3
   exact hk.typ _ _ (hr.byt a o _ es' cap' h1 h2 h3)
theorem YpS {C : Ctx} (hC : CtxOK P fm C) {f : FuncId} {h : HF} (hr : HR fm w L h) {vs : Array Value} {args args' : List AV} {o : AObj} {len nid : Nat} (hn : h nid = none) (hsz : vs.size = args.length)
  (hvs : ∀ j a, args[j]? = some a -> VR fm w L (vs.getD j undef) a) (hco : All2 Coe args args') (hm : MkC C (fm f) args' o len) :
  YwM P f = true /\ Calls P f vs w fun e w' => ∃ v L', e = .returned v /\ Keep L w w' /\ LStep L L' w.heap.size /\ HR fm w' L' (appF h nid [.push (some o)]) /\ VR fm w' L' v (.ref nid 0 len) := by
 obtain ⟨hos, hna, hno, hc⟩ := hm
 obtain ⟨hlen', hget'⟩ := YbV hco
 let Bw : Nat -> Prop := fun _ => False
 obtain ⟨hcal, hok⟩ := hC.ok f _ _ _ _ (hc w.heap.size)
 have mv : ∀ b, b < w.heap.size -> ¬ Yw5 L b -> ¬ Yw5 (hide L w.heap.size Bw) b := fun b _ h1 h2 => h1 (Ycp h2).1
 refine ⟨hcal, (hok w (hide L w.heap.size Bw) vs (Yjy _ rfl Bw) (by rw [hsz, hlen']) (fun j b' hjb' => ?_)).mono ?_⟩
 ·obtain ⟨a, hja, hab⟩ := hget' j b' hjb'
  exact Ydn hab (YbU mv (hvs j a hja) (Ycq hab (hna b' (YzQ hjb'))))
 ·rintro e w' ⟨v, L1, rfl, hk, hs, hr1, hv⟩
  have hkL : Keep L w w' := ⟨hk.os, hk.tape, hk.output, hk.size, fun b hb _ => hk.blk b hb YaZ, hk.typ⟩
  have hkb : ∀ b, b < w.heap.size -> w'.heap[b]? = w.heap[b]? := fun b hb => hk.blk b hb YaZ
  have hio : hf (List.replicate w.heap.size none ++ [some o]) w.heap.size = some (some o) := by
   simp only [hf]; rw [YzU (by simp)]; simp
  rcases YaY hr1 hio hv with ⟨g, es, cap, hL, e1, e2, ex⟩ | ⟨A, b, hL, hA, e1, e2, ex⟩
  ·have hob := hr1.obj _ o hio
   rw [hL] at hob
   obtain ⟨_, hes, hlc, hcm, hall, cur, ty, hg, hcs, hrr⟩ := hob
   have hgs : w.heap.size <= g := (hs.ownc g (.inl ⟨_, _, _, hL⟩)).resolve_left YaZ
   have hLn : L nid = .fresh := (hr.fresh nid).2 hn
   have mv2 : ∀ b, b < w'.heap.size -> ¬ Yw5 L1 b -> ¬ Yw5 (fun a => if a = nid then .cells g es cap else L a) b := by
    intro b _ h1 h2
    have old : ∀ {b}, b < w.heap.size -> Yw5 L b -> Yw5 L1 b := fun {b} hb ho => by
     have hhid : hide L w.heap.size Bw b = .hid b := by
      unfold hide; rw [if_pos hb, if_pos ⟨ho, id⟩]
     rcases hs.old b (by rw [hhid]; exact fun h => by cases h) with h1 | ⟨_, h1⟩
     ·exact .inr ⟨b, by rw [h1, hhid]⟩
     ·exact absurd hhid (h1 b)
    rcases h2 with (⟨a, e, c, h2⟩ | ⟨a, i, h2⟩) | ⟨a, h2⟩
    ·by_cases ea : a = nid
     ·simp only [ea, if_true] at h2; injection h2 with h2; subst h2; exact h1 (.inl (.inl ⟨_, _, _, hL⟩))
     ·simp only [ea, if_false] at h2; exact h1 (old (hr.blk h2) (.inl (.inl ⟨a, e, c, h2⟩)))
    ·by_cases ea : a = nid
     ·simp only [ea, if_true] at h2; cases h2
     ·simp only [ea, if_false] at h2; exact h1 (old (hr.mpl h2) (.inl (.inr ⟨a, i, h2⟩)))
    ·by_cases ea : a = nid
     ·simp only [ea, if_true] at h2; cases h2
     ·simp only [ea, if_false] at h2; exact h1 (old (hr.hid a b h2).1 (.inr ⟨a, h2⟩))
   obtain ⟨k1, k2⟩ := YpR (os := o.es) (el := o.el) hr hn hkL hkb hgs hg hes hlc hcm hall hcs
    (fun i e j x hi hj => ⟨(hrr i e j x hi hj).1, YbU mv2 (hrr i e j x hi hj).2 (hno e (YzQ hi) x (YzQ hj))⟩) e1 hos
   refine ⟨v, _, rfl, hkL, k1, k2, ?_⟩
   rw [ex]
   exact .refAt g es cap nid 0 len (by simp) e2
  ·have hob := hr1.obj _ o hio
   rw [hL] at hob
   subst e2
   obtain ⟨k1, k2⟩ := YbS (hr.mono hkL (fun b hb _ => hkb b hb)) hn (es := o.es) w.heap.size b (fun h => by omega)
   refine ⟨v, _, rfl, hkL, k1, ?_, ?_⟩
   ·have hel : o.el = [] := hob.1
    have : o = ⟨o.es, []⟩ := by cases o; simp only at hel; subst hel; rfl
    rw [this]; exact k2
   ·rw [ex]; exact .refNil A nid b (by simp) hA
end
end Go.Abs
namespace Go.Abs
open Go Go.RowKit
def OKus (h : HF) (us : List Upd) : Prop :=
 us = [] \/ (∃ o, us = [.push o]) \/ (∃ a o, us = [.set a o] /\ h a ≠ none) \/ (∃ a o p, us = [.set a o, .push p] /\ h a ≠ none)
theorem YjA (h : HF) : OKus h [] = True := by simp [OKus]
theorem Ydo (h : HF) (o : Option AObj) : OKus h [.push o] = True := by simp [OKus]
theorem YjB (h : HF) (a : Nat) (o : Option AObj) (ha : h a ≠ none) : OKus h [.set a o] := .inr (.inr (.inl ⟨a, o, rfl, ha⟩))
theorem YjC (h : HF) (a : Nat) (o p : Option AObj) (ha : h a ≠ none) : OKus h [.set a o, .push p] := .inr (.inr (.inr ⟨a, o, p, rfl, ha⟩))
theorem YjD {es : Nat} {s : AV} {l : List (List AV)} {h : HF} {nid : Nat} {K : AV -> List Upd -> Prop} (hev : appK es s l h nid K) : appK es s l h nid (fun v us => K v us /\ OKus h us) := by
 cases s <;> try exact hev
 case emp => simpa [Yyt, Ydo] using hev
 case ref a off len =>
  obtain ⟨o, ha, h1, h2, h3, h4, h5, h6⟩ := hev
  exact ⟨o, ha, h1, h2, h3, h4, h5, h6, YjC _ _ _ _ (by rw [ha]; simp)⟩
theorem YpT {op : XOp} {xs : List AV} {h : HF} {nid : Nat} {v : AV} {us : List Upd} (hx : xF op xs h nid = some (v, us)) : OKus h us := by
 have app : ∀ {os es s l o us0}, apX os es s l h nid = some (o, us0) -> ∀ p, OKus h (us0 ++ [.push p]) := by
  intro os es s l o us0 hap p
  unfold apX at hap
  obtain ⟨_, h1⟩ := cond_ok' hap
  split at h1
  ·obtain ⟨_, h2⟩ := cond_ok' h1; injection h2 with h2; injection h2 with _ h2; subst h2
   rw [YAn, Ydo]; trivial
  ·split at h1
   ·rename_i o' ho
    obtain ⟨_, h2⟩ := cond_ok' h1; injection h2 with h2; injection h2 with _ h2; subst h2
    exact YjC _ _ _ _ (by rw [ho]; simp)
   ·cases h1
  ·cases h1
 unfold xF at hx
 split at hx
 all_goals (repeat' (first | (cases hx; done) | (replace hx := (cond_ok' hx).2) | split at hx))
 all_goals
  injection hx with hx
  injection hx with _ hx
  subst hx
  first
   | (rw [YjA]; trivial)
   | (rw [Ydo]; trivial)
   | exact app (by assumption) _
   | exact YjB _ _ _ (fun hn => by simp_all)
theorem YjE {op : AOp} {env : Env} {h : HF} {nid : Nat} {K : AV -> List Upd -> Prop} (hev : evG op env h nid K) : evG op env h nid (fun v us => K v us /\ OKus h us) := by
 cases op
 case store n x y =>
  simp only [evG, opK] at hev ⊢
  split at hev <;> try exact hev.elim
  rename_i a i j e
  obtain ⟨o, ha, e, he, cs, hcs, h1, h2, h3⟩ := hev
  exact ⟨o, ha, e, he, cs, hcs, h1, h2, h3, YjB _ _ _ (by rw [ha]; simp)⟩
 case app es s x =>
  simp only [evG, opK] at hev ⊢
  split at hev <;> try exact hev.elim
  ·exact ⟨hev.1, YjD hev.2⟩
  ·exact YjD hev
 case px op xs => obtain ⟨v, us, h1, h2⟩ := hev; exact ⟨v, us, h1, h2, YpT h1⟩
 all_goals (simp only [evG, YjA, Ydo, and_true] at hev ⊢ <;> exact hev)
theorem Ydp {H : Heap} {a : Nat} {o : Option AObj} (ha : hf H a ≠ none) (nid : Nat) : appU (hf H) nid (.set a o) = hf (H.set a o) := by
 funext b
 have hlt : a < H.length := by
  apply Classical.byContradiction
  intro hn
  exact ha (YAa (by omega))
 simp only [appU, hf, List.getElem?_set]
 by_cases e : b = a
 ·subst e; simp [hlt]
 ·have : ¬ a = b := fun h => e h.symm
  simp [e, this]
theorem hf_push {H : Heap} {o : Option AObj} : appU (hf H) H.length (.push o) = hf (H ++ [o]) := by
 funext b
 simp only [appU, hf]
 by_cases e : b = H.length
 ·subst e; simp
 ·simp only [e, if_false]
  by_cases hlt : b < H.length
  ·rw [YzS hlt]
  ·rw [YzU (by omega), YAa (by omega), YAa (by simp; omega)]
theorem YjF {H : Heap} {us : List Upd} (h : OKus (hf H) us) : appF (hf H) H.length us = hf (YwT H us) := by
 rcases h with rfl | ⟨o, rfl⟩ | ⟨a, o, rfl, ha⟩ | ⟨a, o, p, rfl, ha⟩
 ·rfl
 ·simp only [appF, YwT, YxK]; exact hf_push
 ·simp only [appF, YwT, YxK]; exact Ydp ha _
 ·simp only [appF, YwT, YxK]
  rw [Ydp ha]
  have := hf_push (H := H.set a o) (o := p)
  simpa using this
section
variable {P : Program} {fm : FM} {w : World} {L : Nat -> Loc}
theorem Ycr {o : Oper} {a : Act} {next : Act -> World -> Prop} {Q : Exit -> Act -> World -> Prop} {x : Value} {w' : World} (h : Yyx P o a w x w') (hn : next (a.put o.dst x) w') :
  o.wp P a w next Q := by
 unfold Oper.wp
 rcases h with h | ⟨h, rfl⟩
 ·rw [h]; exact hn
 ·rw [h]; exact hn
theorem Ycs {f : FuncId} (h : YwM P f = true) (args : Array Value) (w : World) : (callFunc f args).run P w = .ok (.enter f args) w := by
 unfold YwM at h
 cases hf : P.funcs[f]? with
 | none => simp [hf] at h
 | some fn =>
   simp [hf] at h
   obtain ⟨h1, h2⟩ := h
   obtain ⟨c, hc⟩ := Option.isSome_iff_exists.1 h1
   simp [callFunc, hf, h2, hc]
def Yy4 (fm : FM) (w : World) (L : Nat -> Loc) (a : Act) (dst : Option Tmp) (K : AV -> Heap -> Prop) : Act -> World -> Prop :=
 fun a' w' => ∃ x v H' L', a' = a.put dst x /\ K v H' /\ Keep L w w' /\ LStep L L' w.heap.size /\ HR fm w' L' (hf H') /\ VR fm w' L' x v
theorem Yct {a : Act} {env : Env} (he : ER fm w L a env) (xs : List Operand) : ∀ j c, ((xs.map (YwN fm)).map (opd env))[j]? = some c -> VR fm w L ((xs.map a.eval).toArray.getD j undef) c := by
 intro j c hj
 rw [YAc, YzP] at hj
 cases hc : xs[j]? with
 | none => simp [hc] at hj
 | some y =>
   simp [hc] at hj
   subst hj
   have : (xs.map a.eval).toArray.getD j undef = a.eval y := by
    rw [Array.getD_eq_getD_getElem?]; simp [hc]
   rw [this]
   exact Yac he y
theorem YjG {C : Ctx} (hC : CtxOK P fm C) {f : FuncId} {H : Heap} (hr : HR fm w L (hf H)) {vs : Array Value} {args : List AV} (hsz : vs.size = args.length)
  (hvs : ∀ j a, args[j]? = some a -> VR fm w L (vs.getD j undef) a) {K : AV -> Heap -> Prop} (hev : Yyc C (fm f) args H K) :
  YwM P f = true /\ Calls P f vs w fun e w' => ∃ v r H' L', e = .returned v /\ K r H' /\ Keep L w w' /\ LStep L L' w.heap.size /\ HR fm w' L' (hf H') /\ VR fm w' L' v r := by
 rcases hev with ⟨hpf, args1, args', r, hb, hsc, hco, hc, hk⟩ | ⟨_, args', r, H', hco, hc, _, hk⟩
 ·obtain ⟨h1, h2⟩ := Ye8 hC hpf hr hsz hvs hb hsc hco hc
  refine ⟨h1, h2.mono ?_⟩
  rintro e w' ⟨v, rfl, k1, k2, k3⟩
  exact ⟨v, r, H, L, rfl, hk, k1, LStep.refl _ _, k2, k3⟩
 ·obtain ⟨hlen, hget⟩ := YbV hco
  obtain ⟨h1, h2⟩ := hC.ok f args' H r H' hc
  refine ⟨h1, (h2 w L vs hr (by rw [hsz, hlen]) (fun j b hb => ?_)).mono ?_⟩
  ·obtain ⟨a, ha, hab⟩ := hget j b hb
   exact Ydn hab (hvs j a ha)
  ·rintro e w' ⟨v, L', rfl, k1, k2, k3, k4⟩
   exact ⟨v, r, H', L', rfl, hk, k1, k2, k3, k4⟩
theorem Ycu {o : Oper} {a : Act} {next : Act -> World -> Prop} {Q : Exit -> Act -> World -> Prop} {f : FuncId} {vs : Array Value} (h : (execOp a.eval o).run P w = .ok (.enter f vs) w)
  (hc : Calls P f vs w fun e w' => ∃ v, e = .returned v /\ next (a.put o.dst v) w') : o.wp P a w next Q := by
 unfold Oper.wp
 rw [h]
 simp only [Oper.upon]
 refine hc.mono ?_
 rintro e w' ⟨v, rfl, h⟩
 exact h
theorem Ye9 {o : Oper} {g : Nat} {args : List Opd} (h : trOp P fm o = some (.call g args)) :
  ∃ f xs ats, o.op = .call ⟨.value (.func f), xs, ats⟩ /\ YwM P f = true /\ fm f = g /\ xs.toList.map (YwN fm) = args := by
 obtain ⟨dst, oop, ty, pos, after, guard⟩ := o
 cases oop <;> simp only [trOp] at h
 case call c =>
  obtain ⟨callee, xs, ats⟩ := c
  cases callee with
  | invoke r m => cases h
  | builtin b =>
    cases b <;> simp only at h <;> try (cases h; done)
    all_goals (repeat' (split at h))
    all_goals (first | (cases h; done) | (simp only [Option.bind_eq_some_iff, Option.map_eq_some_iff] at h; obtain ⟨z, _, h⟩ := h; (repeat' (split at h)) <;> first | (cases h; done) | simp at h) | simp at h)
  | value f =>
    cases f with
    | func f =>
      simp only at h
      split at h
      ·injection h with h
       injection h with e1 e2
       exact ⟨f, xs, ats, rfl, by assumption, e1, e2⟩
      ·repeat' (split at h)
       all_goals (simp at h)
    | tmp t => injection h with h; cases h
    | _ => cases h
 case binOp bop t a b q =>
  cases bop <;> simp only at h
  case eql =>
   cases hu : P.underlying t with
   | none => simp [hu] at h
   | some d =>
     cases d <;> simp only [hu] at h
     all_goals (repeat' (split at h))
     all_goals (first | contradiction | simp at h)
  case neq =>
   cases hu : P.underlying t with
   | none => simp [hu] at h
   | some d =>
     cases d <;> simp only [hu] at h
     all_goals (repeat' (split at h))
     all_goals (first | contradiction | simp at h)
  all_goals (simp at h)
 case convert s d a =>
  cases hs : P.underlying s with
  | none => simp [hs] at h
  | some ds =>
    cases hd : P.underlying d with
    | none => cases ds <;> simp [hs, hd] at h
    | some dd =>
      cases ds <;> cases dd <;> simp [hs, hd] at h
      all_goals (repeat' (split at h))
      all_goals (simp at h)
 case alloc e =>
  cases hz : Yw3 P e <;> simp only [hz, Option.bind_some, Option.bind_none, Option.map_some, Option.map_none] at h <;> (repeat' (split at h)) <;> simp at h
 case buildSlice t len parts =>
  cases hu : P.underlying t with
  | none => simp [hu] at h
  | some d =>
    cases d <;> simp only [hu] at h <;> try (cases h; done)
    rename_i e
    cases hz : Yw3 P e <;> simp only [hz, Option.bind_some, Option.bind_none] at h <;> (repeat' (split at h)) <;> simp at h
 all_goals (repeat' (split at h))
 all_goals (first | contradiction | simp [Option.bind_eq_some_iff] at h)
theorem YjH {o : Oper} {x : Opd} {args : List Opd} (h : trOp P fm o = some (.dyn x args)) :
  ∃ t xs ats, o.op = .call ⟨.value (.tmp t), xs, ats⟩ /\ x = .t t /\ xs.toList.map (YwN fm) = args := by
 obtain ⟨dst, oop, ty, pos, after, guard⟩ := o
 cases oop <;> simp only [trOp] at h
 case call c =>
  obtain ⟨callee, xs, ats⟩ := c
  cases callee with
  | invoke r m => cases h
  | builtin b =>
    cases b <;> simp only at h <;> try (cases h; done)
    all_goals (repeat' (split at h))
    all_goals (first | (cases h; done) | (simp only [Option.bind_eq_some_iff, Option.map_eq_some_iff] at h; obtain ⟨z, _, h⟩ := h; (repeat' (split at h)) <;> first | (cases h; done) | simp at h) | simp at h)
  | value f =>
    cases f with
    | func f =>
      simp only at h
      split at h
      ·injection h with h; cases h
      ·repeat' (split at h)
       all_goals (simp at h)
    | tmp t =>
      injection h with h
      injection h with e1 e2
      exact ⟨t, xs, ats, rfl, e1.symm, e2⟩
    | _ => cases h
 case binOp bop t a b q =>
  cases bop <;> simp only at h
  case eql =>
   cases hu : P.underlying t with
   | none => simp [hu] at h
   | some d =>
     cases d <;> simp only [hu] at h
     all_goals (repeat' (split at h))
     all_goals (first | contradiction | simp at h)
  case neq =>
   cases hu : P.underlying t with
   | none => simp [hu] at h
   | some d =>
     cases d <;> simp only [hu] at h
     all_goals (repeat' (split at h))
     all_goals (first | contradiction | simp at h)
  all_goals (simp at h)
 case convert s d a =>
  cases hs : P.underlying s with
  | none => simp [hs] at h
  | some ds =>
    cases hd : P.underlying d with
    | none => cases ds <;> simp [hs, hd] at h
    | some dd =>
      cases ds <;> cases dd <;> simp [hs, hd] at h
      all_goals (repeat' (split at h))
      all_goals (simp at h)
 case alloc e =>
  cases hz : Yw3 P e <;> simp only [hz, Option.bind_some, Option.bind_none, Option.map_some, Option.map_none] at h <;> (repeat' (split at h)) <;> simp at h
 case buildSlice t len parts =>
  cases hu : P.underlying t with
  | none => simp [hu] at h
  | some d =>
    cases d <;> simp only [hu] at h <;> try (cases h; done)
    rename_i e
    cases hz : Yw3 P e <;> simp only [hz, Option.bind_some, Option.bind_none] at h <;> (repeat' (split at h)) <;> simp at h
 all_goals (repeat' (split at h))
 all_goals (first | contradiction | simp [Option.bind_eq_some_iff] at h)
theorem YjI {o : Oper} {x : Opd} {args : List Opd} (h : trOp P fm o = some (.dynP x args)) : False := by
 obtain ⟨dst, oop, ty, pos, after, guard⟩ := o
 cases oop <;> simp only [trOp] at h
 case binOp bop t a b q =>
  cases bop <;> simp only at h
  case eql =>
   cases hu : P.underlying t with
   | none => simp [hu] at h
   | some d =>
     cases d <;> simp only [hu] at h
     all_goals (repeat' (split at h))
     all_goals (first | contradiction | simp at h)
  case neq =>
   cases hu : P.underlying t with
   | none => simp [hu] at h
   | some d =>
     cases d <;> simp only [hu] at h
     all_goals (repeat' (split at h))
     all_goals (first | contradiction | simp at h)
  all_goals (simp at h)
 case convert s d a =>
  cases hs : P.underlying s with
  | none => simp [hs] at h
  | some ds =>
    cases hd : P.underlying d with
    | none => cases ds <;> simp [hs, hd] at h
    | some dd =>
      cases ds <;> cases dd <;> simp [hs, hd] at h
      all_goals (repeat' (split at h))
      all_goals (simp at h)
 case alloc e =>
  cases hz : Yw3 P e <;> simp only [hz, Option.bind_some, Option.bind_none, Option.map_some, Option.map_none] at h <;> (repeat' (split at h)) <;> simp at h
 case buildSlice t len parts =>
  cases hu : P.underlying t with
  | none => simp [hu] at h
  | some d =>
    cases d <;> simp only [hu] at h <;> try (cases h; done)
    rename_i e
    cases hz : Yw3 P e <;> simp only [hz, Option.bind_some, Option.bind_none] at h <;> (repeat' (split at h)) <;> simp at h
 all_goals (repeat' (split at h))
 all_goals (first | contradiction | simp [Option.bind_eq_some_iff] at h)
theorem YjJ {o : Oper} {g : Nat} {args : List Opd} (h : trOp P fm o = some (.callN g args)) : False := by
 obtain ⟨dst, oop, ty, pos, after, guard⟩ := o
 cases oop <;> simp only [trOp] at h
 case binOp bop t a b q =>
  cases bop <;> simp only at h
  case eql =>
   cases hu : P.underlying t with
   | none => simp [hu] at h
   | some d =>
     cases d <;> simp only [hu] at h
     all_goals (repeat' (split at h))
     all_goals (first | contradiction | simp at h)
  case neq =>
   cases hu : P.underlying t with
   | none => simp [hu] at h
   | some d =>
     cases d <;> simp only [hu] at h
     all_goals (repeat' (split at h))
     all_goals (first | contradiction | simp at h)
  all_goals (simp at h)
 case convert s d a =>
  cases hs : P.underlying s with
  | none => simp [hs] at h
  | some ds =>
    cases hd : P.underlying d with
    | none => cases ds <;> simp [hs, hd] at h
    | some dd =>
      cases ds <;> cases dd <;> simp [hs, hd] at h
      all_goals (repeat' (split at h))
      all_goals (simp at h)
 case alloc e =>
  cases hz : Yw3 P e <;> simp only [hz, Option.bind_some, Option.bind_none, Option.map_some, Option.map_none] at h <;> (repeat' (split at h)) <;> simp at h
 case buildSlice t len parts =>
  cases hu : P.underlying t with
  | none => simp [hu] at h
  | some d =>
    cases d <;> simp only [hu] at h <;> try (cases h; done)
    rename_i e
    cases hz : Yw3 P e <;> simp only [hz, Option.bind_some, Option.bind_none] at h <;> (repeat' (split at h)) <;> simp at h
 all_goals (repeat' (split at h))
 all_goals (first | contradiction | simp [Option.bind_eq_some_iff] at h)
theorem YjK {C : Ctx} (hC : CtxOK P fm C) {o : Oper} {op : AOp} (htr : trOp P fm o = some op) {H : Heap} (hr : HR fm w L (hf H)) {a : Act} {env : Env} (he : ER fm w L a env)
  {K : AV -> Heap -> Prop} (hev : evOp C op env H K) {Q : Exit -> Act -> World -> Prop} : o.wp P a w (Yy4 fm w L a o.dst K) Q := by
 have plain : evG op env (hf H) H.length (fun v us => K v (YwT H us)) -> o.wp P a w (Yy4 fm w L a o.dst K) Q := by
  intro hev
  obtain ⟨x, v, us, w', h1, ⟨h2, h3⟩, L', h4, h5, h6, h7⟩ := Ye7 htr hr he (nid := H.length) (by simp [hf]) (YjE hev)
  rw [YjF h3] at h6
  exact Ycr h1 ⟨x, v, _, L', rfl, h2, h4, h5, h6, h7⟩
 cases op
 case call g args =>
  obtain ⟨f, xs, ats, ho, h0, rfl, rfl⟩ := Ye9 htr
  obtain ⟨h1, h2⟩ := YjG hC hr (vs := (xs.toList.map a.eval).toArray) (by simp) (Yct he xs.toList) hev
  refine Ycu (f := f) (vs := (xs.toList.map a.eval).toArray) ?_ (h2.mono ?_)
  ·have e3 : (xs.map a.eval) = (xs.toList.map a.eval).toArray := by apply Array.ext'; simp
   unfold execOp
   simp [ho, resolve, Deferred.ofValue, Act.eval, invoke]
   rw [Ycs h1]
   exact congrArg (fun z => Result.ok (Next.enter f z) w) e3
  ·rintro e w' ⟨v, r, H', L', rfl, hk, k1, k2, k3, k4⟩
   exact ⟨v, rfl, v, r, H', L', rfl, hk, k1, k2, k3, k4⟩
 case dyn x args =>
  obtain ⟨t, xs, ats, ho, rfl, rfl⟩ := YjH htr
  obtain ⟨g, cs, e, hev⟩ := hev
  have hx := Yac he (.tmp t)
  simp only [YwN] at hx
  rw [show opd env (.t t) = .clo g cs from e] at hx
  obtain ⟨f, ys, ex, hfm, hsz, hall⟩ := Ycm hx
  subst hfm
  have e3 : (xs.map a.eval) ++ ys = ((xs.toList.map a.eval) ++ ys.toList).toArray := by apply Array.ext'; simp
  obtain ⟨h1, h2⟩ := YjG hC hr (vs := ((xs.toList.map a.eval) ++ ys.toList).toArray) (by simp [hsz]) (fun j c hj => by
   by_cases hlt : j < xs.toList.length
   ·rw [YzS (by simpa using hlt)] at hj
    rw [Ycl (by simpa using hlt)]
    have := Yct he xs.toList j c hj
    rw [Array.getD_eq_getD_getElem?] at this
    simpa [List.getD] using this
   ·rw [YzU (by simpa using hlt)] at hj
    obtain ⟨m, hm⟩ : ∃ m, j = (xs.toList.map a.eval).length + m := ⟨j - (xs.toList.map a.eval).length, by simp at hlt ⊢; omega⟩
    subst hm
    rw [Ydd]
    have := hall m c (by simpa using hj)
    rwa [<- Ydc] at this) hev
  refine Ycu (f := f) (vs := ((xs.toList.map a.eval) ++ ys.toList).toArray) ?_ (h2.mono ?_)
  ·unfold execOp
   simp [ho, resolve, ex, Deferred.ofValue, invoke]
   rw [Ycs h1]
   exact congrArg (fun z => Result.ok (Next.enter f z) w) e3
  ·rintro e w' ⟨v, r, H', L', rfl, hk, k1, k2, k3, k4⟩
   exact ⟨v, rfl, v, r, H', L', rfl, hk, k1, k2, k3, k4⟩
 case dynP x args => exact (YjI htr).elim
 case callN g args => exact (YjJ htr).elim
 all_goals exact plain hev
end
end Go.Abs
namespace Go.Abs
open Go Go.RowKit
structure SR (fm : FM) (n : Nat) (w0 : World) (L0 : Nat -> Loc) (st : ASt) (a : Act) (w : World) : Prop where
 defers : a.defers = []
 size : a.tmps.size = n
 base : ∀ b, L0 b ≠ .fresh -> b < st.base
 rel : ∃ L, Keep L0 w0 w /\ LStep L0 L w0.heap.size /\ HR fm w L (hf st.heap) /\ ER fm w L a st.env
section
variable {P : Program} {fm : FM} {w : World} {L : Nat -> Loc} {n : Nat} {w0 : World} {L0 : Nat -> Loc}
theorem YpU {a : Act} {env : Env} (he : ER fm w L a env) {d : Nat} (hd : d < a.tmps.size) {x : Value} {v : AV} (hv : VR fm w L x v) : ER fm w L (a.put (some d) x) ((d, v) :: env) := by
 intro t
 simp only [Act.put, YwJ]
 by_cases e : d = t
 ·subst e
  have : (a.tmps.setIfInBounds d x).getD d undef = x := by simp [Array.getD, hd]
  simp [this, hv]
 ·have h1 : (d == t) = false := by simp [e]
  have h2 : (a.tmps.setIfInBounds d x).getD t undef = a.tmps.getD t undef := by
   rw [Array.getD_eq_getD_getElem?, Array.getD_eq_getD_getElem?, Array.getElem?_setIfInBounds_ne e]
  rw [h1, h2]
  exact he t
theorem er_put' {a : Act} {env : Env} (he : ER fm w L a env) {d : Option Nat} (hd : ∀ k, d = some k -> k < a.tmps.size) {x : Value} {v : AV} (hv : VR fm w L x v) : ER fm w L (a.put d x) (put env d v) := by
 cases d with
 | none => exact he
 | some d => exact YpU he (hd d rfl) hv
theorem Ycv {a : Act} {env : Env} (he : ER fm w L a env) {g : Nat} {b : Bool} (h : YwJ env g = .v (.bool b)) : ER fm w L a ((g, .v (.bool b)) :: env) := by
 intro t
 simp only [YwJ]
 by_cases e : g = t
 ·subst e; have := he g; rw [h] at this; simpa using this
 ·have h1 : (g == t) = false := by simp [e]
  rw [h1]; exact he t
theorem YbW (a : Act) (d : Option Nat) (x : Value) : (a.put d x).tmps.size = a.tmps.size := by cases d <;> simp [Act.put]
theorem YbX (a : Act) (d : Option Nat) (x : Value) : (a.put d x).defers = a.defers := by cases d <;> rfl
theorem SR.step {st : ASt} {a : Act} (hs : SR fm n w0 L0 st a w) {env : Env} {H : Heap} {L' : Nat -> Loc} {w' : World} {a' : Act} (hd : a'.defers = a.defers) (hz : a'.tmps.size = a.tmps.size)
  {L1 : Nat -> Loc} (h1 : Keep L0 w0 w /\ LStep L0 L1 w0.heap.size) (hk : Keep L1 w w') (hls : LStep L1 L' w.heap.size) (hr : HR fm w' L' (hf H)) (he : ER fm w' L' a' env) :
  SR fm n w0 L0 ⟨env, H, st.base⟩ a' w' :=
 ⟨hd.trans hs.defers, hz.trans hs.size, hs.base, L', h1.1.trans h1.2 hk, h1.2.trans (hls.mono h1.1.size), hr, he⟩
theorem Yfa {ops : Array Oper} {o : Oper} {y : AI} (h : trAI P fm n ops o = some y) :
  trOp P fm o = some y.op /\ y.dst = o.dst /\ (∀ k, o.dst = some k -> k < n) /\ y.old = false /\ y.nw = false /\
   (o.guard = none /\ y.guard = none \/ ∃ j want g, o.guard = some (j, want) /\ (ops[j]?).bind (·.dst) = some g /\ g < n /\ y.guard = some (g, want)) := by
 have key : ∀ op, trOp P fm o = some op -> (∀ k, o.dst = some k -> k < n) -> (match o.guard with
   | none => some (⟨o.dst, op, none, false, false⟩ : AI)
   | some (j, want) => match (ops[j]?).bind (·.dst) with
     | some g => if g < n then some ⟨o.dst, op, some (g, want), false, false⟩ else none
     | none => none) = some y -> trOp P fm o = some y.op /\ y.dst = o.dst /\ (∀ k, o.dst = some k -> k < n) /\ y.old = false /\ y.nw = false /\
   (o.guard = none /\ y.guard = none \/ ∃ j want g, o.guard = some (j, want) /\ (ops[j]?).bind (·.dst) = some g /\ g < n /\ y.guard = some (g, want)) := by
  intro op ho hd' h
  cases hg : o.guard with
  | none => rw [hg] at h; injection h with h; subst h; exact ⟨ho, rfl, hd', rfl, rfl, .inl ⟨rfl, rfl⟩⟩
  | some jw =>
    obtain ⟨j, want⟩ := jw
    simp only [hg] at h
    cases hgd : (ops[j]?).bind (·.dst) with
    | none => simp [hgd] at h
    | some g =>
      simp only [hgd] at h
      by_cases hlt : g < n
      ·rw [if_pos hlt] at h; injection h with h; subst h; exact ⟨ho, rfl, hd', rfl, rfl, .inr ⟨j, want, g, rfl, hgd, hlt, rfl⟩⟩
      ·rw [if_neg hlt] at h; cases h
 unfold trAI at h
 cases ho : trOp P fm o with
 | none => simp [ho] at h
 | some op =>
   simp only [ho] at h
   rw [<- ho]
   obtain ⟨dst, oop, ty, pos, after, guard⟩ := o
   cases dst with
   | none => exact key op ho (fun k hk => by cases hk) h
   | some d =>
     by_cases hlt : d < n
     ·simp only [decide_eq_true hlt] at h
      exact key op ho (fun k hk => by cases hk; exact hlt) h
     ·simp only [decide_eq_false hlt] at h
      cases h
theorem YjL {ops : Array Oper} {j g : Nat} (h : (ops[j]?).bind (·.dst) = some g) {tmps : Array Value} (hg : g < tmps.size) {b : Bool} (hb : tmps.getD g undef = .bool b) :
  yielded ops tmps j = some b := by
 unfold yielded
 rw [h]
 simp only [Option.bind_some]
 have : tmps[g]? = some (.bool b) := by rw [YaJ hg, hb]
 rw [this]
theorem YjM {ops : Array Oper} {j g : Nat} (h : (ops[j]?).bind (·.dst) = some g) {tmps : Array Value} (hg : g < tmps.size) (hb : tmps.getD g undef = undef) :
  yielded ops tmps j = none := by
 unfold yielded
 rw [h]
 simp only [Option.bind_some]
 have : tmps[g]? = some undef := by rw [YaJ hg, hb]
 rw [this]
 rfl
theorem YpV {C : Ctx} (hC : CtxOK P fm C) {ops : Array Oper} {o : Oper} {y : AI} (htr : trAI P fm n ops o = some y) {n0 : Nat -> Prop} {K : ASt -> Prop} {st : ASt} {a : Act} (hs : SR fm n w0 L0 st a w)
  (hev : evAI C n0 y K st) {Q : Exit -> Act -> World -> Prop} :
  (Region.wanted o (yielded ops a.tmps) = true -> o.wp P a w (fun a' w' => ∃ st', K st' /\ SR fm n w0 L0 st' a' w') Q) /\
  (Region.wanted o (yielded ops a.tmps) = false -> ∃ st', K st' /\ SR fm n w0 L0 st' (a.put o.dst undef) w) := by
 obtain ⟨hop, hdst, hdn, hold, hnw, hg⟩ := Yfa htr
 obtain ⟨dst, op, guard, old, nw⟩ := y
 simp only at hop hdst hold hnw hg
 subst hdst; subst hold; subst hnw
 obtain ⟨L1, hk1, hs1, hr1, he1⟩ := hs.rel
 have hdn' : ∀ k, o.dst = some k -> k < a.tmps.size := fun k hk => by rw [hs.size]; exact hdn k hk
 have run : ∀ env, ER fm w L1 a env -> evOp C op env st.heap (fun v H => K ⟨put env o.dst v, H, st.base⟩) ->
   o.wp P a w (fun a' w' => ∃ st', K st' /\ SR fm n w0 L0 st' a' w') Q := by
  intro env he hev
  refine Oper.wp_mono ?_ (YjK hC hop hr1 he hev)
  rintro a' w' ⟨x, v, H', L', rfl, hk, k1, k2, k3, k4⟩
  refine ⟨_, hk, hs.step (YbX _ _ _) (YbW _ _ _) ⟨hk1, hs1⟩ k1 k2 k3 (er_put' (fun t => (he t).mono k1 k2) hdn' k4)⟩
 have skip : ∀ env, ER fm w L1 a env -> K ⟨put env o.dst (.v undef), st.heap, st.base⟩ -> ∃ st', K st' /\ SR fm n w0 L0 st' (a.put o.dst undef) w := by
  intro env he hk
  exact ⟨_, hk, hs.step (YbX _ _ _) (YbW _ _ _) ⟨hk1, hs1⟩ (Keep.refl _ _) (LStep.refl _ _) hr1 (er_put' he hdn' (.v _))⟩
 rcases hg with ⟨hg1, hg2⟩ | ⟨j, want, g, hg1, hg2, hg3, hg4⟩
 ·subst hg2
  refine ⟨fun _ => run st.env he1 ?_, fun h => ?_⟩
  ·simpa [evAI, YxZ] using hev
  ·simp [Region.wanted, hg1] at h
 ·subst hg4
  have hwant : ∀ b, YwJ st.env g = .v (.bool b) -> Region.wanted o (yielded ops a.tmps) = (b == want) := by
   intro b hb
   have h1 := he1 g
   rw [hb] at h1
   have h2 := YjL hg2 (by rw [hs.size]; exact hg3) (Yag h1)
   simp only [Region.wanted, hg1, h2]
   cases b <;> cases want <;> rfl
  have hno : YwJ st.env g = .v undef -> Region.wanted o (yielded ops a.tmps) = false := by
   intro hb
   have h1 := he1 g
   rw [hb] at h1
   have h2 := YjM hg2 (by rw [hs.size]; exact hg3) (Yag h1)
   simp only [Region.wanted, hg1, h2]
   cases want <;> rfl
  cases want with
  | true =>
    rcases hev with ⟨b, hb, hev⟩ | ⟨hb, hev⟩
    case inr => rw [hno hb]; exact ⟨fun h => (by cases h), fun _ => skip _ he1 hev⟩
    have hb' : YwJ st.env g = .v (.bool b) := hb
    rw [hwant b hb']
    cases b with
    | true => exact ⟨fun _ => run _ (Ycv he1 hb') (hev.1 rfl).2.2, fun h => by cases h⟩
    | false => exact ⟨fun h => (by cases h), fun _ => skip _ (Ycv he1 hb') (hev.2 rfl)⟩
  | false =>
    rcases hev with ⟨b, hb, hev⟩ | ⟨hb, hev⟩
    case inr => rw [hno hb]; exact ⟨fun h => (by cases h), fun _ => skip _ he1 hev⟩
    have hb' : YwJ st.env g = .v (.bool b) := hb
    rw [hwant b hb']
    cases b with
    | true => exact ⟨fun h => (by cases h), fun _ => skip _ (Ycv he1 hb') (hev.1 rfl)⟩
    | false => exact ⟨fun _ => run _ (Ycv he1 hb') (hev.2 rfl).2.2, fun h => by cases h⟩
theorem Ycw {α β : Type} {f : α -> Option β} {x : α} {r : List α} {ys : List β} (h : Yxa f (x :: r) = some ys) : ∃ y zs, f x = some y /\ Yxa f r = some zs /\ ys = y :: zs := by
 simp only [Yxa] at h
 cases h1 : f x with
 | none => simp [h1] at h
 | some y =>
   cases h2 : Yxa f r with
   | none => simp [h1, h2] at h
   | some zs => simp [h1, h2] at h; exact ⟨y, zs, rfl, rfl, h.symm⟩
theorem Ydq {C : Ctx} (hC : CtxOK P fm C) {ops : Array Oper} {n0 : Nat -> Prop} {Q : Exit -> Act -> World -> Prop} {K : ASt -> Prop}
  (hQ : ∀ st a w, K st -> SR fm n w0 L0 st a w -> Q .normal a w) : ∀ (os : List Oper) (ys : List AI) (st : ASt) (a : Act) (w : World), Yxa (trAI P fm n ops) os = some ys -> Yxg C n0 ys K st ->
  SR fm n w0 L0 st a w -> wpList P ops Q os a w
 | [], ys, st, a, w, hm, hev, hs => by
   simp [Yxa] at hm; subst hm
   exact hQ st a w hev hs
 | o :: os, ys, st, a, w, hm, hev, hs => by
   obtain ⟨y, zs, h1, h2, rfl⟩ := Ycw hm
   obtain ⟨r1, r2⟩ := YpV hC h1 hs hev (Q := Q)
   unfold wpList
   cases hw : Region.wanted o (yielded ops a.tmps) with
   | true =>
     rw [if_pos rfl]
     refine .inl (Oper.wp_mono ?_ (r1 hw))
     rintro a' w' ⟨st', hk, hs'⟩
     exact Ydq hC hQ os zs st' a' w' h2 hk hs'
   | false =>
     simp only [Bool.false_eq_true, if_false]
     obtain ⟨st', hk, hs'⟩ := r2 hw
     exact Ydq hC hQ os zs st' _ w h2 hk hs'
end
end Go.Abs
namespace Go.Abs
open Go Go.RowKit
def nmd (a : Nat) : AV -> Prop
 | .ptr b _ _ => a = b
 | .ref b _ _ => a = b
 | .np b => a = b
 | .clo _ cs => ∃ c ∈ cs, nm1 a c
 | .agg cs => ∃ off len, AV.ref a off len ∈ cs
 | _ => False
def Yxx (op : AOp) (env : Env) (a : Nat) : Prop := ∃ x ∈ op.touched, nmd a (opd env x)
theorem Yfb {env : Env} : ∀ (ps : List (Nat × Nat × Opd)) (l : List AV) (K : List AV -> Prop), YxL l env ps K -> ∃ cs, K cs /\ YxL l env ps (fun c => c = cs)
 | [], l, K, h => ⟨l, h, rfl⟩
 | (off, n, x) :: r, l, K, h => by
   obtain ⟨cs, h1, h2, h3, h4⟩ := h
   obtain ⟨ds, h5, h6⟩ := Yfb r _ K h4
   exact ⟨ds, h5, cs, h1, h2, h3, h6⟩
theorem Yfc {env : Env} {es : Nat} : ∀ (ps : List (Nat × Opd)) (l : List (List AV)) (K : List (List AV) -> Prop), Yxk es l env ps K -> ∃ cs, K cs /\ Yxk es l env ps (fun c => c = cs)
 | [], l, K, h => ⟨l, h, rfl⟩
 | (i, x) :: r, l, K, h => by
   obtain ⟨cs, h1, h2, h3, h4⟩ := h
   obtain ⟨ds, h5, h6⟩ := Yfc r _ K h4
   exact ⟨ds, h5, cs, h1, h2, h3, h6⟩
theorem YjN {env : Env} : ∀ (ps : List (Nat × Nat × Opd)) (l : List AV) {K K' : List AV -> Prop}, (∀ c, K c -> K' c) -> YxL l env ps K -> YxL l env ps K'
 | [], l, K, K', hk, h => hk _ h
 | (off, n, x) :: r, l, K, K', hk, h => by
   obtain ⟨cs, h1, h2, h3, h4⟩ := h
   exact ⟨cs, h1, h2, h3, YjN r _ hk h4⟩
theorem YjO {env : Env} {es : Nat} : ∀ (ps : List (Nat × Opd)) (l : List (List AV)) {K K' : List (List AV) -> Prop}, (∀ c, K c -> K' c) -> Yxk es l env ps K -> Yxk es l env ps K'
 | [], l, K, K', hk, h => hk _ h
 | (i, x) :: r, l, K, K', hk, h => by
   obtain ⟨cs, h1, h2, h3, h4⟩ := h
   exact ⟨cs, h1, h2, h3, YjO r _ hk h4⟩
theorem Ycx {g : Bool} {n : Nat} {cs : List AV} {K : AV -> List Upd -> Prop} (h : Yxj g n cs fun a => K a []) : ∃ v us, K v us /\ Yxj g n cs (fun a => a = v /\ ([] : List Upd) = us) := by
 cases g
 ·obtain ⟨c, h1, h2⟩ := h; exact ⟨_, _, h2, c, h1, rfl, rfl⟩
 ·obtain ⟨h1, h2⟩ := h; exact ⟨_, _, h2, h1, rfl, rfl⟩
theorem YpW {op : BinOp} {k : IntKind} {x y : Int} {K : Value -> Prop} (h : Yxq op k x y K) : ∃ v, K v /\ Yxq op k x y (fun v' => v' = v) := by
 cases op <;> simp only [Yxq] at h ⊢ <;> first | exact ⟨_, h, rfl⟩ | exact ⟨_, h.2, h.1, rfl⟩
theorem YpX {op : BinOp} {x y : ByteArray} {K : Value -> Prop} (h : Yxz op x y K) : ∃ v, K v /\ Yxz op x y (fun v' => v' = v) := by
 cases op <;> simp only [Yxz] at h ⊢ <;> first | exact h.elim | exact ⟨_, h, rfl⟩ | exact ⟨_, h.2, h.1, rfl⟩
theorem YjP {op : BinOp} {a b : AV} {K : Value -> Prop} (h : binK op a b K) : ∃ v, K v /\ binK op a b (fun v' => v' = v) := by
 unfold binK at h ⊢
 split at h
 ·obtain ⟨v, h1, h2⟩ := YpW h.2; exact ⟨v, h1, h.1, h2⟩
 ·exact YpX h
 ·exact h.elim
theorem Yaw {env : Env} {o : Option Opd} {d : Nat} {K : Nat -> Prop} (h : slB env o d K) : ∃ n, K n /\ ∀ K' : Nat -> Prop, K' n -> slB env o d K' := by
 cases o with
 | none => exact ⟨d, h, fun K' h => h⟩
 | some x => obtain ⟨k, n, e, h0, h⟩ := h; exact ⟨_, h, fun K' h => ⟨k, n, e, h0, h⟩⟩
theorem YjQ {es : Nat} {s : AV} {l : List (List AV)} {h : HF} {nid : Nat} {K : AV -> List Upd -> Prop} (hev : appK es s l h nid K) : ∃ v us, K v us /\ appK es s l h nid (fun v' us' => v' = v /\ us' = us) := by
 cases s <;> try exact hev.elim
 case emp => obtain ⟨h1, h2, h0, h3⟩ := hev; exact ⟨_, _, h3, h1, h2, h0, rfl, rfl⟩
 case ref a off len => obtain ⟨o, ha, h1, h2, h3, h4, h5, h6⟩ := hev; exact ⟨_, _, h6, o, ha, h1, h2, h3, h4, h5, rfl, rfl⟩
theorem YjR (op : AOp) (env : Env) (h : HF) (nid : Nat) (K : AV -> List Upd -> Prop) (hev : evG op env h nid K) : ∃ v us, K v us /\ evG op env h nid (fun v' us' => v' = v /\ us' = us) := by
 cases op <;> simp only [evG, opK] at hev ⊢ <;> try exact hev.elim
 case pv => obtain ⟨r, h1, h2⟩ := hev; exact ⟨_, _, h2, r, h1, rfl, rfl⟩
 case mv => exact ⟨_, _, hev, rfl, rfl⟩
 case pick c a b =>
  obtain ⟨t, e, h1, h2⟩ := hev
  cases t
  ·exact ⟨_, _, h2 rfl, false, e, (YoX _ _).mpr ⟨rfl, rfl⟩⟩
  ·exact ⟨_, _, h1 rfl, true, e, (YoW _ _).mpr ⟨rfl, rfl⟩⟩
 case box => obtain ⟨cs, h1, h2, h3, h4⟩ := hev; exact ⟨_, _, h4, cs, h1, h2, h3, rfl, rfl⟩
 case alloc => exact ⟨_, _, hev, rfl, rfl⟩
 case build z ps => obtain ⟨cs, h1, h2⟩ := Yfb _ _ _ hev; exact ⟨_, _, h1, YjN _ _ (fun c e => by rw [e]; exact ⟨rfl, rfl⟩) h2⟩
 case bsl es z n ps => obtain ⟨cs, h1, h2⟩ := Yfc _ _ _ hev; exact ⟨_, _, h1, YjO _ _ (fun c e => by rw [e]; exact ⟨rfl, rfl⟩) h2⟩
 case load g n x =>
  split at hev <;> try exact hev.elim
  ·exact Ycx hev
  ·obtain ⟨o, ha, e, he, h1⟩ := hev
   obtain ⟨v, us, h2, h3⟩ := Ycx h1
   exact ⟨v, us, h2, o, ha, e, he, h3⟩
 case loadR g n x =>
  split at hev <;> try exact hev.elim
  exact Ycx hev
 case store n x y =>
  split at hev <;> try exact hev.elim
  obtain ⟨o, ha, e, he, cs, hcs, h1, h2, h3⟩ := hev
  exact ⟨_, _, h3, o, ha, e, he, cs, hcs, h1, h2, rfl, rfl⟩
 case nilc x => split at hev <;> first | exact hev.elim | exact ⟨_, _, hev, rfl, rfl⟩
 case bin op x y => obtain ⟨v, h1, h2⟩ := YjP hev; exact ⟨_, _, h1, (by
   have : ∀ {a b : AV} {K K' : Value -> Prop}, (∀ v, K v -> K' v) -> binK op a b K -> binK op a b K' := by
    intro a b K K' hk hb
    unfold binK at hb ⊢
    split at hb
    ·refine ⟨hb.1, ?_⟩
     have hb := hb.2
     cases op <;> simp only [Yxq] at hb ⊢ <;> first | exact hk _ hb | exact ⟨hb.1, hk _ hb.2⟩
    ·cases op <;> simp only [Yxz] at hb ⊢ <;> first | exact hb | exact hk _ hb | exact ⟨hb.1, hk _ hb.2⟩
    ·exact hb
   exact this (fun v e => by rw [e]; exact ⟨rfl, rfl⟩) h2)⟩
 case beq => obtain ⟨b, e, c, e', h⟩ := hev; exact ⟨_, _, h, b, e, c, e', rfl, rfl⟩
 case eqa => obtain ⟨cs, ds, r, h1, h2, h3, h4⟩ := hev; exact ⟨_, _, h4, cs, ds, r, h1, h2, h3, rfl, rfl⟩
 case not => obtain ⟨b, e, h⟩ := hev; exact ⟨_, _, h, b, e, rfl, rfl⟩
 case neg => obtain ⟨k, n, e, h⟩ := hev; exact ⟨_, _, h, k, n, e, rfl, rfl⟩
 case conv => obtain ⟨k, n, e, h⟩ := hev; exact ⟨_, _, h, k, n, e, rfl, rfl⟩
 case cvs => obtain ⟨s, e, h⟩ := hev; exact ⟨_, _, h, s, e, rfl, rfl⟩
 case fad => split at hev <;> first | exact hev.elim | exact ⟨_, _, hev, rfl, rfl⟩
 case fld g off n x =>
  obtain ⟨cs, e, h1, h2⟩ := hev
  obtain ⟨v, us, h3, h4⟩ := Ycx h2
  exact ⟨v, us, h3, cs, e, h1, h4⟩
 case iad es x i =>
  obtain ⟨k, n, e, h⟩ := hev
  split at h <;> try exact h.elim
  ·obtain ⟨h1, h2, c, h3, h4⟩ := h
   exact ⟨_, _, h4, k, n, e, h1, h2, c, h3, rfl, rfl⟩
  ·obtain ⟨o, ha, h1, h2, h3, h4, h5⟩ := h
   exact ⟨_, _, h5, k, n, e, o, ha, h1, h2, h3, h4, rfl, rfl⟩
 case iada es len x i =>
  obtain ⟨k, n, e, h0, h1, h⟩ := hev
  split at h <;> first | exact h.elim | exact ⟨_, _, h, k, n, e, h0, h1, rfl, rfl⟩
 case idx => obtain ⟨s, e, k, n, e', h0, b, h1, h2⟩ := hev; exact ⟨_, _, h2, s, e, k, n, e', h0, b, h1, rfl, rfl⟩
 case slcS x lo hi =>
  obtain ⟨s, e, h⟩ := hev
  obtain ⟨l, h1, k1⟩ := Yaw h
  obtain ⟨m, ⟨h2, h3, h4⟩, k2⟩ := Yaw h1
  exact ⟨_, _, h4, s, e, k1 _ (k2 _ ⟨h2, h3, rfl, rfl⟩)⟩
 case slcR es x lo hi =>
  split at hev <;> try exact hev.elim
  ·obtain ⟨e, h⟩ := hev
   obtain ⟨l, h1, k1⟩ := Yaw h
   obtain ⟨m, ⟨h2, h3, h4⟩, k2⟩ := Yaw h1
   exact ⟨_, _, h4, e, k1 _ (k2 _ ⟨h2, h3, rfl, rfl⟩)⟩
  ·obtain ⟨l, h1, k1⟩ := Yaw hev
   obtain ⟨m, ⟨h2, h3, h4⟩, k2⟩ := Yaw h1
   exact ⟨_, _, h4, k1 _ (k2 _ ⟨h2, h3, rfl, rfl⟩)⟩
  ·obtain ⟨l, h1, k1⟩ := Yaw hev
   obtain ⟨m, ⟨h2, h3, h4⟩, k2⟩ := Yaw h1
   exact ⟨_, _, h4, k1 _ (k2 _ ⟨h2, h3, rfl, rfl⟩)⟩
 case ext => obtain ⟨l, e, b, h1, h2⟩ := hev; exact ⟨_, _, h2, l, e, b, h1, rfl, rfl⟩
 case len => split at hev <;> first | exact hev.elim | exact ⟨_, _, hev, rfl, rfl⟩
 case lenS => obtain ⟨s, e, h⟩ := hev; exact ⟨_, _, h, s, e, rfl, rfl⟩
 case app es s x =>
  split at hev <;> try exact hev.elim
  ·obtain ⟨h1, h2⟩ := hev
   obtain ⟨v, us, h3, h4⟩ := YjQ h2
   exact ⟨v, us, h3, h1, h4⟩
  ·exact YjQ hev
 case mksl => obtain ⟨k, n, e, k', c, e', h0, h1, h2, h3⟩ := hev; exact ⟨_, _, h3, k, n, e, k', c, e', h0, h1, h2, rfl, rfl⟩
 case mkf => exact ⟨_, _, hev, rfl, rfl⟩
 case px => obtain ⟨v, us, h1, h2⟩ := hev; exact ⟨_, _, h2, v, us, h1, rfl, rfl⟩
def Shape (op : AOp) (env : Env) (h : HF) (us : List Upd) : Prop :=
 (us = [] /\ op.news (fun _ => true) = false) \/ (∃ o, us = [.push o] /\ op.news (fun _ => true) = true) \/
 (∃ a o, us = [.set a o] /\ h a ≠ none /\ op.eff (fun _ => true) = true /\ op.news (fun _ => true) = false /\ Yxx op env a) \/
 (∃ a o p, us = [.set a o, .push p] /\ h a ≠ none /\ op.eff (fun _ => true) = true /\ op.news (fun _ => true) = true /\ Yxx op env a)
theorem YpY {os es : Nat} {s : AV} {l : List (List AV)} {h : HF} {nid : Nat} {o : AObj} {us : List Upd} (hx : apX os es s l h nid = some (o, us)) :
  us = [] \/ ∃ a off len, s = .ref a off len /\ us = [.set a none] /\ h a ≠ none := by
 unfold apX at hx
 obtain ⟨_, hx'⟩ := cond_ok' hx
 clear hx
 split at hx'
 ·obtain ⟨_, h2⟩ := cond_ok' hx'; injection h2 with h2; injection h2 with _ h2; exact .inl h2.symm
 ·rename_i a off len
  split at hx'
  ·rename_i o' ho
   obtain ⟨_, h2⟩ := cond_ok' hx'; injection h2 with h2; injection h2 with _ h2
   exact .inr ⟨a, off, len, rfl, h2.symm, by rw [ho]; simp⟩
  ·cases hx'
 ·cases hx'
theorem YpZ {α : Type} {l : List α} (h : l.length = 2) : ∃ a b, l = [a, b] := by
 match l, h with
 | [a, b], _ => exact ⟨a, b, rfl⟩
theorem Yp0 {op : XOp} {xs : List Opd} {env : Env} {h : HF} {nid : Nat} {v : AV} {us : List Upd} (hx : xF op (xs.map (opd env)) h nid = some (v, us)) : Shape (.px op xs) env h us := by
 have app : ∀ {os es s x l o us0 p}, apX os es s l h nid = some (o, us0) -> xs.map (opd env) = [s, x] -> op.eff = true -> op.news = true -> op.look = 1 -> Shape (.px op xs) env h (us0 ++ [.push p]) := by
  intro os es s x l o us0 p hap hm he hn hl
  rcases YpY hap with rfl | ⟨a, off, len, rfl, rfl, hne⟩
  ·exact .inr (.inl ⟨_, rfl, hn⟩)
  ·refine .inr (.inr (.inr ⟨a, _, _, rfl, hne, he, hn, ?_⟩))
   obtain ⟨q, r, rfl⟩ := YpZ (by have hl := congrArg List.length hm; simpa using hl : xs.length = 2)
   simp at hm
   exact ⟨q, by simp [AOp.touched, hl], by rw [hm.1]; rfl⟩
 have nam : ∀ (f : AV) (rest : List AV) (a : Nat), xs.map (opd env) = f :: rest -> op.look = 1 -> nmd a f -> Yxx (.px op xs) env a := by
  intro f rest a hm hl hn
  cases xs with
  | nil => simp at hm
  | cons q r =>
    simp at hm
    exact ⟨q, by simp [AOp.touched, hl], by rw [hm.1]; exact hn⟩
 revert hx app nam
 generalize hys : xs.map (opd env) = ys
 intro hx app nam
 unfold xF at hx
 split at hx
 all_goals (repeat' (first | (cases hx; done) | (replace hx := (cond_ok' hx).2) | split at hx))
 all_goals
  injection hx with hx
  injection hx with _ hx
  subst hx
  first
   | exact .inl ⟨rfl, rfl⟩
   | exact .inr (.inl ⟨_, rfl, rfl⟩)
   | exact app (by assumption) rfl rfl rfl rfl
   | exact .inr (.inr (.inl ⟨_, _, rfl, fun hn => by simp_all, rfl, rfl, nam _ _ _ rfl rfl rfl⟩))
theorem YjS {op : AOp} {env : Env} {h : HF} {nid : Nat} {v : AV} {us : List Upd} (hev : evG op env h nid (fun v' us' => v' = v /\ us' = us)) : Shape op env h us := by
 cases op
 case store n x y =>
  simp only [evG, opK] at hev
  split at hev <;> try exact hev.elim
  rename_i a i j e
  obtain ⟨o, ha, e', he, cs, hcs, h1, h2, _, h3⟩ := hev
  exact .inr (.inr (.inl ⟨a, _, h3.symm, by rw [ha]; simp, rfl, rfl, x, by simp [AOp.touched], by rw [e]; rfl⟩))
 case app es s x =>
  have key : ∀ l, appK es (opd env s) l h nid (fun v' us' => v' = v /\ us' = us) -> Shape (.app es s x) env h us := by
   intro l hk
   cases hs : opd env s <;> rw [hs] at hk <;> try exact hk.elim
   case emp => obtain ⟨h1, h2, _, _, h3⟩ := hk; exact .inr (.inl ⟨_, h3.symm, rfl⟩)
   case ref a off len =>
    obtain ⟨o, ha, h1, h2, h3, h4, h5, _, h6⟩ := hk
    exact .inr (.inr (.inr ⟨a, _, _, h6.symm, by rw [ha]; simp, rfl, rfl, s, by simp [AOp.touched], by rw [hs]; rfl⟩))
  simp only [evG, opK] at hev
  split at hev <;> try exact hev.elim
  ·exact key _ hev.2
  ·exact key _ hev
 case box x => obtain ⟨cs, h1, h2, h3, _, h4⟩ := hev; exact .inr (.inl ⟨_, h4.symm, rfl⟩)
 case alloc z => obtain ⟨_, h4⟩ := hev; exact .inr (.inl ⟨_, h4.symm, rfl⟩)
 case mksl => obtain ⟨k, n, e, k', c, e', h0, h1, h2, _, h3⟩ := hev; exact .inr (.inl ⟨_, h3.symm, rfl⟩)
 case call => exact hev.elim
 case dyn => exact hev.elim
 case dynP => exact hev.elim
 case callN => exact hev.elim
 case px op xs => obtain ⟨v', us', h1, _, h2⟩ := hev; subst h2; exact Yp0 h1
 all_goals
  refine .inl ⟨?_, rfl⟩
  simp only [evG, opK, Yys, intK, strK, bsp] at hev
 case pv => obtain ⟨r, _, _, h⟩ := hev; exact h.symm
 case mv => exact hev.2.symm
 case mkf => exact hev.2.symm
 case pick c a b =>
  obtain ⟨t, e, h1, h2⟩ := hev
  cases t
  ·exact (h2 rfl).2.symm
  ·exact (h1 rfl).2.symm
 case build z ps => obtain ⟨cs, h1, h2⟩ := Yfb _ _ _ hev; exact h1.2.symm
 case bsl es z n ps => obtain ⟨cs, h1, h2⟩ := Yfc _ _ _ hev; exact h1.2.symm
 case load g n x =>
  split at hev <;> try exact hev.elim
  ·obtain ⟨v, us, h2, h3⟩ := Ycx (K := fun a us' => a = v /\ us' = us) hev
   cases g
   ·obtain ⟨_, _, h⟩ := hev; exact h.2.symm
   ·exact hev.2.2.symm
  ·obtain ⟨o, ha, e, he, h1⟩ := hev
   cases g
   ·obtain ⟨_, _, h⟩ := h1; exact h.2.symm
   ·exact h1.2.2.symm
 case loadR g n x =>
  split at hev <;> try exact hev.elim
  cases g
  ·obtain ⟨_, _, h⟩ := hev; exact h.2.symm
  ·exact hev.2.2.symm
 case nilc x => split at hev <;> first | exact hev.elim | exact hev.2.symm
 case bin op x y => obtain ⟨v, h1, h2⟩ := YjP hev; exact h1.2.symm
 case beq => obtain ⟨b, e, c, e', h⟩ := hev; exact h.2.symm
 case eqa => obtain ⟨cs, ds, r, h1, h2, h3, h4⟩ := hev; exact h4.2.symm
 case not => obtain ⟨b, e, h⟩ := hev; exact h.2.symm
 case neg => obtain ⟨k, n, e, h⟩ := hev; exact h.2.symm
 case conv => obtain ⟨k, n, e, h⟩ := hev; exact h.2.symm
 case cvs => obtain ⟨s, e, h⟩ := hev; exact h.2.symm
 case fad => split at hev <;> first | exact hev.elim | exact hev.2.symm
 case fld g off n x =>
  obtain ⟨cs, e, h1, h2⟩ := hev
  cases g
  ·obtain ⟨_, _, h⟩ := h2; exact h.2.symm
  ·exact h2.2.2.symm
 case iad es x i =>
  obtain ⟨k, n, e, h⟩ := hev
  split at h <;> try exact h.elim
  ·obtain ⟨h1, h2, c, h3, h4⟩ := h; exact h4.2.symm
  ·obtain ⟨o, ha, h1, h2, h3, h4, h5⟩ := h; exact h5.2.symm
 case iada es len x i =>
  obtain ⟨k, n, e, h0, h1, h⟩ := hev
  split at h <;> first | exact h.elim | exact h.2.symm
 case idx => obtain ⟨s, e, k, n, e', h0, b, h1, h2⟩ := hev; exact h2.2.symm
 case slcS x lo hi =>
  obtain ⟨s, e, h⟩ := hev
  obtain ⟨l, h1, k1⟩ := Yaw h
  obtain ⟨m, ⟨h2, h3, h4⟩, k2⟩ := Yaw h1
  exact h4.2.symm
 case slcR es x lo hi =>
  split at hev <;> try exact hev.elim
  ·obtain ⟨e, h⟩ := hev
   obtain ⟨l, h1, k1⟩ := Yaw h
   obtain ⟨m, ⟨h2, h3, h4⟩, k2⟩ := Yaw h1
   exact h4.2.symm
  ·obtain ⟨l, h1, k1⟩ := Yaw hev
   obtain ⟨m, ⟨h2, h3, h4⟩, k2⟩ := Yaw h1
   exact h4.2.symm
  ·obtain ⟨l, h1, k1⟩ := Yaw hev
   obtain ⟨m, ⟨h2, h3, h4⟩, k2⟩ := Yaw h1
   exact h4.2.symm
 case ext => obtain ⟨l, e, b, h1, h2⟩ := hev; exact h2.2.symm
 case len => split at hev <;> first | exact hev.elim | exact hev.2.symm
 case lenS => obtain ⟨s, e, h⟩ := hev; exact h.2.symm
end Go.Abs
namespace Go.Abs
open Go Go.RowKit
def EqE (a b : Env) : Prop := ∀ t, YwJ a t = YwJ b t
theorem EqE.refl (a : Env) : EqE a a := fun _ => rfl
theorem EqE.symm {a b : Env} (h : EqE a b) : EqE b a := fun t => (h t).symm
theorem EqE.trans {a b c : Env} (h : EqE a b) (k : EqE b c) : EqE a c := fun t => (h t).trans (k t)
def OnE (ts : List Nat) (a b : Env) : Prop := ∀ t ∈ ts, YwJ b t = YwJ a t
theorem Yaf {x : Opd} {a b : Env} (h : OnE x.tmps a b) : opd b x = opd a x := by
 cases x with
 | t n => exact h n (by simp [Opd.tmps])
 | c v => rfl
theorem OnE.left {xs ys : List Nat} {a b : Env} (h : OnE (xs ++ ys) a b) : OnE xs a b := fun t ht => h t (YAd _ ht)
theorem OnE.right {xs ys : List Nat} {a b : Env} (h : OnE (xs ++ ys) a b) : OnE ys a b := fun t ht => h t (YAw _ ht)
theorem Ya7 {a b : Env} : ∀ {xs : List Opd}, OnE (xs.flatMap Opd.tmps) a b -> xs.map (opd b) = xs.map (opd a)
 | [], _ => rfl
 | x :: r, h => by
   simp only [List.flatMap_cons] at h
   simp only [YzR, Yaf h.left, Ya7 h.right]
theorem YjT {a b : Env} : ∀ {ps : List (Nat × Nat × Opd)} {l : List AV} {K : List AV -> Prop}, OnE (ps.flatMap fun p => p.2.2.tmps) a b -> YxL l a ps K -> YxL l b ps K
 | [], l, K, _, h => h
 | (off, n, x) :: r, l, K, ho, h => by
   simp only [List.flatMap_cons] at ho
   obtain ⟨cs, h1, h2, h3, h4⟩ := h
   exact ⟨cs, by rw [Yaf ho.left]; exact h1, h2, h3, YjT ho.right h4⟩
theorem YjU {a b : Env} {es : Nat} : ∀ {ps : List (Nat × Opd)} {l : List (List AV)} {K : List (List AV) -> Prop}, OnE (ps.flatMap fun p => p.2.tmps) a b -> Yxk es l a ps K -> Yxk es l b ps K
 | [], l, K, _, h => h
 | (i, x) :: r, l, K, ho, h => by
   simp only [List.flatMap_cons] at ho
   obtain ⟨cs, h1, h2, h3, h4⟩ := h
   exact ⟨cs, by rw [Yaf ho.left]; exact h1, h2, h3, YjU ho.right h4⟩
theorem Ybk {a b : Env} {o : Option Opd} {d : Nat} {K : Nat -> Prop} (ho : OnE (match o with | some o => o.tmps | none => []) a b) (h : slB a o d K) : slB b o d K := by
 cases o with
 | none => exact h
 | some x => simp only [slB, opK] at h ⊢; rw [Yaf ho]; exact h
theorem Ydr {a : Env} {o : Option Opd} {d : Nat} {K K' : Nat -> Prop} (hk : ∀ n, K n -> K' n) (h : slB a o d K) : slB a o d K' := by
 cases o with
 | none => exact hk _ h
 | some x => obtain ⟨k, n, e, h0, h⟩ := h; exact ⟨k, n, e, h0, hk _ h⟩
theorem Yp1 {op : XOp} {xs : List Opd} {env : Env} {h h2 : HF} {nid : Nat} {r : AV × List Upd} (hd : op.deep = false \/ h2 = h) (hh : ∀ a, Yxx (.px op xs) env a -> h2 a = h a) (hx : xF op (xs.map (opd env)) h nid = some r) : xF op (xs.map (opd env)) h2 nid = some r := by
 rcases hd with hd | rfl
 rotate_left
 ·exact hx
 have key2 : ∀ (s : AV), (0 < op.look -> (xs.map (opd env))[0]? = some s) -> 0 < op.look -> ∀ a, s = .np a -> h2 a = h a := by
  intro s hs hl a e
  subst e
  cases xs with
  | nil => simp at hs; omega
  | cons x r =>
    have := hs hl
    simp at this
    refine hh a ⟨x, ?_, by rw [this]; rfl⟩
    show x ∈ (x :: r).take op.look
    cases hlk : op.look with
    | zero => omega
    | succ n => simp
 have key : ∀ (s : AV), (0 < op.look -> (xs.map (opd env))[0]? = some s) -> 0 < op.look -> ∀ a off len, s = .ref a off len -> h2 a = h a := by
  intro s hs hl a off len e
  subst e
  cases xs with
  | nil => simp at hs; omega
  | cons x r =>
    have := hs hl
    simp at this
    refine hh a ⟨x, ?_, by rw [this]; rfl⟩
    show x ∈ (x :: r).take op.look
    cases hlk : op.look with
    | zero => omega
    | succ n => simp
 have app : ∀ os es s l, (∀ a off len, s = .ref a off len -> h2 a = h a) -> apX os es s l h2 nid = apX os es s l h nid := by
  intro os es s l hs
  cases s <;> try rfl
  rename_i a off len
  unfold apX
  simp only [hs a off len rfl]
 revert key2; revert key; revert hx; revert hd
 generalize xs.map (opd env) = ys
 intro hd hx key key2
 unfold xF at hx ⊢
 split at hx
 all_goals first
  | exact hx
  | (rename_i s x
     have e : ∀ os es l, apX os es s l h2 nid = apX os es s l h nid := fun os es l => app os es s l (key s (fun _ => rfl) Nat.zero_lt_one)
     simp only [e]
     exact hx)
  | (rename_i a off len
     rw [key _ (fun _ => rfl) Nat.zero_lt_one a off len rfl]
     exact hx)
  | (rename_i a off len x
     rw [key _ (fun _ => rfl) Nat.zero_lt_one a off len rfl]
     exact hx)
  | (rename_i a
     rw [key2 _ (fun _ => rfl) Nat.zero_lt_one a rfl]
     exact hx)
  | (rename_i a k
     rw [key2 _ (fun _ => rfl) Nat.zero_lt_one a rfl]
     exact hx)
  | (rename_i a k z
     rw [key2 _ (fun _ => rfl) Nat.zero_lt_one a rfl]
     exact hx)
  | cases hd
  | cases hx
theorem Yp2 {op : AOp} {env env2 : Env} {h h2 : HF} {nid : Nat} {K : AV -> List Upd -> Prop} (hd : op.deep = false \/ h2 = h) (he : OnE op.uses env env2) (hh : ∀ a, Yxx op env a -> h2 a = h a) (hev : evG op env h nid K) :
  evG op env2 h2 nid K := by
 cases op <;> simp only [AOp.uses] at he <;> simp only [evG, opK] at hev ⊢ <;> try exact hev.elim
 case mv => rw [Yaf he]; exact hev
 case pick => rw [Yaf he.left.left, Yaf he.left.right, Yaf he.right]; exact hev
 case box => rw [Yaf he]; exact hev
 case alloc => exact hev
 case build => exact YjT he hev
 case bsl => exact YjU he hev
 case load g n x =>
  rw [Yaf he]
  split at hev <;> try exact hev.elim
  ·exact hev
  ·rename_i a i j e
   obtain ⟨o, ha, h1⟩ := hev
   exact ⟨o, by rw [hh a ⟨x, by simp [AOp.touched], by rw [e]; rfl⟩]; exact ha, h1⟩
 case loadR => rw [Yaf he]; exact hev
 case store n x y =>
  rw [Yaf he.left, Yaf he.right]
  split at hev <;> try exact hev.elim
  rename_i a i j e
  obtain ⟨o, ha, h1⟩ := hev
  exact ⟨o, by rw [hh a ⟨x, by simp [AOp.touched], by rw [e]; rfl⟩]; exact ha, h1⟩
 case nilc => rw [Yaf he]; exact hev
 case bin => rw [Yaf he.left, Yaf he.right]; exact hev
 case beq => rw [Yaf he.left, Yaf he.right]; exact hev
 case eqa => rw [Yaf he.left, Yaf he.right]; exact hev
 case not => rw [Yaf he]; exact hev
 case neg => rw [Yaf he]; exact hev
 case conv => rw [Yaf he]; exact hev
 case cvs => rw [Yaf he]; exact hev
 case fad => rw [Yaf he]; exact hev
 case fld => rw [Yaf he]; exact hev
 case iad es x i =>
  rw [Yaf he.left, Yaf he.right]
  obtain ⟨k, n, ei, h1⟩ := hev
  refine ⟨k, n, ei, ?_⟩
  split at h1 <;> try exact h1.elim
  ·exact h1
  ·rename_i a off len e
   obtain ⟨o, ha, h3⟩ := h1
   exact ⟨o, by rw [hh a ⟨x, by simp [AOp.touched], by rw [e]; rfl⟩]; exact ha, h3⟩
 case iada => rw [Yaf he.left, Yaf he.right]; exact hev
 case idx => rw [Yaf he.left, Yaf he.right]; exact hev
 case slcS x lo hi =>
  rw [Yaf he.left.left]
  obtain ⟨s, e, h1⟩ := hev
  exact ⟨s, e, Ybk he.left.right (Ydr (fun l hl => Ybk he.right hl) h1)⟩
 case slcR es x lo hi =>
  rw [Yaf he.left.left]
  split at hev <;> try exact hev.elim
  ·exact ⟨hev.1, Ybk he.left.right (Ydr (fun l hl => Ybk he.right hl) hev.2)⟩
  ·exact Ybk he.left.right (Ydr (fun l hl => Ybk he.right hl) hev)
  ·exact Ybk he.left.right (Ydr (fun l hl => Ybk he.right hl) hev)
 case ext => rw [Yaf he]; exact hev
 case len => rw [Yaf he]; exact hev
 case lenS => rw [Yaf he]; exact hev
 case app es s x =>
  rw [Yaf he.left, Yaf he.right]
  have key : ∀ l, appK es (opd env s) l h nid K -> appK es (opd env s) l h2 nid K := by
   intro l hk
   cases hs : opd env s <;> rw [hs] at hk <;> try exact hk.elim
   case emp => exact hk
   case ref a off len =>
    obtain ⟨o, ha, h1⟩ := hk
    exact ⟨o, by rw [hh a ⟨s, by simp [AOp.touched], by rw [hs]; rfl⟩]; exact ha, h1⟩
  split at hev <;> try exact hev.elim
  ·exact ⟨hev.1, key _ hev.2⟩
  ·exact key _ hev
 case mksl => rw [Yaf he.left, Yaf he.right]; exact hev
 case mkf => rw [Ya7 he]; exact hev
 case pv => rw [Ya7 he]; exact hev
 case px op xs => rw [Ya7 he]; obtain ⟨v, us, h1, h2⟩ := hev; exact ⟨v, us, Yp1 hd hh h1, h2⟩
theorem Yp3 {op : XOp} (hn : op.news = false) (xs : List AV) (h : HF) (nid nid' : Nat) : xF op xs h nid' = xF op xs h nid := by
 cases op <;> first | (cases hn; done) | (unfold xF; split <;> first | rfl | (rename_i he; cases he))
theorem Yp4 {op : AOp} {env : Env} {h : HF} {nid : Nat} (nid' : Nat) {K : AV -> List Upd -> Prop} (hn : op.news (fun _ => true) = false) (hev : evG op env h nid K) : evG op env h nid' K := by
 cases op <;> first | exact hev | (cases hn; done) | skip
 case px op xs => obtain ⟨v, us, h1, h2⟩ := hev; exact ⟨v, us, by rw [Yp3 hn]; exact h1, h2⟩
def Yzs (C : Ctx) (f : Nat) (args : List AV) (h : HF) (r : AV) : Prop :=
 ∃ args1 args', All2 (Bor h) args args1 /\ (args1 = args \/ Scal r) /\ All2 Coe args1 args' /\ C.C f args' [] r []
def OpU (C : Ctx) (op : AOp) (env : Env) (h : HF) (nid : Nat) (v : AV) (us : List Upd) : Prop :=
 match op with
 | .call f args => C.pf f = true /\ us = [] /\ Yzs C f (args.map (opd env)) h v
 | .dynP x args => ∃ f cs, opd env x = .clo f cs /\ C.pf f = true /\ us = [] /\ Yzs C f (args.map (opd env) ++ cs) h v
 | .dyn _ _ => False
 | .callN f args => ∃ args' o len, All2 Coe (args.map (opd env)) args' /\ MkC C f args' o len /\ v = .ref nid 0 len /\ us = [.push (some o)]
 | op => evG op env h nid (fun v' us' => v' = v /\ us' = us)
theorem YjV {i : Nat} {a : AV} (h : nm1 i a) : nmd i a := by
 cases a <;> first | exact h | exact h.elim
theorem YjW {h h2 : HF} {a b : AV} (hh : ∀ i off len, a = .ref i off len -> h2 i = h i) (hb : Bor1 h a b) : Bor1 h2 a b := by
 rcases hb with e | ⟨i, off, len, o, e, h1, h2', h3⟩
 ·exact .inl e
 ·exact .inr ⟨i, off, len, o, e, by rw [hh i off len e]; exact h1, h2', h3⟩
theorem YjX {h h2 : HF} : ∀ {as bs : List AV}, (∀ i off len, AV.ref i off len ∈ as -> h2 i = h i) -> All2 (Bor1 h) as bs -> All2 (Bor1 h2) as bs
 | [], [], _, _ => trivial
 | a :: as, b :: bs, hh, hall => ⟨YjW (fun i off len e => hh i off len (by rw [e]; exact Yz2 ..)) hall.1, YjX (fun x off len hx => hh x off len (YAh _ hx)) hall.2⟩
 | [], _ :: _, _, h => h.elim
 | _ :: _, [], _, h => h.elim
theorem Yfd {h h2 : HF} : ∀ {as bs : List AV}, (∀ i, (∃ a ∈ as, nm1 i a) -> h2 i = h i) -> All2 (Bor h) as bs -> All2 (Bor h2) as bs
 | [], [], _, _ => trivial
 | a :: as, b :: bs, hh, hall => by
   refine ⟨?_, Yfd (fun i ⟨x, hx, hn⟩ => hh i ⟨x, YAh _ hx, hn⟩) hall.2⟩
   rcases hall.1 with hb | ⟨cs, ds, e1, e2, hb⟩
   ·exact .inl (YjW (fun i off len e => hh i ⟨a, Yz2 .., by rw [e]; rfl⟩) hb)
   ·exact .inr ⟨cs, ds, e1, e2, YjX (fun i off len hm => hh i ⟨a, Yz2 .., by rw [e1]; exact ⟨off, len, hm⟩⟩) hb⟩
 | [], _ :: _, _, h => h.elim
 | _ :: _, [], _, h => h.elim
theorem Yp5 {C : Ctx} {op : AOp} {env env2 : Env} {h h2 : HF} {nid : Nat} {v : AV} {us : List Upd} (hd : op.deep = false \/ h2 = h) (he : OnE op.uses env env2) (hh : ∀ a, Yxx op env a -> h2 a = h a)
  (hev : OpU C op env h nid v us) : OpU C op env2 h2 nid v us := by
 cases op
 case call f args =>
  obtain ⟨h1, h2', a1, a2, h3, h4⟩ := hev
  simp only [AOp.uses] at he
  refine ⟨h1, h2', a1, a2, ?_⟩
  rw [Ya7 he]
  refine ⟨Yfd (fun i ⟨a, ha, hn⟩ => hh i ?_) h3, h4⟩
  obtain ⟨x, hx, e⟩ := Yz5.1 ha
  exact ⟨x, hx, by rw [e]; exact YjV hn⟩
 case dynP x args =>
  obtain ⟨f, cs, e, h1, h2', a1, a2, h3, h4⟩ := hev
  simp only [AOp.uses] at he
  refine ⟨f, cs, by rw [Yaf he.left]; exact e, h1, h2', a1, a2, ?_⟩
  rw [Ya7 he.right]
  refine ⟨Yfd (fun i ⟨a, ha, hn⟩ => hh i ?_) h3, h4⟩
  rcases Yz6.1 ha with ha | ha
  ·obtain ⟨y, hy, e⟩ := Yz5.1 ha
   exact ⟨y, YAh _ hy, by rw [e]; exact YjV hn⟩
  ·exact ⟨x, Yz2 .., by rw [e]; exact ⟨a, ha, hn⟩⟩
 case dyn => exact hev.elim
 case callN f args =>
  obtain ⟨args', o, len, h1, h2⟩ := hev
  simp only [AOp.uses] at he
  exact ⟨args', o, len, by rw [Ya7 he]; exact h1, h2⟩
 all_goals exact Yp2 (h := h) (nid := nid) (K := fun v' us' => v' = v /\ us' = us) hd he hh hev
theorem Yfe {C : Ctx} {op : AOp} {env : Env} {h : HF} {nid : Nat} {v : AV} {us : List Upd} (hev : OpU C op env h nid v us) : Shape op env h us := by
 cases op
 case call f args => exact .inl ⟨hev.2.1, rfl⟩
 case dynP x args => obtain ⟨f, cs, e, h1, h2', _⟩ := hev; exact .inl ⟨h2', rfl⟩
 case dyn => exact hev.elim
 case callN f args => obtain ⟨_, o, _, _, _, _, h⟩ := hev; exact .inr (.inl ⟨some o, h, rfl⟩)
 all_goals exact YjS (nid := nid) hev
end Go.Abs
namespace Go.Abs
open Go Go.RowKit
theorem Yp6 {op : XOp} {xs : List Opd} {x : Opd} (h : x ∈ xs.take op.look) : Nat.blt 0 op.look = true := by
 cases hl : op.look with
 | zero => rw [hl] at h; simp at h
 | succ n => simp [Nat.blt]
theorem YbY {op : AOp} {env : Env} {a : Nat} (h : Yxx op env a) : op.touch = true := by
 obtain ⟨x, hx, _⟩ := h
 cases op <;> first | rfl | exact Yp6 hx | (simp [AOp.touched] at hx)
theorem Yp7 {op : AOp} {pf : Nat -> Bool} (h : op.wild pf = true) : op.touch = true := by
 cases op <;> first | rfl | cases h
theorem YjY {op : AOp} {pf : Nat -> Bool} (h : op.eff (fun _ => true) = true) : op.eff pf = true := by
 cases op <;> first | rfl | exact h | cases h
theorem Ycy {op : AOp} {pf : Nat -> Bool} (h : op.news (fun _ => true) = true) : op.news pf = true := by
 cases op <;> first | rfl | exact h | cases h
theorem YjZ {n0 : Nat -> Prop} {env : Env} : ∀ {xs : List Opd}, YxC n0 env xs -> ∀ x ∈ xs, YyM n0 (opd env x)
 | [], _, x, hx => by cases hx
 | y :: r, h, x, hx => by
   rcases Yz4.1 hx with rfl | hx
   ·exact h.1
   ·exact YjZ h.2 x hx
theorem Yds {n0 : Nat -> Prop} {env : Env} {op : AOp} {a : Nat} (h : YxC n0 env op.touched) (hn : Yxx op env a) : ¬ n0 a := by
 obtain ⟨x, hx, ha⟩ := hn
 have := YjZ h x hx
 cases hv : opd env x <;> rw [hv] at ha this <;> try exact ha.elim
 ·exact ha.symm ▸ this
 ·exact ha.symm ▸ this
 ·obtain ⟨off, len, ha⟩ := ha; exact this a off len ha
 ·obtain ⟨c, hc, ha⟩ := ha; exact this a c hc ha
 ·exact ha.symm ▸ this
theorem Yff {n0 : Nat -> Prop} {a : Nat} {v : AV} (h : Yyv n0 v) (ha : nmd a v) : n0 a := by
 cases v <;> first | exact ha.elim | exact h.elim | exact ha.symm ▸ h
theorem Yj0 {n0 : Nat -> Prop} {env : Env} {op : AOp} {a : Nat} (h : nwC n0 env op) (hn : Yxx op env a) : n0 a := by
 obtain ⟨x, hx, ha⟩ := hn
 cases op <;> try exact h.elim
 ·simp [AOp.touched] at hx; subst hx; exact Yff h ha
 ·simp [AOp.touched] at hx; subst hx; exact Yff h ha
 ·exact Yff (h x hx) ha
def Yxo (y : AI) (env : Env) : Prop := y.guard = none \/ ∃ g b, y.guard = some (g, b) /\ YwJ env g = .v (.bool b)
def RunC (C : Ctx) (n0 : Nat -> Prop) (y : AI) (env : Env) (h : HF) (v : AV) (nid : Nat) (us : List Upd) : Prop :=
 Yxo y env /\ (y.old = true -> YxC n0 env y.op.touched) /\ (y.nw = true -> nwC n0 env y.op) /\ n0 nid /\ (y.op.news (fun _ => true) = true -> h nid = none) /\ OpU C y.op env h nid v us
def YzE (y : AI) (env : Env) (v : AV) (us : List Upd) : Prop := (∃ g b, y.guard = some (g, b) /\ (YwJ env g = .v (.bool (!b)) \/ YwJ env g = .v undef)) /\ v = .v undef /\ us = []
def YxO (C : Ctx) (n0 : Nat -> Prop) (y : AI) (env : Env) (h : HF) (v : AV) (nid : Nat) (us : List Upd) : Prop := RunC C n0 y env h v nid us \/ YzE y env v us
def Yy9 (C : Ctx) (y : AI) (env : Env) (h : HF) (v : AV) (h' : HF) : Prop :=
 Yxo y env /\ y.op.wild C.pf = true /\ ∃ H H', h = hf H /\ h' = hf H' /\ evOp C y.op env H (fun v' H'' => v' = v /\ H'' = H')
def Core (C : Ctx) (n0 : Nat -> Prop) (y : AI) (env : Env) (h : HF) (v : AV) (h' : HF) : Prop :=
 (∃ nid us, YxO C n0 y env h v nid us /\ h' = appF h nid us) \/ Yy9 C y env h v h'
def Step (C : Ctx) (n0 : Nat -> Prop) (y : AI) (env : Env) (h : HF) (env' : Env) (h' : HF) : Prop :=
 ∃ v, EqE env' (put env y.dst v) /\ Core C n0 y env h v h'
theorem Ydt {y : AI} {a b : Env} (h : OnE y.uses a b) : OnE y.op.uses a b := h.left
theorem Yj1 {y : AI} {a b : Env} (h : OnE y.uses a b) {g : Nat} {w : Bool} (hg : y.guard = some (g, w)) : YwJ b g = YwJ a g := by
 refine h g ?_
 unfold AI.uses
 rw [hg]
 simp
theorem Yfg {y : AI} {a b : Env} (h : OnE y.uses a b) (hg : Yxo y a) : Yxo y b := by
 rcases hg with hg | ⟨g, w, h1, h2⟩
 ·exact .inl hg
 ·exact .inr ⟨g, w, h1, by rw [Yj1 h h1]; exact h2⟩
theorem Yp8 {op : AOp} {x : Opd} (hx : x ∈ op.touched) : ∀ t ∈ x.tmps, t ∈ op.uses := by
 intro t ht
 cases op <;> simp only [AOp.touched, Yz4, List.not_mem_nil, or_false] at hx <;> simp only [AOp.uses]
 ·subst hx; exact ht
 ·subst hx; exact YAd _ ht
 ·subst hx; exact YAd _ ht
 ·subst hx; exact YAd _ ht
 ·exact List.mem_flatMap.2 ⟨x, hx, ht⟩
 ·rcases hx with rfl | hx
  ·exact YAd _ ht
  ·exact YAw _ (List.mem_flatMap.2 ⟨x, hx, ht⟩)
 ·exact List.mem_flatMap.2 ⟨x, YAv hx, ht⟩
theorem Ydu {op : AOp} {a b : Env} (h : OnE op.uses a b) {x : Opd} (hx : x ∈ op.touched) : opd b x = opd a x :=
 Yaf (fun t ht => h t (Yp8 hx t ht))
theorem Yj2 {n0 : Nat -> Prop} {a b : Env} : ∀ {xs : List Opd}, (∀ x ∈ xs, opd b x = opd a x) -> YxC n0 a xs -> YxC n0 b xs
 | [], _, _ => trivial
 | x :: r, h, ho => ⟨by unfold opK; rw [h x (Yz2 ..)]; exact ho.1, Yj2 (fun y hy => h y (YAh _ hy)) ho.2⟩
theorem Yp9 {n0 : Nat -> Prop} {a b : Env} {op : AOp} (h : OnE op.uses a b) (hn : nwC n0 a op) : nwC n0 b op := by
 cases op <;> try exact hn.elim
 ·simp only [nwC, opK] at hn ⊢; rw [Ydu h (by simp [AOp.touched])]; exact hn
 ·simp only [nwC, opK] at hn ⊢; rw [Ydu h (by simp [AOp.touched])]; exact hn
 ·intro x hx; have := hn x hx; simp only [opK] at this ⊢; rw [Ydu h (show x ∈ _ from hx)]; exact this
theorem Ydv {C : Ctx} {n0 : Nat -> Prop} {y : AI} {env env2 : Env} {h h2 : HF} {v : AV} {nid : Nat} {us : List Upd} (hs : YxO C n0 y env h v nid us) (hd : y.op.deep = false \/ h2 = h) (he : OnE y.uses env env2)
  (hh : RunC C n0 y env h v nid us -> (∀ a, Yxx y.op env a -> h2 a = h a) /\ (y.op.news (fun _ => true) = true -> h2 nid = none)) : YxO C n0 y env2 h2 v nid us := by
 rcases hs with hr | ⟨⟨g, b, h1, h3⟩, h4⟩
 ·obtain ⟨k1, k2⟩ := hh hr
  obtain ⟨h1, h3, h4, h5, h6, h7⟩ := hr
  exact .inl ⟨Yfg he h1, fun e => Yj2 (fun x hx => Ydu (Ydt he) hx) (h3 e), fun e => Yp9 (Ydt he) (h4 e), h5, k2, Yp5 hd (Ydt he) k1 h7⟩
 ·exact .inr ⟨⟨g, b, h1, by rw [Yj1 he h1]; exact h3⟩, h4⟩
theorem Yfh {C : Ctx} {y : AI} {env env2 : Env} {h h' : HF} {v : AV} (hs : Yy9 C y env h v h') (he : OnE y.uses env env2) : Yy9 C y env2 h v h' := by
 obtain ⟨h1, h2, H, H', h3, h4, h5⟩ := hs
 refine ⟨Yfg he h1, h2, H, H', h3, h4, ?_⟩
 have ho := Ydt he
 revert h5 h2 ho
 cases y.op <;> intro h5 h2 ho <;> first | (cases h5; done) | skip
 ·simp only [AOp.uses] at ho
  simp only [evOp] at h2 ⊢
  rw [Ya7 ho]; exact h2
 ·simp only [AOp.uses] at ho
  simp only [evOp, opK] at h2 ⊢
  rw [Yaf ho.left, Ya7 ho.right]; exact h2
end Go.Abs
namespace Go.Abs
open Go Go.RowKit
def DU (nid : Nat) : List Upd -> Nat -> Prop
 | [], _ => False
 | .set a _ :: r, b => b = a \/ DU nid r b
 | .push _ :: r, b => b = nid \/ DU nid r b
theorem Yay {nid b : Nat} : ∀ {us : List Upd} {h : HF}, ¬ DU nid us b -> appF h nid us b = h b
 | [], h, _ => rfl
 | .set a o :: r, h, hn => by
   simp only [DU, not_or] at hn
   simp only [appF]
   rw [Yay hn.2]; simp [appU, hn.1]
 | .push o :: r, h, hn => by
   simp only [DU, not_or] at hn
   simp only [appF]
   rw [Yay hn.2]; simp [appU, hn.1]
open Classical in
theorem YbZ {nid b : Nat} : ∀ {us : List Upd} {h h2 : HF}, DU nid us b -> appF h nid us b = appF h2 nid us b /\ appF h nid us b ≠ none
 | [], h, h2, hd => hd.elim
 | .set a o :: r, h, h2, hd => by
   simp only [appF]
   by_cases hr : DU nid r b
   ·exact YbZ hr
   ·have e : b = a := hd.resolve_right hr
    rw [Yay hr, Yay hr]; simp [appU, e]
 | .push o :: r, h, h2, hd => by
   simp only [appF]
   by_cases hr : DU nid r b
   ·exact YbZ hr
   ·have e : b = nid := hd.resolve_right hr
    rw [Yay hr, Yay hr]; simp [appU, e]
theorem Yqa {nx ny : Nat} {us vs : List Upd} {h : HF} (hd : ∀ b, DU nx us b -> DU ny vs b -> False) : appF (appF h nx us) ny vs = appF (appF h ny vs) nx us := by
 funext b
 open Classical in
 by_cases h1 : DU nx us b
 ·rw [Yay (fun h2 => hd b h1 h2)]
  exact (YbZ h1).1
 ·rw [Yay (us := us) h1]
  by_cases h2 : DU ny vs b
  ·exact (YbZ h2).1
  ·rw [Yay h2, Yay h2, Yay h1]
section
variable {C : Ctx} {n0 : Nat -> Prop} {x y : AI} {env : Env} {h : HF} {v : AV} {nid : Nat} {us : List Upd}
theorem Yfi (hr : RunC C n0 y env h v nid us) {b : Nat} (hd : DU nid us b) :
  (y.op.eff C.pf = true /\ Yxx y.op env b) \/ (y.op.news C.pf = true /\ b = nid /\ n0 nid /\ h nid = none) := by
 obtain ⟨h1, h2, h3, h4, h5, h6⟩ := hr
 rcases Yfe h6 with ⟨rfl, _⟩ | ⟨o, rfl, hn⟩ | ⟨a, o, rfl, _, he, _, hn⟩ | ⟨a, o, p, rfl, _, he, hw, hn⟩
 ·exact hd.elim
 ·simp only [DU, or_false] at hd; exact .inr ⟨Ycy hn, hd, h4, h5 hn⟩
 ·simp only [DU, or_false] at hd; subst hd; exact .inl ⟨YjY he, hn⟩
 ·simp only [DU, or_false] at hd
  rcases hd with rfl | rfl
  ·exact .inl ⟨YjY he, hn⟩
  ·exact .inr ⟨Ycy hw, rfl, h4, h5 hw⟩
theorem Yqb (hr : RunC C n0 y env h v nid us) (hn : y.op.news (fun _ => true) = true) : DU nid us nid := by
 obtain ⟨h1, h2, h3, h4, h5, h6⟩ := hr
 rcases Yfe h6 with ⟨rfl, he⟩ | ⟨o, rfl, _⟩ | ⟨a, o, rfl, _, _, he, _⟩ | ⟨a, o, p, rfl, _⟩
 ·rw [hn] at he; cases he
 ·simp [DU]
 ·rw [hn] at he; cases he
 ·simp [DU]
theorem Yfj (hs : YxO C n0 y env h v nid us) {b : Nat} (hd : DU nid us b) : RunC C n0 y env h v nid us := by
 rcases hs with hr | ⟨_, _, rfl⟩
 ·exact hr
 ·exact hd.elim
theorem Yj3 {dst : Option Nat} {v : AV} {ts : List Nat} (hd : ∀ d, dst = some d -> d ∉ ts) : OnE ts env (put env dst v) := by
 intro t ht
 cases dst with
 | none => rfl
 | some d =>
   have : (d == t) = false := by
    simp; exact fun e => hd d rfl (e ▸ ht)
   simp [put, YwJ, this]
theorem Yfk {a b : Env} (h : EqE a b) (d : Option Nat) (v : AV) : EqE (put a d v) (put b d v) := by
 cases d with
 | none => exact h
 | some d => intro t; simp only [put, YwJ]; rw [h t]
theorem Yqc {d e : Option Nat} (hne : ∀ k, d = some k -> e ≠ some k) (v k : AV) : EqE (put (put env d v) e k) (put (put env e k) d v) := by
 cases d with
 | none => exact EqE.refl _
 | some d =>
   cases e with
   | none => exact EqE.refl _
   | some e =>
     have hde : d ≠ e := fun h => hne d rfl (by rw [h])
     intro t
     simp only [put, YwJ]
     by_cases h1 : d = t
     ·subst h1
      have : (e == d) = false := by simp; exact fun h => hde h.symm
      simp [this]
     ·have : (d == t) = false := by simp [h1]
      simp [this]
theorem OnE.of_eq {ts : List Nat} {a b : Env} (h : EqE b a) : OnE ts a b := fun t _ => h t
theorem OnE.trans {ts : List Nat} {a b c : Env} (h : OnE ts a b) (k : OnE ts b c) : OnE ts a c := fun t ht => (k t ht).trans (h t ht)
theorem OnE.symm {ts : List Nat} {a b : Env} (h : OnE ts a b) : OnE ts b a := fun t ht => (h t ht).symm
theorem Yj4 {pf : Nat -> Bool} (hi : Yyd pf x y = true) :
  (∀ d, x.dst = some d -> d ∉ y.uses /\ y.dst ≠ some d) /\ (∀ d, y.dst = some d -> d ∉ x.uses) /\
  (x.op.wild pf = true -> y.op.touch = false /\ y.op.news pf = false) /\ (y.op.wild pf = true -> x.op.touch = false /\ x.op.news pf = false) /\
  (x.op.eff pf = true -> y.op.touch = true -> x.nw = true /\ y.old = true) /\ (y.op.eff pf = true -> x.op.touch = true -> y.nw = true /\ x.old = true) /\
  (x.op.news pf = true -> y.op.touch = true -> y.old = true) /\ (y.op.news pf = true -> x.op.touch = true -> x.old = true) /\ x.op.deep = false /\ y.op.deep = false := by
 unfold Yyd at hi
 rw [Bool.and_eq_true] at hi
 obtain ⟨hdp, hi⟩ := hi
 simp only [Bool.and_eq_true, Bool.not_eq_true'] at hdp
 rw [Bool.and_eq_true] at hi
 obtain ⟨ht, hh⟩ := hi
 unfold Yy1 at ht
 unfold Yy2 at hh
 simp only [Bool.and_eq_true, Bool.or_eq_true, Bool.not_eq_true', Bool.and_eq_false_imp, Bool.or_eq_false_iff] at hh
 rw [Bool.and_eq_true] at ht
 obtain ⟨t1, t2⟩ := ht
 refine ⟨fun d hd => ?_, fun d hd => ?_, ?_⟩
 ·rw [hd] at t1; simpa using t1
 ·rw [hd] at t2; simpa using t2
 ·obtain ⟨⟨⟨⟨⟨a1, a2⟩, a3⟩, a4⟩, a5⟩, a6⟩ := hh
  refine ⟨a1, a2, fun e t => ?_, fun e t => ?_, fun e t => ?_, fun e t => ?_, hdp⟩
  ·rcases a3 with a3 | a3
   ·rw [a3 e] at t; cases t
   ·exact a3
  ·rcases a4 with a4 | a4
   ·rw [a4 e] at t; cases t
   ·exact a4
  ·rcases a5 with a5 | a5
   ·rw [a5 e] at t; cases t
   ·exact a5
  ·rcases a6 with a6 | a6
   ·rw [a6 e] at t; cases t
   ·exact a6
theorem Yqd {op : AOp} (h : op.deep = true) : op.touch = true := by
 cases op <;> try cases h
 rename_i xo xs
 cases xo <;> first | (cases h; done) | rfl
theorem Yj5 (hs : YxO C n0 y env h v nid us) (ht : y.op.touch = false) (hn : y.op.news C.pf = false) : us = [] := by
 rcases hs with hr | ⟨_, _, h⟩
 ·rcases Yfe hr.2.2.2.2.2 with ⟨h, _⟩ | ⟨o, _, he⟩ | ⟨a, o, _, _, _, _, hd⟩ | ⟨a, o, p, _, _, _, he, _⟩
  ·exact h
  ·rw [Ycy he] at hn; cases hn
  ·rw [YbY hd] at ht; cases ht
  ·rw [Ycy he] at hn; cases hn
 ·exact h
theorem Yj6 (hs : YxO C n0 y env h v nid us) {env2 : Env} (he : OnE y.uses env env2) (ht : y.op.touch = false) (hn : y.op.news C.pf = false) (h2 : HF) : YxO C n0 y env2 h2 v nid us :=
 Ydv hs (.inl (by cases hq : y.op.deep with | false => rfl | true => rw [Yqd hq] at ht; cases ht)) he (fun _ => ⟨fun a ha => (by rw [YbY ha] at ht; cases ht), fun e => (by rw [Ycy e] at hn; cases hn)⟩)
theorem Yqe {h1 h2 : HF} {env1 : Env} {vx vy : AV} (hi : Yyd C.pf x y = true) (he : OnE y.uses env1 env) (he2 : ∀ k, OnE x.uses env (put env y.dst k)) (hx : Core C n0 x env h vx h1) (hy : Core C n0 y env1 h1 vy h2) :
  ∃ h', Core C n0 y env h vy h' /\ Core C n0 x (put env y.dst vy) h' vx h2 := by
 obtain ⟨_, _, i1, i2, i3, i4, i5, i6, i7, i8⟩ := Yj4 hi
 rcases hx with ⟨nx, usx, hx, rfl⟩ | hx
 ·rcases hy with ⟨ny, usy, hy, rfl⟩ | hy
  ·have F1 : ∀ a, RunC C n0 y env1 (appF h nx usx) vy ny usy -> Yxx y.op env1 a -> ¬ DU nx usx a := by
    intro a hr hn hd
    have hrx := Yfj hx hd
    rcases Yfi hrx hd with ⟨e, hn'⟩ | ⟨e, rfl, hle, _⟩
    ·obtain ⟨e1, e2⟩ := i3 e (YbY hn)
     exact Yds (hr.2.1 e2) hn (Yj0 (hrx.2.2.1 e1) hn')
    ·exact Yds (hr.2.1 (i5 e (YbY hn))) hn hle
   have F2 : ∀ a, RunC C n0 x env h vx nx usx -> Yxx x.op env a -> ¬ DU ny usy a := by
    intro a hr hn hd
    have hry := Yfj hy hd
    rcases Yfi hry hd with ⟨e, hn'⟩ | ⟨e, rfl, hle, _⟩
    ·obtain ⟨e1, e2⟩ := i4 e (YbY hn)
     exact Yds (hr.2.1 e2) hn (Yj0 (hry.2.2.1 e1) hn')
    ·exact Yds (hr.2.1 (i6 e (YbY hn))) hn hle
   have FD : ∀ b, DU nx usx b -> DU ny usy b -> False := by
    intro b h1 h2
    have hry := Yfj hy h2
    rcases Yfi hry h2 with ⟨e, hn⟩ | ⟨e, rfl, _, hf⟩
    ·exact F1 b hry hn h1
    ·exact (YbZ (h2 := h) h1).2 hf
   refine ⟨appF h ny usy, .inl ⟨ny, usy, Ydv hy (.inl i8) he (fun hr => ⟨fun a ha => (Yay (F1 a hr ha)).symm, fun e => ?_⟩), rfl⟩,
    .inl ⟨nx, usx, Ydv hx (.inl i7) (he2 vy) (fun hr => ⟨fun a ha => Yay (F2 a hr ha), fun e => ?_⟩), Yqa FD⟩⟩
   ·have hn := hr.2.2.2.2.1 e
    open Classical in
    by_cases hd : DU nx usx ny
    ·exact absurd hn (YbZ (h2 := h) hd).2
    ·rwa [Yay hd] at hn
   ·rw [Yay (fun hd => FD nx (Yqb hr e) hd)]
    exact hr.2.2.2.2.1 e
  ·obtain ⟨ht, hn⟩ := i2 hy.2.1
   have hu := Yj5 hx ht hn
   subst hu
   exact ⟨h2, .inr (Yfh hy he), .inl ⟨nx, [], Yj6 hx (he2 vy) ht hn h2, rfl⟩⟩
 ·obtain ⟨ht, hn⟩ := i1 hx.2.1
  rcases hy with ⟨ny, usy, hy, rfl⟩ | hy
  ·have hu := Yj5 hy ht hn
   subst hu
   exact ⟨h, .inl ⟨ny, [], Yj6 hy he ht hn h, rfl⟩, .inr (Yfh hx (he2 vy))⟩
  ·rw [Yp7 hy.2.1] at ht; cases ht
theorem Yqf {h1 h2 : HF} {env1 env2 : Env} (hi : Yyd C.pf x y = true) (hx : Step C n0 x env h env1 h1) (hy : Step C n0 y env1 h1 env2 h2) :
  ∃ e h', Step C n0 y env h e h' /\ Step C n0 x e h' env2 h2 := by
 obtain ⟨s1, s2, _⟩ := Yj4 hi
 obtain ⟨vx, ex, hx⟩ := hx
 obtain ⟨vy, ey, hy⟩ := hy
 obtain ⟨h', k1, k2⟩ := Yqe hi (env := env) (env1 := env1) ((OnE.of_eq ex).symm.symm.symm.trans (Yj3 (fun d hd => (s1 d hd).1)).symm) (fun _ => Yj3 (fun d hd => s2 d hd)) hx hy
 refine ⟨put env y.dst vy, h', ⟨vy, EqE.refl _, k1⟩, vx, ?_, k2⟩
 exact ey.trans ((Yfk ex y.dst vy).trans (Yqc (fun k hk => (s1 k hk).2) vx vy))
theorem Yqg {env2 : Env} {h' : HF} (hc : Core C n0 y env h v h') (he : EqE env env2) : Core C n0 y env2 h v h' := by
 have ho : ∀ ts, OnE ts env env2 := fun ts => OnE.of_eq he.symm
 rcases hc with ⟨nid, us, hs, e⟩ | hw
 ·exact .inl ⟨nid, us, Ydv hs (.inr rfl) (ho _) (fun hr => ⟨fun a _ => rfl, hr.2.2.2.2.1⟩), e⟩
 ·exact .inr (Yfh hw (ho _))
def Runs (C : Ctx) (n0 : Nat -> Prop) (F : Env -> HF -> Prop) : List AI -> Env -> HF -> Prop
 | [], env, h => F env h
 | y :: r, env, h => ∃ env' h', Step C n0 y env h env' h' /\ Runs C n0 F r env' h'
theorem Yj7 {F : Env -> HF -> Prop} : ∀ {xs : List AI} {r : List AI} {env : Env} {h : HF}, (∀ x ∈ xs, Yyd C.pf x y = true) -> Runs C n0 F (xs ++ y :: r) env h -> Runs C n0 F (y :: (xs ++ r)) env h
 | [], r, env, h, _, hr => hr
 | x :: xs, r, env, h, hi, hr => by
   obtain ⟨e1, h1, k1, k2⟩ := hr
   obtain ⟨e2, h2, k3, k4⟩ := Yj7 (fun z hz => hi z (YAh _ hz)) k2
   obtain ⟨e3, h3, k5, k6⟩ := Yqf (hi x (Yz2 ..)) k1 k3
   exact ⟨e3, h3, k5, e2, h2, k6, k4⟩
end
end Go.Abs
namespace Go.Abs
open Go Go.RowKit
section
variable {C : Ctx}
theorem Yfl : ∀ (us : List Upd) (H : Heap), H.length <= (YwT H us).length
 | [], H => Nat.le_refl _
 | .set a o :: r, H => by
   simp only [YwT, YxK]; exact Nat.le_trans (by simp) (Yfl r _)
 | .push o :: r, H => by
   simp only [YwT, YxK]; exact Nat.le_trans (by simp) (Yfl r _)
theorem Yqh {op : AOp} {env : Env} {H : Heap} {K : AV -> Heap -> Prop} (hev : evOp C op env H K) :
  ∃ v H', K v H' /\ H.length <= H'.length /\ ((∃ us, OpU C op env (hf H) H.length v us /\ hf H' = appF (hf H) H.length us) \/ (op.wild C.pf = true /\ evOp C op env H (fun v' H'' => v' = v /\ H'' = H'))) := by
 have plain : evG op env (hf H) H.length (fun v us => K v (YwT H us)) -> ∃ v us, K v (YwT H us) /\ evG op env (hf H) H.length (fun v' us' => v' = v /\ us' = us) /\ OKus (hf H) us := by
  intro hev
  obtain ⟨v, us, ⟨h1, h2⟩, h3⟩ := YjR _ _ _ _ _ (YjE hev)
  exact ⟨v, us, h1, h3, h2⟩
 cases op
 case call f args =>
  rcases hev with ⟨hpf, a1, a2, r, h1, h2, h3, h4, hk⟩ | ⟨hpf, a2, r, H', h3, h4, hl, hk⟩
  ·exact ⟨r, H, hk, Nat.le_refl _, .inl ⟨[], ⟨hpf, rfl, a1, a2, h1, h2, h3, h4⟩, rfl⟩⟩
  ·exact ⟨r, H', hk, hl, .inr ⟨by simp [AOp.wild, hpf], .inr ⟨hpf, a2, r, H', h3, h4, hl, rfl, rfl⟩⟩⟩
 case dyn x args =>
  obtain ⟨f, cs, e, hev⟩ := hev
  rcases hev with ⟨hpf, a1, a2, r, h1, h2, h3, h4, hk⟩ | ⟨hpf, a2, r, H', h3, h4, hl, hk⟩
  ·exact ⟨r, H, hk, Nat.le_refl _, .inr ⟨rfl, f, cs, e, .inl ⟨hpf, a1, a2, r, h1, h2, h3, h4, rfl, rfl⟩⟩⟩
  ·exact ⟨r, H', hk, hl, .inr ⟨rfl, f, cs, e, .inr ⟨hpf, a2, r, H', h3, h4, hl, rfl, rfl⟩⟩⟩
 case dynP x args =>
  obtain ⟨f, cs, e, hpf, hev⟩ := hev
  rcases hev with ⟨hpf, a1, a2, r, h1, h2, h3, h4, hk⟩ | ⟨hpf', a2, r, H', h3, h4, hl, hk⟩
  ·exact ⟨r, H, hk, Nat.le_refl _, .inl ⟨[], ⟨f, cs, e, hpf, rfl, a1, a2, h1, h2, h3, h4⟩, rfl⟩⟩
  ·rw [hpf] at hpf'; cases hpf'
 case callN f args =>
  obtain ⟨args', o, len, h1, h2, hk⟩ := hev
  refine ⟨_, _, hk, by simp, .inl ⟨[.push (some o)], ⟨args', o, len, h1, h2, rfl, rfl⟩, ?_⟩⟩
  simp only [appF]; exact hf_push.symm
 all_goals
  obtain ⟨v, us, h1, h2, h3⟩ := plain hev
  exact ⟨v, _, h1, Yfl _ _, .inl ⟨us, h2, (YjF h3).symm⟩⟩
theorem Ydw {env : Env} {g : Nat} {b : Bool} (h : YwJ env g = .v (.bool b)) : EqE ((g, .v (.bool b)) :: env) env := by
 intro t
 simp only [YwJ]
 by_cases e : g = t
 ·subst e; simp [h]
 ·have : (g == t) = false := by simp [e]
  simp [this]
theorem Yfm {n0 : Nat -> Prop} {K : ASt -> Prop} : ∀ (ys : List AI) (st : ASt), (∀ a, st.heap.length <= a -> n0 a) -> Yxg C n0 ys K st ->
  Runs C n0 (fun env h => ∃ st', K st' /\ EqE st'.env env /\ h = hf st'.heap /\ st'.base = st.base) ys st.env (hf st.heap)
 | [], st, _, hev => ⟨st, hev, EqE.refl _, rfl, rfl⟩
 | y :: r, ⟨env, H, b0⟩, hn, hev => by
   obtain ⟨d, op, guard, old, nw⟩ := y
   have run : ∀ env2, EqE env2 env -> Yxo ⟨d, op, guard, old, nw⟩ env -> YxZ C n0 old nw op env2 H (fun v H' => Yxg C n0 r K ⟨put env2 d v, H', b0⟩) ->
     Runs C n0 (fun env h => ∃ st', K st' /\ EqE st'.env env /\ h = hf st'.heap /\ st'.base = b0) (⟨d, op, guard, old, nw⟩ :: r) env (hf H) := by
    intro env2 he hg hev
    obtain ⟨f1, f2, hev⟩ := hev
    obtain ⟨v, H', hk, hle, hc⟩ := Yqh hev
    have hg2 : Yxo ⟨d, op, guard, old, nw⟩ env2 := Yfg (OnE.of_eq he) hg
    have core : Core C n0 ⟨d, op, guard, old, nw⟩ env2 (hf H) v (hf H') := by
     rcases hc with ⟨us, h1, h2⟩ | ⟨h1, h2⟩
     ·exact .inl ⟨H.length, us, .inl ⟨hg2, f1, f2, hn _ (Nat.le_refl _), fun _ => by simp [hf], h1⟩, h2⟩
     ·exact .inr ⟨hg2, h1, H, H', rfl, rfl, h2⟩
    refine ⟨put env2 d v, hf H', ⟨v, Yfk he _ _, Yqg core he⟩, ?_⟩
    exact Yfm r ⟨put env2 d v, H', b0⟩ (fun a ha => hn a (Nat.le_trans hle ha)) hk
   have skip : ∀ env2 g b, EqE env2 env -> guard = some (g, b) -> (YwJ env g = .v (.bool (!b)) \/ YwJ env g = .v undef) -> Yxg C n0 r K ⟨put env2 d (.v undef), H, b0⟩ ->
     Runs C n0 (fun env h => ∃ st', K st' /\ EqE st'.env env /\ h = hf st'.heap /\ st'.base = b0) (⟨d, op, guard, old, nw⟩ :: r) env (hf H) := by
    intro env2 g b he hg hl hk
    refine ⟨put env2 d (.v undef), hf H, ⟨.v undef, Yfk he _ _, .inl ⟨0, [], .inr ⟨⟨g, b, hg, hl⟩, rfl, rfl⟩, rfl⟩⟩, ?_⟩
    exact Yfm r ⟨put env2 d (.v undef), H, b0⟩ hn hk
   match guard with
   | none => exact run env (EqE.refl _) (.inl rfl) hev
   | some (g, true) =>
     rcases hev with ⟨b, hb, hev⟩ | ⟨hb, hev⟩
     case inr => exact skip _ g true (EqE.refl _) rfl (.inr hb) hev
     have hb' : YwJ env g = .v (.bool b) := hb
     cases b with
     | true => exact run _ (Ydw hb') (.inr ⟨g, true, rfl, hb'⟩) (hev.1 rfl)
     | false => exact skip _ g true (Ydw hb') rfl (.inl hb') (hev.2 rfl)
   | some (g, false) =>
     rcases hev with ⟨b, hb, hev⟩ | ⟨hb, hev⟩
     case inr => exact skip _ g false (EqE.refl _) rfl (.inr hb) hev
     have hb' : YwJ env g = .v (.bool b) := hb
     cases b with
     | true => exact skip _ g false (Ydw hb') rfl (.inl hb') (hev.1 rfl)
     | false => exact run _ (Ydw hb') (.inr ⟨g, false, rfl, hb'⟩) (hev.2 rfl)
end
structure SRF (fm : FM) (n : Nat) (w0 : World) (L0 : Nat -> Loc) (env : Env) (h : HF) (a : Act) (w : World) : Prop where
 defers : a.defers = []
 size : a.tmps.size = n
 fin : ∃ N, ∀ b, N <= b -> h b = none
 rel : ∃ L, Keep L0 w0 w /\ LStep L0 L w0.heap.size /\ HR fm w L h /\ ER fm w L a env
theorem Yfn {nid : Nat} : ∀ (us : List Upd) (h : HF), (∃ N, ∀ b, N <= b -> h b = none) -> ∃ N, ∀ b, N <= b -> appF h nid us b = none
 | [], h, hh => hh
 | .set a o :: r, h, ⟨N, hN⟩ => Yfn r _ ⟨max N (a + 1), fun b hb => by
   have : b ≠ a := by omega
   simp [appU, this]; exact hN b (by omega)⟩
 | .push o :: r, h, ⟨N, hN⟩ => Yfn r _ ⟨max N (nid + 1), fun b hb => by
   have : b ≠ nid := by omega
   simp [appU, this]; exact hN b (by omega)⟩
def Yyf (x y : AI) : Prop := y.dst = x.dst /\ y.guard = x.guard /\
 (y.op = x.op \/ (∃ g n z, x.op = .load g n z /\ y.op = .loadR g n z) \/ (∃ z as, x.op = .dyn z as /\ y.op = .dynP z as) \/ (∃ z as, x.op = .call z as /\ y.op = .callN z as))
section
variable {P : Program} {fm : FM} {w : World} {n : Nat} {w0 : World} {L0 : Nat -> Loc}
theorem SRF.step {env : Env} {h : HF} {a : Act} (hs : SRF fm n w0 L0 env h a w) {env' : Env} {h' : HF} {L1 L' : Nat -> Loc} {w' : World} {a' : Act} (hd : a'.defers = a.defers) (hz : a'.tmps.size = a.tmps.size)
  (hf' : ∃ N, ∀ b, N <= b -> h' b = none) (h1 : Keep L0 w0 w /\ LStep L0 L1 w0.heap.size) (hk : Keep L1 w w') (hls : LStep L1 L' w.heap.size) (hr : HR fm w' L' h') (he : ER fm w' L' a' env') :
  SRF fm n w0 L0 env' h' a' w' :=
 ⟨hd.trans hs.defers, hz.trans hs.size, hf', L', h1.1.trans h1.2 hk, h1.2.trans (hls.mono h1.1.size), hr, he⟩
theorem Ydx {L : Nat -> Loc} {a : Act} {e e' : Env} (h : ER fm w L a e) (he : EqE e' e) : ER fm w L a e' := fun t => by rw [he t]; exact h t
theorem Yqi {C : Ctx} (hC : CtxOK P fm C) {o : Oper} {op0 op : AOp} (htr : trOp P fm o = some op0)
  (hv : op = op0 \/ (∃ g n z, op0 = .load g n z /\ op = .loadR g n z) \/ (∃ z as, op0 = .dyn z as /\ op = .dynP z as) \/ (∃ z as, op0 = .call z as /\ op = .callN z as)) {env : Env} {h : HF} {nid : Nat} {v : AV} {us : List Upd} {a : Act} {L : Nat -> Loc}
  (hr : HR fm w L h) (he : ER fm w L a env) (hfin : ∃ N, ∀ b, N <= b -> h b = none) (hn : op.news (fun _ => true) = true -> h nid = none) (hop : OpU C op env h nid v us) {Q : Exit -> Act -> World -> Prop} :
  o.wp P a w (fun a' w' => ∃ x L', a' = a.put o.dst x /\ Keep L w w' /\ LStep L L' w.heap.size /\ HR fm w' L' (appF h nid us) /\ VR fm w' L' x v) Q := by
 have plain : ∀ op1, trOp P fm o = some op1 -> op1.news (fun _ => true) = op.news (fun _ => true) -> evG op1 env h nid (fun v' us' => v' = v /\ us' = us) ->
   o.wp P a w (fun a' w' => ∃ x L', a' = a.put o.dst x /\ Keep L w w' /\ LStep L L' w.heap.size /\ HR fm w' L' (appF h nid us) /\ VR fm w' L' x v) Q := by
  intro op1 ht1 hnw hev
  cases hb : op1.news (fun _ => true) with
  | true =>
    obtain ⟨x, v', us', w', h1, ⟨rfl, rfl⟩, L', h4, h5, h6, h7⟩ := Ye7 ht1 hr he (hn (by rw [<- hnw, hb])) hev
    exact Ycr h1 ⟨x, L', rfl, h4, h5, h6, h7⟩
  | false =>
    obtain ⟨N, hN⟩ := hfin
    have hsame : appF h N us = appF h nid us := by
     rcases YjS hev with ⟨rfl, _⟩ | ⟨_, _, e⟩ | ⟨a, o, rfl, _⟩ | ⟨_, _, _, _, _, _, e, _⟩
     ·rfl
     ·rw [hb] at e; cases e
     ·rfl
     ·rw [hb] at e; cases e
    obtain ⟨x, v', us', w', h1, ⟨rfl, rfl⟩, L', h4, h5, h6, h7⟩ := Ye7 ht1 hr he (hN N (Nat.le_refl _)) (Yp4 N hb hev)
    rw [hsame] at h6
    exact Ycr h1 ⟨x, L', rfl, h4, h5, h6, h7⟩
 cases op
 case call g args =>
  have e0 : op0 = .call g args := by
   rcases hv with hv | ⟨_, _, _, _, hv⟩ | ⟨_, _, _, hv⟩ | ⟨_, _, _, hv⟩
   ·exact hv.symm
   ·cases hv
   ·cases hv
   ·cases hv
  subst e0
  obtain ⟨f, xs, ats, ho, h0, rfl, rfl⟩ := Ye9 htr
  obtain ⟨hpf, rfl, a1, a2, hb, hsc, hco, hc⟩ := hop
  obtain ⟨h1, h2⟩ := Ye8 hC hpf hr (vs := (xs.toList.map a.eval).toArray) (by simp) (Yct he xs.toList) hb hsc hco hc
  refine Ycu (f := f) (vs := (xs.toList.map a.eval).toArray) ?_ (h2.mono ?_)
  ·have e3 : (xs.map a.eval) = (xs.toList.map a.eval).toArray := by apply Array.ext'; simp
   unfold execOp
   simp [ho, resolve, Deferred.ofValue, Act.eval, invoke]
   rw [Ycs h1]
   exact congrArg (fun z => Result.ok (Next.enter f z) w) e3
  ·rintro e w' ⟨x, rfl, k1, k2, k3⟩
   exact ⟨x, rfl, x, L, rfl, k1, LStep.refl _ _, k2, k3⟩
 case dynP x args =>
  have e0 : op0 = .dyn x args := by
   rcases hv with hv | ⟨_, _, _, _, hv⟩ | ⟨_, _, h1, hv⟩ | ⟨_, _, _, hv⟩
   ·subst hv; exact (YjI htr).elim
   ·cases hv
   ·injection hv with e1 e2; subst e1; subst e2; exact h1
   ·cases hv
  subst e0
  obtain ⟨t, xs, ats, ho, rfl, rfl⟩ := YjH htr
  obtain ⟨g, cs, e, hpf, rfl, a1, a2, hb, hsc, hco, hc⟩ := hop
  have hx := Yac he (.tmp t)
  simp only [YwN] at hx
  rw [show opd env (.t t) = .clo g cs from e] at hx
  obtain ⟨f, ys, ex, hfm, hsz, hall⟩ := Ycm hx
  subst hfm
  have e3 : (xs.map a.eval) ++ ys = ((xs.toList.map a.eval) ++ ys.toList).toArray := by apply Array.ext'; simp
  obtain ⟨h1, h2⟩ := Ye8 hC hpf hr (vs := ((xs.toList.map a.eval) ++ ys.toList).toArray) (by simp [hsz]) (fun j c hj => by
   by_cases hlt : j < xs.toList.length
   ·rw [YzS (by simpa using hlt)] at hj
    rw [Ycl (by simpa using hlt)]
    have := Yct he xs.toList j c hj
    rw [Array.getD_eq_getD_getElem?] at this
    simpa [List.getD] using this
   ·rw [YzU (by simpa using hlt)] at hj
    obtain ⟨m, hm⟩ : ∃ m, j = (xs.toList.map a.eval).length + m := ⟨j - (xs.toList.map a.eval).length, by simp at hlt ⊢; omega⟩
    subst hm
    rw [Ydd]
    have := hall m c (by simpa using hj)
    rwa [<- Ydc] at this) hb hsc hco hc
  refine Ycu (f := f) (vs := ((xs.toList.map a.eval) ++ ys.toList).toArray) ?_ (h2.mono ?_)
  ·unfold execOp
   simp [ho, resolve, ex, Deferred.ofValue, invoke]
   rw [Ycs h1]
   exact congrArg (fun z => Result.ok (Next.enter f z) w) e3
  ·rintro e w' ⟨x, rfl, k1, k2, k3⟩
   exact ⟨x, rfl, x, L, rfl, k1, LStep.refl _ _, k2, k3⟩
 case dyn => exact hop.elim
 case callN g args =>
  have e0 : op0 = .call g args := by
   rcases hv with hv | ⟨_, _, _, _, hv⟩ | ⟨_, _, _, hv⟩ | ⟨_, _, h1, hv⟩
   ·subst hv; exact (YjJ htr).elim
   ·cases hv
   ·cases hv
   ·injection hv with e1 e2; subst e1; subst e2; exact h1
  subst e0
  obtain ⟨f, xs, ats, ho, h0, rfl, rfl⟩ := Ye9 htr
  obtain ⟨args', o', len, hco, hm, rfl, rfl⟩ := hop
  obtain ⟨h1, h2⟩ := YpS hC hr (nid := nid) (hn rfl) (vs := (xs.toList.map a.eval).toArray) (by simp) (Yct he xs.toList) hco hm
  refine Ycu (f := f) (vs := (xs.toList.map a.eval).toArray) ?_ (h2.mono ?_)
  ·have e3 : (xs.map a.eval) = (xs.toList.map a.eval).toArray := by apply Array.ext'; simp
   unfold execOp
   simp [ho, resolve, Deferred.ofValue, Act.eval, invoke]
   rw [Ycs h1]
   exact congrArg (fun z => Result.ok (Next.enter f z) w) e3
  ·rintro e w' ⟨x, L', rfl, k1, k2, k3, k4⟩
   exact ⟨x, rfl, x, L', rfl, k1, k2, k3, k4⟩
 case loadR g n z =>
  rcases hv with hv | ⟨g', n', z', h1, hv⟩ | ⟨_, _, _, hv⟩ | ⟨_, _, _, hv⟩
  ·subst hv; exact plain _ htr rfl hop
  ·injection hv with e1 e2 e3; subst e1; subst e2; subst e3
   subst h1
   refine plain _ htr rfl ?_
   have hop' : evG (.loadR g n z) env h nid (fun v' us' => v' = v /\ us' = us) := hop
   simp only [evG, opK] at hop' ⊢
   split at hop' <;> try exact hop'.elim
   rename_i e
   rw [e]; exact hop'
  ·cases hv
  ·cases hv
 all_goals
  rcases hv with hv | ⟨_, _, _, _, hv⟩ | ⟨_, _, _, hv⟩ | ⟨_, _, _, hv⟩
  ·exact plain _ (hv ▸ htr) rfl hop
  ·cases hv
  ·cases hv
  ·cases hv
theorem Yqj {C : Ctx} (hC : CtxOK P fm C) {ops : Array Oper} {o : Oper} {x y : AI} (htr : trAI P fm n ops o = some x) (hv : Yyf x y) {n0 : Nat -> Prop} {env env' : Env} {h h' : HF} {a : Act}
  (hs : SRF fm n w0 L0 env h a w) (hst : Step C n0 y env h env' h') {Q : Exit -> Act -> World -> Prop} :
  (Region.wanted o (yielded ops a.tmps) = true -> o.wp P a w (fun a' w' => SRF fm n w0 L0 env' h' a' w') Q) /\
  (Region.wanted o (yielded ops a.tmps) = false -> SRF fm n w0 L0 env' h' (a.put o.dst undef) w) := by
 obtain ⟨hop, hdst, hdn, _, _, hg⟩ := Yfa htr
 obtain ⟨vd, vg, vo⟩ := hv
 obtain ⟨v, hev, hco⟩ := hst
 obtain ⟨L1, hk1, hs1, hr1, he1⟩ := hs.rel
 have hyd : y.dst = o.dst := vd.trans hdst
 rw [hyd] at hev
 have hdn' : ∀ k, o.dst = some k -> k < a.tmps.size := fun k hk => by rw [hs.size]; exact hdn k hk
 have hwant : ∀ g w, y.guard = some (g, w) -> ∀ b, YwJ env g = .v (.bool b) -> Region.wanted o (yielded ops a.tmps) = (b == w) := by
  intro g wt hyg b hb
  rw [vg] at hyg
  rcases hg with ⟨_, hg2⟩ | ⟨j, want, g', hg1, hg2, hg3, hg4⟩
  ·rw [hg2] at hyg; cases hyg
  ·rw [hg4] at hyg; injection hyg with hyg; injection hyg with e1 e2; subst e1; subst e2
   have h1 := he1 g'
   rw [hb] at h1
   have h2 := YjL hg2 (by rw [hs.size]; exact hg3) (Yag h1)
   simp only [Region.wanted, hg1, h2]
   cases b <;> cases want <;> rfl
 have hno : ∀ g w, y.guard = some (g, w) -> YwJ env g = .v undef -> Region.wanted o (yielded ops a.tmps) = false := by
  intro g wt hyg hb
  rw [vg] at hyg
  rcases hg with ⟨_, hg2⟩ | ⟨j, want, g', hg1, hg2, hg3, hg4⟩
  ·rw [hg2] at hyg; cases hyg
  ·rw [hg4] at hyg; injection hyg with hyg; injection hyg with e1 e2; subst e1; subst e2
   have h1 := he1 g'
   rw [hb] at h1
   have h2 := YjM hg2 (by rw [hs.size]; exact hg3) (Yag h1)
   simp only [Region.wanted, hg1, h2]
   cases want <;> rfl
 have hok : Yxo y env -> Region.wanted o (yielded ops a.tmps) = true := by
  rintro (h1 | ⟨g, b, h1, h2⟩)
  ·rcases hg with ⟨hg1, _⟩ | ⟨j, want, g', _, _, _, hg4⟩
   ·simp [Region.wanted, hg1]
   ·rw [vg, hg4] at h1; cases h1
  ·rw [hwant g b h1 b h2]; simp
 rcases hco with ⟨nid, us, hsm | ⟨⟨g, b, h1, h2⟩, rfl, rfl⟩, rfl⟩ | hw
 ·obtain ⟨k1, _, _, _, k5, k6⟩ := hsm
  have hwt := hok k1
  refine ⟨fun _ => ?_, fun h => by rw [hwt] at h; cases h⟩
  refine Oper.wp_mono ?_ (Yqi hC hop vo hr1 he1 hs.fin k5 k6)
  rintro a' w' ⟨x', L', rfl, j1, j2, j3, j4⟩
  exact hs.step (YbX _ _ _) (YbW _ _ _) (Yfn us h hs.fin) ⟨hk1, hs1⟩ j1 j2 j3 (Ydx (er_put' (fun t => (he1 t).mono j1 j2) hdn' j4) hev)
 ·have hwf : Region.wanted o (yielded ops a.tmps) = false := by
   rcases h2 with h2 | h2
   ·rw [hwant g b h1 (!b) h2]; cases b <;> rfl
   ·exact hno g b h1 h2
  refine ⟨fun h => (by rw [hwf] at h; cases h), fun _ => ?_⟩
  exact hs.step (YbX _ _ _) (YbW _ _ _) hs.fin ⟨hk1, hs1⟩ (Keep.refl _ _) (LStep.refl _ _) hr1 (Ydx (er_put' he1 hdn' (.v _)) hev)
 ·obtain ⟨k1, k2, H, H', rfl, rfl, k3⟩ := hw
  have hwt := hok k1
  refine ⟨fun _ => ?_, fun h => by rw [hwt] at h; cases h⟩
  have hyo : y.op = x.op := by
   rcases vo with vo | ⟨g, n, z, _, vo⟩ | ⟨z, as, _, vo⟩ | ⟨z, as, _, vo⟩
   ·exact vo
   ·rw [vo] at k2; cases k2
   ·rw [vo] at k2; cases k2
   ·rw [vo] at k2; cases k2
  rw [hyo] at k3
  refine Oper.wp_mono ?_ (YjK hC hop hr1 he1 k3)
  rintro a' w' ⟨x', v', H'', L', rfl, ⟨rfl, rfl⟩, j1, j2, j3, j4⟩
  exact hs.step (YbX _ _ _) (YbW _ _ _) ⟨H''.length, fun b hb => YAa hb⟩ ⟨hk1, hs1⟩ j1 j2 j3 (Ydx (er_put' (fun t => (he1 t).mono j1 j2) hdn' j4) hev)
end
end Go.Abs
namespace Go.Abs
open Go Go.RowKit
theorem Yfo {α β : Type} {f : α -> Option β} : ∀ {l : List α} {r : List β}, Yxa f l = some r -> r.length = l.length /\ ∀ (i : Nat) (x : α), l[i]? = some x -> ∃ y, r[i]? = some y /\ f x = some y
 | [], r, h => by simp [Yxa] at h; subst h; exact ⟨rfl, fun i x hx => by simp at hx⟩
 | a :: l, r, h => by
   obtain ⟨y, zs, h1, h2, rfl⟩ := Ycw h
   obtain ⟨k1, k2⟩ := Yfo h2
   refine ⟨by simp [k1], fun i x hx => ?_⟩
   cases i with
   | zero => simp at hx; subst hx; exact ⟨y, rfl, h1⟩
   | succ i => simpa using k2 i x (by simpa using hx)
def ancOf (o : Oper) (acc : List Nat) : Nat := o.after.toList.foldl (fun s e => if Region.binds .any e then s ||| 2 ^ e.on ||| acc.getD e.on 0 else s) 0
theorem Yj8 : ∀ (os : List Oper) (acc : List Nat), ∃ B, ancs os acc = acc ++ B /\ B.length = os.length /\ ∀ (i : Nat) (o : Oper), os[i]? = some o -> B[i]? = some (ancOf o ((acc ++ B).take (acc.length + i)))
 | [], acc => ⟨[], by simp [ancs], rfl, fun i o h => by simp at h⟩
 | o :: r, acc => by
   obtain ⟨B, h1, h2, h3⟩ := Yj8 r (acc ++ [ancOf o acc])
   refine ⟨ancOf o acc :: B, by simp only [ancs]; rw [show (o.after.toList.foldl (fun s e => if Region.binds .any e then s ||| 2 ^ e.on ||| acc.getD e.on 0 else s) 0) = ancOf o acc from rfl, h1]; simp, by simp [h2], fun i p hp => ?_⟩
   cases i with
   | zero => simp at hp; subst hp; simp
   | succ i =>
     have := h3 i p (by simpa using hp)
     simp only [YAr]
     rw [this]
     congr 2
     simp [Nat.add_assoc, Nat.add_comm 1 i]
theorem Yj9 {acc : List Nat} {k : Nat} : ∀ (es : List Edge) (s : Nat), Nat.testBit (es.foldl (fun s e => if Region.binds .any e then s ||| 2 ^ e.on ||| acc.getD e.on 0 else s) s) k = true ->
  Nat.testBit s k = true \/ ∃ e ∈ es, Region.binds .any e = true /\ (e.on = k \/ Nat.testBit (acc.getD e.on 0) k = true)
 | [], s, h => .inl h
 | e :: r, s, h => by
   simp only [List.foldl_cons] at h
   rcases Yj9 r _ h with h | ⟨e', he', h⟩
   ·by_cases hb : Region.binds .any e = true
    ·rw [if_pos hb, Nat.testBit_or, Nat.testBit_or, Bool.or_eq_true, Bool.or_eq_true] at h
     rcases h with (h | h) | h
     ·exact .inl h
     ·rw [Nat.testBit_two_pow] at h
      exact .inr ⟨e, Yz2 .., hb, .inl (by simpa using h)⟩
     ·exact .inr ⟨e, Yz2 .., hb, .inr h⟩
    ·rw [if_neg hb] at h; exact .inl h
   ·exact .inr ⟨e', YAh _ he', h⟩
theorem Yqk {os : List Oper} {i k : Nat} (h : Nat.testBit ((ancs os []).getD i 0) k = true) :
  ∃ o, os[i]? = some o /\ ∃ e ∈ o.after.toList, Region.binds .any e = true /\ (e.on = k \/ Nat.testBit ((ancs os []).getD e.on 0) k = true) := by
 obtain ⟨B, h1, h2, h3⟩ := Yj8 os []
 simp only [YAn, List.length_nil, Nat.zero_add] at h1 h3
 rw [h1] at h
 cases ho : os[i]? with
 | none =>
   have : B[i]? = none := by
    rw [YAx] at ho ⊢; omega
   simp [List.getD, this] at h
 | some o =>
   refine ⟨o, rfl, ?_⟩
   rw [List.getD, h3 i o ho] at h
   simp only [Option.getD_some, ancOf] at h
   rcases Yj9 _ _ h with h | ⟨e, he, hb, h⟩
   ·simp at h
   ·refine ⟨e, he, hb, h.imp id (fun h => ?_)⟩
    rw [h1]
    by_cases hlt : e.on < i
    ·rw [List.getD, Yz3, if_pos hlt] at h; exact h
    ·rw [List.getD, Yz3, if_neg hlt] at h; simp at h
theorem Yka : ∀ (os : List Oper) (i : Nat), YxE os i = true -> ∀ (k : Nat) (o : Oper), os[k]? = some o -> ∀ e ∈ o.after.toList, Region.binds .any e = true -> e.on < i + k
 | [], i, _, k, o, hk => by simp at hk
 | p :: r, i, h, k, o, hk => by
   simp only [YxE, Bool.and_eq_true] at h
   intro e he hb
   cases k with
   | zero =>
     simp at hk; subst hk
     have := Yz9.1 h.1 e he
     simp [hb] at this; exact this
   | succ k => have := Yka r (i + 1) h.2 k o (by simpa using hk) e he hb; omega
theorem Ykb (pf : Nat -> Bool) (an : List Nat) (i : Nat) (x : AI) : ∀ (l : List (AI × Nat)) (s : AI), (s.dst = x.dst /\ s.op = x.op /\ s.guard = x.guard) ->
  let r := l.foldl (fun (s : AI) (p : AI × Nat) =>
   if p.2 = i then s
   else if (an.getD (max i p.2) 0).testBit (min i p.2) then s
   else let m := Yzq pf x p.1; { s with old := s.old || m.1, nw := s.nw || m.2 }) s
  r.dst = x.dst /\ r.op = x.op /\ r.guard = x.guard
 | [], s, h => h
 | p :: l, s, h => by
   simp only [List.foldl_cons]
   refine Ykb pf an i x l _ ?_
   split
   ·exact h
   ·split
    ·exact h
    ·exact h
theorem Yql {pf : Nat -> Bool} {an : List Nat} {is : List AI} : (Yw4 pf an is).length = is.length /\ ∀ (i : Nat) (y : AI), (Yw4 pf an is)[i]? = some y -> ∃ x, is[i]? = some x /\ y.dst = x.dst /\ y.op = x.op /\ y.guard = x.guard := by
 refine ⟨by simp [Yw4], fun i y hy => ?_⟩
 simp only [Yw4, YzP, List.getElem?_zipIdx] at hy
 cases hx : is[i]? with
 | none => simp [hx] at hy
 | some x =>
   simp [hx] at hy
   refine ⟨x, rfl, ?_⟩
   subst hy
   exact Ykb pf an i x _ x ⟨rfl, rfl, rfl⟩
theorem Ydy {pf : Nat -> Bool} {an : List Nat} {is ys : List AI} (h : YxD pf an is = some ys) :
  Yxn pf an ys = true /\ ys.length = is.length /\ ∀ (i : Nat) (y : AI), ys[i]? = some y -> ∃ x, is[i]? = some x /\ Yyf x y := by
 have ro : ∀ (i : Nat) (y : AI), (readOnly is)[i]? = some y -> ∃ x, is[i]? = some x /\ Yyf x y := by
  intro i y hy
  simp only [readOnly, YzP] at hy
  cases hx : is[i]? with
  | none => simp [hx] at hy
  | some x =>
    simp [hx] at hy
    refine ⟨x, rfl, ?_⟩
    subst hy
    split
    ·rename_i g n z e; exact ⟨rfl, rfl, .inr (.inl ⟨g, n, z, e, rfl⟩)⟩
    ·exact ⟨rfl, rfl, .inl rfl⟩
 have pd : ∀ (i : Nat) (y : AI), (YxN is)[i]? = some y -> ∃ x, is[i]? = some x /\ Yyf x y := by
  intro i y hy
  simp only [YxN, YzP] at hy
  cases hx : is[i]? with
  | none => simp [hx] at hy
  | some x =>
    simp [hx] at hy
    refine ⟨x, rfl, ?_⟩
    subst hy
    split
    ·rename_i z as e; exact ⟨rfl, rfl, .inr (.inr (.inl ⟨z, as, e, rfl⟩))⟩
    ·exact ⟨rfl, rfl, .inl rfl⟩
 have mn : ∀ (i : Nat) (y : AI), (Yyw pf is)[i]? = some y -> ∃ x, is[i]? = some x /\ Yyf x y := by
  intro i y hy
  simp only [Yyw, YzP] at hy
  cases hx : is[i]? with
  | none => simp [hx] at hy
  | some x =>
    simp [hx] at hy
    refine ⟨x, rfl, ?_⟩
    subst hy
    split
    ·rename_i z as e
     split
     ·exact ⟨rfl, rfl, .inl rfl⟩
     ·exact ⟨rfl, rfl, .inr (.inr (.inr ⟨z, as, e, rfl⟩))⟩
    ·exact ⟨rfl, rfl, .inl rfl⟩
 have mk : ∀ js : List AI, js.length = is.length -> (∀ (i : Nat) (y : AI), js[i]? = some y -> ∃ x, is[i]? = some x /\ Yyf x y) -> (Yw4 pf an js).length = is.length /\
   ∀ (i : Nat) (y : AI), (Yw4 pf an js)[i]? = some y -> ∃ x, is[i]? = some x /\ Yyf x y := by
  intro js hl hj
  obtain ⟨m1, m2⟩ := Yql (pf := pf) (an := an) (is := js)
  refine ⟨m1.trans hl, fun i y hy => ?_⟩
  obtain ⟨x, hx, e1, e2, e3⟩ := m2 i y hy
  obtain ⟨z, hz, f1, f2, f3⟩ := hj i x hx
  exact ⟨z, hz, e1.trans f1, e3.trans f2, by rw [e2]; exact f3⟩
 unfold YxD at h
 split at h
 ·cases h
 split at h
 ·rename_i hok; injection h with h; subst h; exact ⟨hok, rfl, fun i y hy => ⟨y, hy, rfl, rfl, .inl rfl⟩⟩
 ·split at h
  ·rename_i hok; injection h with h; subst h; exact ⟨hok, mk _ rfl (fun i y hy => ⟨y, hy, rfl, rfl, .inl rfl⟩)⟩
  ·split at h
   ·rename_i hok; injection h with h; subst h; exact ⟨hok, mk _ (by simp [readOnly]) ro⟩
   ·split at h
    ·rename_i hok; injection h with h; subst h; exact ⟨hok, mk _ (by simp [YxN]) pd⟩
    ·split at h
     ·rename_i hok; injection h with h; subst h; exact ⟨hok, mk _ (by simp [Yyw]) mn⟩
     ·cases h
def rem (m : Nat) (listed : Array Bool) : List Nat := (List.range m).filter fun i => !listed.getD i true
theorem Yqm {m : Nat} {listed : Array Bool} (hsz : listed.size = m) {i : Nat} (hi : i < m) (hl : listed.getD i true = false) :
  ∃ R1 R2, rem m listed = R1 ++ i :: R2 /\ rem m (listed.setIfInBounds i true) = R1 ++ R2 /\ (∀ j ∈ R1, j < i /\ listed.getD j true = false) := by
 have hr : List.range m = List.range i ++ i :: List.range' (i + 1) (m - i - 1) := by
  have h1 : List.range m = List.range' 0 i ++ List.range' i (m - i) := by
   rw [List.range_eq_range', show m = i + (m - i) by omega, <- List.range'_append_1]
   simp
  have h2 : List.range' i (m - i) = i :: List.range' (i + 1) (m - i - 1) := by
   rw [show m - i = (m - i - 1) + 1 by omega, List.range'_succ]; simp
  rw [h1, h2, List.range_eq_range']
 refine ⟨(List.range i).filter fun j => !listed.getD j true, (List.range' (i + 1) (m - i - 1)).filter fun j => !listed.getD j true, ?_, ?_, ?_⟩
 ·unfold rem; rw [hr, List.filter_append, List.filter_cons]; simp [hl]
 ·unfold rem; rw [hr, List.filter_append, List.filter_cons]
  have hs : (listed.setIfInBounds i true).getD i true = true := by
   rw [Array.getD_eq_getD_getElem?]; simp [hsz, hi]
  rw [hs]
  simp only [Bool.not_true, Bool.false_eq_true, if_false]
  congr 1
  ·refine List.filter_congr (fun j hj => ?_)
   have : i ≠ j := by simp at hj; omega
   rw [Array.getD_eq_getD_getElem?, Array.getD_eq_getD_getElem?, Array.getElem?_setIfInBounds_ne this]
  ·refine List.filter_congr (fun j hj => ?_)
   have : i ≠ j := by simp [List.mem_range'] at hj; omega
   rw [Array.getD_eq_getD_getElem?, Array.getD_eq_getD_getElem?, Array.getElem?_setIfInBounds_ne this]
 ·intro j hj
  rw [YAo] at hj
  simpa using hj
section
variable {P : Program} {fm : FM} {n : Nat} {w0 : World} {L0 : Nat -> Loc}
theorem Ykc {l : Array Bool} {i j : Nat} (h : i ≠ j) (d : Bool) : (l.setIfInBounds i true).getD j d = l.getD j d := by
 rw [Array.getD_eq_getD_getElem?, Array.getD_eq_getD_getElem?, Array.getElem?_setIfInBounds_ne h]
theorem Yqn {C : Ctx} (hC : CtxOK P fm C) {ops : Array Oper} {is ys : List AI} (h1 : Yxa (trAI P fm n ops) ops.toList = some is)
  (h2 : YxD C.pf (ancs ops.toList []) is = some ys) (hE : YxE ops.toList 0 = true) {n0 : Nat -> Prop} {F : Env -> HF -> Prop} {Q : Exit -> Act -> World -> Prop}
  (hQ : ∀ env h a w, F env h -> SRF fm n w0 L0 env h a w -> Q .normal a w) :
  ∀ (fuel : Nat) (listed : Array Bool) (a : Act) (w : World) (env : Env) (h : HF), listed.size = ops.size ->
    (∀ j k, listed.getD j false = true -> Nat.testBit ((ancs ops.toList []).getD j 0) k = true -> listed.getD k false = true) -> (rem ops.size listed).length <= fuel ->
    SRF fm n w0 L0 env h a w -> Runs C n0 F ((rem ops.size listed).map fun i => ys.getD i default) env h -> wpAny P .any ops Q fuel listed a w := by
 obtain ⟨ok, hlen, hvar⟩ := Ydy h2
 obtain ⟨l1, g1⟩ := Yfo h1
 have hlen' : ys.length = ops.size := by rw [hlen, l1]; simp
 have none_left : ∀ listed : Array Bool, listed.size = ops.size -> Region.ready .any ops listed = [] -> rem ops.size listed = [] := by
  intro listed hsz hr
  have key : ∀ i, i < ops.size -> listed.getD i true = true := by
   intro i
   induction i using Nat.strongRecOn with
   | _ i ih =>
     intro hi
     apply Classical.byContradiction
     intro hn
     have hn' : listed.getD i true = false := by simpa using hn
     have : i ∈ Region.ready .any ops listed := by
      unfold Region.ready
      rw [YAo]
      refine ⟨by simpa using hi, ?_⟩
      rw [hn']
      have ho : ops[i]? = some ops[i] := Array.getElem?_eq_getElem hi
      rw [ho]
      simp only [Bool.not_false, Bool.true_and, Option.map_some, Option.getD_some]
      rw [Array.all_eq_true']
      intro e he
      by_cases hb : Region.binds .any e = true
      ·have hlt := Yka _ 0 hE i ops[i] (by simp [hi]) e (by simpa using he) hb
       have := ih e.on (by omega) (by omega)
       have hlt2 : e.on < listed.size := by omega
       rw [Array.getD_eq_getD_getElem?] at this ⊢
       simp [hlt2] at this ⊢
       exact .inr this
      ·simp at hb; simp [hb]
     rw [hr] at this
     cases this
  unfold rem
  rw [List.filter_eq_nil_iff]
  intro i hi
  simp [key i (by simpa using hi)]
 intro fuel
 induction fuel with
 | zero =>
   intro listed a w env h hsz hcl hle hs hr
   have he : rem ops.size listed = [] := YzY.1 (by omega)
   rw [he] at hr
   refine ⟨?_, hQ env h a w hr hs⟩
   apply List.eq_nil_iff_forall_not_mem.2
   intro i hi
   have : i ∈ rem ops.size listed := by
    unfold Region.ready at hi
    rw [YAo] at hi
    unfold rem
    rw [YAo]
    refine ⟨hi.1, ?_⟩
    have := hi.2
    rw [Bool.and_eq_true] at this
    exact this.1
   rw [he] at this
   cases this
 | succ fuel ih =>
   intro listed a w env h hsz hcl hle hs hr
   refine ⟨fun hnil => ?_, fun i hi => ?_⟩
   ·rw [none_left listed hsz hnil] at hr
    exact hQ env h a w hr hs
   ·unfold Region.ready at hi
    rw [YAo] at hi
    obtain ⟨hir, hi2⟩ := hi
    rw [Bool.and_eq_true] at hi2
    have hlt : i < ops.size := by simpa using hir
    have hnl : listed.getD i true = false := by simpa using hi2.1
    have ho : ops[i]? = some ops[i] := Array.getElem?_eq_getElem hlt
    have hedge : ∀ e ∈ ops[i].after.toList, Region.binds .any e = true -> listed.getD e.on false = true := by
     intro e he hb
     have := hi2.2
     rw [ho] at this
     simp only [Option.map_some, Option.getD_some] at this
     rw [Array.all_eq_true'] at this
     have := this e (by simpa using he)
     simpa [hb] using this
    have hdone : ∀ k, Nat.testBit ((ancs ops.toList []).getD i 0) k = true -> listed.getD k false = true := by
     intro k hk
     obtain ⟨o, ho', e, he, hb, hek⟩ := Yqk hk
     have : o = ops[i] := by rw [Array.getElem?_toList, ho] at ho'; injection ho' with ho'; exact ho'.symm
     subst this
     rcases hek with rfl | hek
     ·exact hedge e he hb
     ·exact hcl _ _ (hedge e he hb) hek
    obtain ⟨R1, R2, e1, e2, e3⟩ := Yqm hsz hlt hnl
    rw [e1, YAp, YzR] at hr
    have hind : ∀ x ∈ R1.map (fun i => ys.getD i default), Yyd C.pf x (ys.getD i default) = true := by
     intro x hx
     obtain ⟨j, hj, rfl⟩ := Yz5.1 hx
     obtain ⟨hji, hjn⟩ := e3 j hj
     unfold Yxn at ok
     have := Yz9.1 (Yz9.1 ok i (by simp; omega)) j (by simpa using hji)
     rw [Bool.or_eq_true] at this
     rcases this with hb | hb
     ·have hd := hdone j hb
      have hjs : j < listed.size := by omega
      rw [Array.getD_eq_getD_getElem?] at hd hjn
      simp [hjs] at hd hjn
      rw [hd] at hjn; cases hjn
     ·have hj' : ys[j]? = some (ys.getD j default) := by simp [List.getD, show j < ys.length by omega]
      have hi' : ys[i]? = some (ys.getD i default) := by simp [List.getD, show i < ys.length by omega]
      rw [hj', hi'] at hb
      exact hb
    obtain ⟨env', h', hst, hr'⟩ := Yj7 hind hr
    rw [<- YAp, <- e2] at hr'
    have hi' : ys[i]? = some (ys.getD i default) := by simp [List.getD, show i < ys.length by omega]
    obtain ⟨x, hx, hva⟩ := hvar i _ hi'
    obtain ⟨x', hx', htr⟩ := g1 i ops[i] (by simp [hlt])
    have : x' = x := by rw [hx] at hx'; injection hx' with hx'; exact hx'.symm
    subst this
    obtain ⟨r1, r2⟩ := Yqj hC htr hva hs hst (Q := Q)
    have next : ∀ a' w', SRF fm n w0 L0 env' h' a' w' -> wpAny P .any ops Q fuel (listed.setIfInBounds i true) a' w' := by
     intro a' w' hs'
     refine ih _ a' w' env' h' (by simpa using hsz) (fun j k hj hk => ?_) ?_ hs' hr'
     ·have hk' : listed.getD k false = true := by
       by_cases e : i = j
       ·subst e; exact hdone k hk
       ·rw [Ykc e] at hj; exact hcl j k hj hk
      by_cases e : i = k
      ·subst e
       rw [Array.getD_eq_getD_getElem?]; simp [hsz, hlt]
      ·rw [Ykc e]; exact hk'
     ·rw [e1] at hle; rw [e2]; simp at hle ⊢; omega
    unfold wpOp
    rw [ho]
    simp only
    split
    ·rename_i hw; exact .inl (Oper.wp_mono next (r1 hw))
    ·rename_i hw; exact next _ _ (r2 (by simpa using hw))
theorem Yqo {C : Ctx} (hC : CtxOK P fm C) (hm : P.follows .mixedOrders = true) {ops : Array Oper} {is ys : List AI} (h1 : Yxa (trAI P fm n ops) ops.toList = some is)
  (hE : YxE ops.toList 0 = true) (h2 : YxD C.pf (ancs ops.toList []) is = some ys) {K : ASt -> Prop} {st : ASt} {n0 : Nat -> Prop} (hn0 : ∀ a, st.heap.length <= a -> n0 a) (hev : Yxg C n0 ys K st) {a : Act} {w : World} (hs : SR fm n w0 L0 st a w)
  {Q : Exit -> Act -> World -> Prop} (hQ : ∀ st a w, K st -> SR fm n w0 L0 st a w -> Q .normal a w) {id : Nat} : (Code.region id ops true).wp P Q a w := by
 refine wp_region_any hm ?_
 obtain ⟨L, k1, k2, k3, k4⟩ := hs.rel
 have hk : Keep L w { w with drawn := w.drawn + 1 } := ⟨rfl, rfl, rfl, Nat.le_refl _, fun _ _ _ => rfl, fun _ _ h => h⟩
 have hs0 : SRF fm n w0 L0 st.env (hf st.heap) a { w with drawn := w.drawn + 1 } :=
  ⟨hs.defers, hs.size, ⟨st.heap.length, fun b hb => YAa hb⟩, L, k1.trans k2 hk, k2, k3.mono hk (fun _ _ _ => rfl), fun t => (k4 t).mono hk (LStep.refl _ _)⟩
 have hruns := Yfm ys st hn0 hev
 have hlen' : ys.length = ops.size := by rw [(Ydy h2).2.1, (Yfo h1).1]; simp
 refine Yqn hC h1 h2 hE (F := fun env h => ∃ st', K st' /\ EqE st'.env env /\ h = hf st'.heap /\ st'.base = st.base) (n0 := n0) ?_ ops.size _ a _ st.env (hf st.heap) (by simp) ?_ ?_ hs0 ?_
 ·rintro env h a' w' ⟨st', q1, q2, q3, q4⟩ hs'
  subst q3
  obtain ⟨L', j1, j2, j3, j4⟩ := hs'.rel
  exact hQ st' a' w' q1 ⟨hs'.defers, hs'.size, fun b hb => by rw [q4]; exact hs.base b hb, L', j1, j2, j3, Ydx j4 q2⟩
 ·intro j k hj _
  rw [Array.getD_eq_getD_getElem?, Array.getElem?_replicate] at hj
  split at hj <;> simp at hj
 ·exact Nat.le_trans (List.length_filter_le ..) (by simp)
 ·have hr : rem ops.size (Array.replicate ops.size false) = List.range ops.size := by
   unfold rem
   rw [List.filter_eq_self]
   intro i hi
   have : i < ops.size := by simpa using hi
   rw [Array.getD_eq_getD_getElem?]; simp [this]
  rw [hr]
  have hy : (List.range ops.size).map (fun i => ys.getD i default) = ys := by
   apply YAm
   intro i
   rw [YzP]
   by_cases hi : i < ops.size
   ·simp [hi, show i < ys.length by omega]
   ·rw [YAa (by simpa using hi), YAa (by omega)]; rfl
  rw [hy]
  exact hruns
end
end Go.Abs
namespace Go.Abs
open Go Go.RowKit
def PostA (fm : FM) (n : Nat) (w0 : World) (L0 : Nat -> Loc) (Q : Ex -> ASt -> Prop) : Exit -> Act -> World -> Prop
 | .normal, a, w => ∃ st, Q .nor st /\ SR fm n w0 L0 st a w
 | .exit id, a, w => ∃ st, Q (.exit id) st /\ SR fm n w0 L0 st a w
 | .ret, a, w => ∃ st, Q .ret st /\ SR fm n w0 L0 st a w
 | _, _, _ => False
def Sat (C : Ctx) (c : ACode) (Q : Ex -> ASt -> Prop) (st : ASt) : Prop :=
 ∀ (P : Program) (fm : FM) (n : Nat) (code : Code), CtxOK P fm C -> P.follows .mixedOrders = true -> tr P fm C.pf n code = some c ->
   ∀ w0 L0 a w, SR fm n w0 L0 st a w -> code.wp P (PostA fm n w0 L0 Q) a w
def Wk (st st' : ASt) : Prop := ∀ (fm : FM) (n : Nat) (w0 : World) (L0 : Nat -> Loc) (a : Act) (w : World), SR fm n w0 L0 st a w -> SR fm n w0 L0 st' a w
theorem Wk.refl (st : ASt) : Wk st st := fun _ _ _ _ _ _ h => h
theorem Wk.trans {a b c : ASt} (h : Wk a b) (k : Wk b c) : Wk a c := fun _ _ _ _ _ _ x => k _ _ _ _ _ _ (h _ _ _ _ _ _ x)
theorem PostA.mono {fm : FM} {n : Nat} {w0 : World} {L0 : Nat -> Loc} {Q Q' : Ex -> ASt -> Prop} (h : ∀ e s, Q e s -> Q' e s) {e : Exit} {a : Act} {w : World} (hp : PostA fm n w0 L0 Q e a w) :
  PostA fm n w0 L0 Q' e a w := by
 cases e <;> first | exact hp | (obtain ⟨s, hq, hs⟩ := hp; exact ⟨s, h _ _ hq, hs⟩)
section
variable {C : Ctx} {Q : Ex -> ASt -> Prop} {st : ASt}
theorem Sat.mono {c : ACode} {Q' : Ex -> ASt -> Prop} (h : Sat C c Q st) (hq : ∀ e s, Q e s -> Q' e s) : Sat C c Q' st :=
 fun P fm n code hC hm ht w0 L0 a w hs => wp_mono (h P fm n code hC hm ht w0 L0 a w hs) (fun _ _ _ hp => hp.mono hq)
theorem Sat.wk {c : ACode} {s : ASt} (hw : Wk st s) (h : Sat C c Q s) : Sat C c Q st :=
 fun P fm n code hC hm ht w0 L0 a w hs => h P fm n code hC hm ht w0 L0 a w (hw _ _ _ _ _ _ hs)
theorem Ya8 {P : Program} {fm : FM} {pf : Nat -> Bool} {n id : Nat} {ops : Array Oper} {draw : Bool} {c : ACode} (h : tr P fm pf n (.region id ops draw) = some c) (hb : c ≠ .bad) :
  ∃ is ys, Yxa (trAI P fm n ops) ops.toList = some is /\ c = .reg ys /\ (draw = true /\ YxE ops.toList 0 = true /\ YxD pf (ancs ops.toList []) is = some ys \/ draw = false /\ ys = is) := by
 simp only [tr] at h
 split at h
 ·rename_i ys hr
  injection h with h
  simp only [Yzr] at hr
  cases hm : Yxa (trAI P fm n ops) ops.toList with
  | none => simp [hm] at hr
  | some is =>
    simp only [hm] at hr
    cases draw with
    | true =>
      simp only [if_true] at hr
      by_cases hE : YxE ops.toList 0 = true
      ·rw [if_pos hE] at hr
       exact ⟨is, ys, rfl, h.symm, .inl ⟨rfl, hE, hr⟩⟩
      ·rw [if_neg hE] at hr; cases hr
    | false =>
      simp at hr
      exact ⟨is, ys, rfl, h.symm, .inr ⟨rfl, hr.symm⟩⟩
 ·injection h with h; exact absurd h.symm hb
theorem Yfp {ys : List AI} {n0 : Nat -> Prop} (hn0 : ∀ a, st.heap.length <= a -> n0 a) (h : Yxg C n0 ys (Q .nor) st) : Sat C (.reg ys) Q st := by
 intro P fm n code hC hm ht w0 L0 a w hs
 cases code with
 | region id ops draw =>
   obtain ⟨is, zs, h1, h2, h3⟩ := Ya8 ht (fun e => by cases e)
   injection h2 with h2
   subst h2
   have hQ : ∀ st a w, Q .nor st -> SR fm n w0 L0 st a w -> PostA fm n w0 L0 Q .normal a w := fun st a w hq hs => ⟨st, hq, hs⟩
   rcases h3 with ⟨rfl, hE, h3⟩ | ⟨rfl, rfl⟩
   ·exact Yqo hC hm h1 hE h3 hn0 h hs hQ
   ·obtain ⟨ops⟩ := ops
    exact wp_region_lit (Ydq hC hQ ops _ st a w h1 h hs)
 | seq x y => simp only [tr] at ht; split at ht <;> cases ht
 | cond c x y => simp only [tr] at ht; split at ht <;> cases ht
 | block id b => simp [tr] at ht
 | loop b => simp [tr] at ht
 | _ => cases ht
theorem Ydz {ys : List AI} (h : Yxg C (fun a => st.heap.length <= a) ys (Q .nor) st) : Sat C (.reg ys) Q st := Yfp (fun _ h => h) h
theorem Ykd (h : Q .nor st) : Sat C .skip Q st := by
 intro P fm n code hC hm ht w0 L0 a w hs
 cases code with
 | skip => exact wp_skip ⟨st, h, hs⟩
 | region id ops draw => obtain ⟨_, _, _, h2, _⟩ := Ya8 ht (fun e => by cases e); cases h2
 | seq x y => simp only [tr] at ht; split at ht <;> cases ht
 | cond c x y => simp only [tr] at ht; split at ht <;> cases ht
 | block id b => simp [tr] at ht
 | loop b => simp [tr] at ht
 | _ => cases ht
theorem Yqp {id : Nat} (h : Q (.exit id) st) : Sat C (.exit id) Q st := by
 intro P fm n code hC hm ht w0 L0 a w hs
 cases code with
 | exit id' => injection ht with ht; injection ht with ht; subst ht; exact wp_exit ⟨st, h, hs⟩
 | region id ops draw => obtain ⟨_, _, _, h2, _⟩ := Ya8 ht (fun e => by cases e); cases h2
 | seq x y => simp only [tr] at ht; split at ht <;> cases ht
 | cond c x y => simp only [tr] at ht; split at ht <;> cases ht
 | block id b => simp [tr] at ht
 | loop b => simp [tr] at ht
 | _ => cases ht
theorem Yfq (h : Q .ret st) : Sat C .ret Q st := by
 intro P fm n code hC hm ht w0 L0 a w hs
 cases code with
 | ret => exact wp_ret ⟨st, h, hs⟩
 | region id ops draw => obtain ⟨_, _, _, h2, _⟩ := Ya8 ht (fun e => by cases e); cases h2
 | seq x y => simp only [tr] at ht; split at ht <;> cases ht
 | cond c x y => simp only [tr] at ht; split at ht <;> cases ht
 | block id b => simp [tr] at ht
 | loop b => simp [tr] at ht
 | _ => cases ht
def Ex.then (N : ASt -> Prop) (Q : Ex -> ASt -> Prop) : Ex -> ASt -> Prop
 | .nor, s => N s
 | .exit id, s => Q (.exit id) s
 | .ret, s => Q .ret s
theorem Ya9 {x y : ACode} (h : Sat C x (Ex.then (Sat C y Q) Q) st) : Sat C (.seq x y) Q st := by
 intro P fm n code hC hm ht w0 L0 a w hs
 cases code with
 | seq cx cy =>
   simp only [tr] at ht
   split at ht
   ·rename_i x' y' hx hy
    injection ht with ht; injection ht with e1 e2; subst e1; subst e2
    refine wp_seq (wp_mono (h P fm n cx hC hm hx w0 L0 a w hs) ?_)
    intro e a' w' hp
    cases e with
    | normal => obtain ⟨s, hq, hs'⟩ := hp; exact hq P fm n cy hC hm hy w0 L0 a' w' hs'
    | exit id => obtain ⟨s, hq, hs'⟩ := hp; exact ⟨s, hq, hs'⟩
    | ret => obtain ⟨s, hq, hs'⟩ := hp; exact ⟨s, hq, hs'⟩
    | goto l => exact hp.elim
    | panic ch => exact hp.elim
    | outgrown => exact hp.elim
   ·cases ht
 | region id ops draw => obtain ⟨_, _, _, h2, _⟩ := Ya8 ht (fun e => by cases e); cases h2
 | cond c x y => simp only [tr] at ht; split at ht <;> cases ht
 | block id b => simp [tr] at ht
 | loop b => simp [tr] at ht
 | _ => cases ht
def Yxy (st : ASt) : Opd -> Bool -> ASt
 | .t g, b => ⟨(g, .v (.bool b)) :: st.env, st.heap, st.base⟩
 | .c _, _ => st
theorem Yke {fm : FM} {n : Nat} {w0 : World} {L0 : Nat -> Loc} {a : Act} {w : World} (hs : SR fm n w0 L0 st a w) {c : Opd} {b : Bool} (h : opd st.env c = .v (.bool b)) :
  SR fm n w0 L0 (Yxy st c b) a w := by
 cases c with
 | c v => exact hs
 | t g =>
   obtain ⟨h1, h2, h3, L, h4, h5, h6, h7⟩ := hs
   exact ⟨h1, h2, h3, L, h4, h5, h6, Ycv h7 h⟩
theorem Ykf {c : Opd} {x y : ACode} {b : Bool} (hc : opd st.env c = .v (.bool b)) (h1 : b = true -> Sat C x Q (Yxy st c true)) (h2 : b = false -> Sat C y Q (Yxy st c false)) :
  Sat C (.cond c x y) Q st := by
 intro P fm n code hC hm ht w0 L0 a w hs
 cases code with
 | cond c' cx cy =>
   simp only [tr] at ht
   split at ht
   ·rename_i x' y' hx hy
    injection ht with ht; injection ht with e0 e1 e2; subst e0; subst e1; subst e2
    obtain ⟨L, k1, k2, k3, k4⟩ := hs.rel
    have hv := Yac k4 c'
    rw [hc] at hv
    have hv' := Yag hv
    refine wp_cond_split hv' (fun hb => ?_) (fun hb => ?_)
    ·subst hb; exact h1 rfl P fm n cx hC hm hx w0 L0 a w (Yke hs hc)
    ·subst hb; exact h2 rfl P fm n cy hC hm hy w0 L0 a w (Yke hs hc)
   ·cases ht
 | region id ops draw => obtain ⟨_, _, _, h2, _⟩ := Ya8 ht (fun e => by cases e); cases h2
 | seq x y => simp only [tr] at ht; split at ht <;> cases ht
 | block id b => simp [tr] at ht
 | loop b => simp [tr] at ht
 | _ => cases ht
def Ex.blk (id : Nat) (Q : Ex -> ASt -> Prop) : Ex -> ASt -> Prop
 | .nor, s => Q .nor s
 | .exit id', s => bif id' == id then Q .nor s else Q (.exit id') s
 | .ret, s => Q .ret s
theorem Ykg {id : Nat} {b : ACode} (h : Sat C b (Ex.blk id Q) st) : Sat C (.blk id b) Q st := by
 intro P fm n code hC hm ht w0 L0 a w hs
 cases code with
 | block id' cb =>
   simp only [tr, Option.map_eq_some_iff] at ht
   obtain ⟨b', hb, ht⟩ := ht
   injection ht with e1 e2; subst e1; subst e2
   refine wp_block (wp_mono (h P fm n cb hC hm hb w0 L0 a w hs) ?_)
   intro e a' w' hp
   cases e with
   | normal => obtain ⟨s, hq, hs'⟩ := hp; exact ⟨s, hq, hs'⟩
   | exit id =>
     obtain ⟨s, hq, hs'⟩ := hp
     by_cases e : id = id'
     ·subst e
      simp only [Ex.blk, beq_self_eq_true, cond_true] at hq
      simp only [Exit.inBlock, if_true]
      exact ⟨s, hq, hs'⟩
     ·have e1 : (id == id') = false := by simp [e]
      simp only [Ex.blk, e1, cond_false] at hq
      simp only [Exit.inBlock, e, if_false]
      exact ⟨s, hq, hs'⟩
   | ret => obtain ⟨s, hq, hs'⟩ := hp; exact ⟨s, hq, hs'⟩
   | goto l => exact hp.elim
   | panic ch => exact hp.elim
   | outgrown => exact hp.elim
 | region id ops draw => obtain ⟨_, _, _, h2, _⟩ := Ya8 ht (fun e => by cases e); cases h2
 | seq x y => simp only [tr] at ht; split at ht <;> cases ht
 | cond c x y => simp only [tr] at ht; split at ht <;> cases ht
 | loop b => simp [tr] at ht
 | _ => cases ht
theorem Ykh {b : ACode} (J : Nat -> ASt -> Prop) (h0 : ∃ m s, J m s /\ Wk st s)
  (hb : ∀ m s, J m s -> Sat C b (Ex.then (fun t => ∃ m' s', J m' s' /\ m' < m /\ Wk t s') Q) s) : Sat C (.loop b) Q st := by
 intro P fm n code hC hm ht w0 L0 a w hs
 cases code with
 | loop cb =>
   simp only [tr, Option.map_eq_some_iff] at ht
   obtain ⟨b', hcb, ht⟩ := ht
   injection ht with e1; subst e1
   obtain ⟨m0, s0, hJ0, hw0⟩ := h0
   intro fr k cs
   have key : ∀ m s a w, J m s -> SR fm n w0 L0 s a w ->
     ∃ e a' w', PostA fm n w0 L0 Q e a' w' /\ Arrives P (lone (fr.at a (.code cb :: .inLoop cb :: k)) cs w) fr k cs e a' w' := by
    intro m
    induction m using Nat.strongRecOn with
    | _ m ih =>
      intro s a w hJ hs
      obtain ⟨e, a₁, w₁, hq, harr⟩ := hb m s hJ P fm n cb hC hm hcb w0 L0 a w hs fr (.inLoop cb :: k) cs
      cases e with
      | normal =>
        obtain ⟨s1, ⟨m', s', hJ', hlt, hwk⟩, hs1⟩ := hq
        obtain ⟨e₂, a₂, w₂, hq₂, harr₂⟩ := ih m' hlt s' a₁ w₁ hJ' (hwk _ _ _ _ _ _ hs1)
        exact ⟨e₂, a₂, w₂, hq₂, .of_steps (Steps.trans harr (.one step_inLoop)) harr₂⟩
      | exit id => obtain ⟨s1, hq, hs1⟩ := hq; refine ⟨.exit id, a₁, w₁, ?_, .pass (x := .inLoop cb) rfl (fun _ _ => .inl (by simp)) harr⟩; exact ⟨s1, hq, hs1⟩
      | ret => obtain ⟨s1, hq, hs1⟩ := hq; refine ⟨.ret, a₁, w₁, ?_, .pass (x := .inLoop cb) rfl (fun _ _ => .inl (by simp)) harr⟩; exact ⟨s1, hq, hs1⟩
      | goto l => exact hq.elim
      | panic ch => exact hq.elim
      | outgrown => exact hq.elim
   obtain ⟨e, a', w', hq, harr⟩ := key m0 s0 a w hJ0 (hw0 _ _ _ _ _ _ hs)
   exact ⟨e, a', w', hq, .of_steps (.one step_loop) harr⟩
 | region id ops draw => obtain ⟨_, _, _, h2, _⟩ := Ya8 ht (fun e => by cases e); cases h2
 | seq x y => simp only [tr] at ht; split at ht <;> cases ht
 | cond c x y => simp only [tr] at ht; split at ht <;> cases ht
 | block id b => simp [tr] at ht
 | _ => cases ht
end
end Go.Abs
namespace Go.Abs
open Go Go.RowKit
inductive Cz (ρ : Nat -> Nat) (Fz : Nat -> Prop) (H H' : HF) : AV -> AV -> Prop
 | u (a : AV) : Cz ρ Fz H H' a .u
 | v (x : Value) : Cz ρ Fz H H' (.v x) (.v x)
 | emp : Cz ρ Fz H H' .emp .emp
 | empRd (es : Nat) : Cz ρ Fz H H' .emp (.rd es [])
 | rd (es : Nat) (l l' : List (List AV)) (hl : l.length = l'.length) (hz : ∀ (i : Nat) (e e' : List AV), l[i]? = some e -> l'[i]? = some e' -> e.length = e'.length)
   (h : ∀ (i : Nat) (e e' : List AV) (j : Nat) (x x' : AV), l[i]? = some e -> l'[i]? = some e' -> e[j]? = some x -> e'[j]? = some x' -> Cz ρ Fz H H' x x') : Cz ρ Fz H H' (.rd es l) (.rd es l')
 | rp (cs cs' : List AV) (hl : cs.length = cs'.length) (h : ∀ (j : Nat) (x x' : AV), cs[j]? = some x -> cs'[j]? = some x' -> Cz ρ Fz H H' x x') : Cz ρ Fz H H' (.rp cs) (.rp cs')
 | agg (cs cs' : List AV) (hl : cs.length = cs'.length) (h : ∀ (j : Nat) (x x' : AV), cs[j]? = some x -> cs'[j]? = some x' -> Cz ρ Fz H H' x x') : Cz ρ Fz H H' (.agg cs) (.agg cs')
 | tup (cs cs' : List AV) (hl : cs.length = cs'.length) (h : ∀ (j : Nat) (x x' : AV), cs[j]? = some x -> cs'[j]? = some x' -> Cz ρ Fz H H' x x') : Cz ρ Fz H H' (.tup cs) (.tup cs')
 | clo (f : Nat) (cs cs' : List AV) (hl : cs.length = cs'.length) (h : ∀ (j : Nat) (x x' : AV), cs[j]? = some x -> cs'[j]? = some x' -> Cz ρ Fz H H' x x') : Cz ρ Fz H H' (.clo f cs) (.clo f cs')
 | ref (a off len : Nat) (o : AObj) (h : H' a = some (some o)) : Cz ρ Fz H H' (.ref (ρ a) off len) (.ref a off len)
 | ptr (a i j : Nat) (o : AObj) (h : H' a = some (some o)) : Cz ρ Fz H H' (.ptr (ρ a) i j) (.ptr a i j)
 | np (a : Nat) (o : AObj) (h : H' a = some (some o)) : Cz ρ Fz H H' (.np (ρ a)) (.np a)
 | frz (i off len : Nat) (o : AObj) (l' : List (List AV)) (hz : Fz i) (ho : H i = some (some o)) (hle : off + len <= o.el.length) (hl : len = l'.length)
   (hlz : ∀ (k : Nat) (e e' : List AV), o.el[off + k]? = some e -> l'[k]? = some e' -> e.length = e'.length)
   (h : ∀ (k : Nat) (e e' : List AV) (j : Nat) (x x' : AV), o.el[off + k]? = some e -> l'[k]? = some e' -> e[j]? = some x -> e'[j]? = some x' -> Cz ρ Fz H H' x x') :
   Cz ρ Fz H H' (.ref i off len) (.rd (wd o.es) l')
structure HCz (ρ : Nat -> Nat) (Fz : Nat -> Prop) (H H' : HF) (base : Nat) : Prop where
 inj : ∀ a b o o', H' a = some (some o) -> H' b = some (some o') -> ρ a = ρ b -> a = b
 low : ∀ a, a < base -> ρ a = a /\ (H a ≠ none -> H' a ≠ none)
 obj : ∀ a o', H' a = some (some o') -> ¬ Fz (ρ a) /\ ∃ o, H (ρ a) = some (some o) /\ o'.es = o.es /\ o'.el.length = o.el.length /\
  ∀ (i : Nat) (e e' : List AV), o.el[i]? = some e -> o'.el[i]? = some e' -> e.length = e'.length /\ ∀ (j : Nat) (x x' : AV), e[j]? = some x -> e'[j]? = some x' -> Cz ρ Fz H H' x x'
def locs (ρ : Nat -> Nat) (H' : HF) (L : Nat -> Loc) : Nat -> Loc := fun a =>
 match H' a with
 | none => .fresh
 | some none => match L a with
   | .hid g => .hid g
   | _ => .dead
 | some (some _) => L (ρ a)
section
variable {fm : FM} {w : World} {L : Nat -> Loc} {ρ : Nat -> Nat} {Fz : Nat -> Prop} {H H' : HF} {base : Nat}
theorem YdA {a g e c : Nat} (h : locs ρ H' L a = .cells g e c) : (∃ o, H' a = some (some o)) /\ L (ρ a) = .cells g e c := by
 unfold locs at h
 split at h
 ·cases h
 ·split at h <;> cases h
 ·rename_i o ho; exact ⟨⟨o, ho⟩, h⟩
theorem YdB {a g : Nat} {i : Bool} (h : locs ρ H' L a = .mp i g) : (∃ o, H' a = some (some o)) /\ L (ρ a) = .mp i g := by
 unfold locs at h
 split at h
 ·cases h
 ·split at h <;> cases h
 ·rename_i o ho; exact ⟨⟨o, ho⟩, h⟩
theorem Ya0 {a : Nat} {o : AObj} (h : H' a = some (some o)) : locs ρ H' L a = L (ρ a) := by simp [locs, h]
theorem Yfr {b : Nat} (h : OwnC (locs ρ H' L) b) : OwnC L b := by
 rcases h with ⟨a, e, c, h⟩ | ⟨a, i, h⟩
 ·exact .inl ⟨_, e, c, (YdA h).2⟩
 ·exact .inr ⟨_, i, (YdB h).2⟩
theorem Yfs {a g : Nat} (h : locs ρ H' L a = .hid g) : ∃ b, L b = .hid g := by
 unfold locs at h
 split at h
 ·cases h
 ·split at h
  ·rename_i g' hg; injection h with h; subst h; exact ⟨a, hg⟩
  ·cases h
 ·exact ⟨_, h⟩
theorem Yft {b : Nat} (h : Yw5 (locs ρ H' L) b) : Yw5 L b := by
 rcases h with h | ⟨a, h⟩
 ·exact .inl (Yfr h)
 ·exact .inr (Yfs h)
theorem YaG (hz : HCz ρ Fz H H' base) (hr : HR fm w L H) {a a' : AV} (hc : Cz ρ Fz H H' a a') : ∀ {x : Value}, VR fm w L x a -> VR fm w (locs ρ H' L) x a' := by
 induction hc with
 | u a => intro x _; exact .u x
 | v y => intro x h; rw [Yag h]; exact .v y
 | emp => intro x h; obtain ⟨A, rfl⟩ := YaM h; exact .emp A
 | empRd es => intro x h; obtain ⟨A, rfl⟩ := YaM h; exact .rd0 A es 0
 | rd es l l' hl hlz h ih =>
   intro x hx
   rcases Ybj hx with ⟨rfl, A, c, rfl⟩ | ⟨b, o, c, vals, rfl, hne, hes, hes0, hlc, hb, hbs, hcl, h1, hrr⟩
   ·have : l' = [] := YzY.1 hl.symm
    subst this; exact .rd0 A es c
   ·have g2 : ∀ (i : Nat) (e' : List AV) (j : Nat) (y' : AV), l'[i]? = some e' -> e'[j]? = some y' -> ∃ e y, l[i]? = some e /\ e[j]? = some y := by
     intro i e' j y' hi hj
     obtain ⟨e, he⟩ := Yab hl hi
     obtain ⟨y, hy⟩ := Yab (hlz i e e' he hi) hj
     exact ⟨e, y, he, hy⟩
    rw [hl]
    exact .rd b o c es l' vals (fun e => hne (YzY.1 (by rw [hl, e]; rfl))) (fun e' he' => by
      obtain ⟨i, hi, he⟩ := YAj.1 he'
      have hi' : l'[i]? = some e' := by rw [YzO hi, he]
      obtain ⟨e, hie⟩ := Yab hl hi'
      rw [<- hlz i e e' hie hi']
      exact hes e (YzQ hie)) hes0 (by omega) (fun ho => hb (Yft ho)) hbs
     (fun i e' j y' hi hj => by obtain ⟨e, y, h2, h3⟩ := g2 i e' j y' hi hj; exact hcl i e j y h2 h3)
     (fun i e' j y' hi hj => by obtain ⟨e, y, h2, h3⟩ := g2 i e' j y' hi hj; exact h1 i e j y h2 h3)
     (fun i e' j y' hi hj => by obtain ⟨e, y, h2, h3⟩ := g2 i e' j y' hi hj; exact ih i e e' j y y' h2 hi h3 hj (hrr i e j y h2 h3))
 | rp cs cs' hl h ih =>
   intro x hx
   obtain ⟨b, o, vals, rfl, hb, hbs, hcl, h1, hrr⟩ := Yby hx
   exact .rp b o cs' vals (fun ho => hb (Yft ho)) hbs
    (fun j y' hj => by obtain ⟨y, hy⟩ := Yab hl hj; exact hcl j y hy)
    (fun j y' hj => by obtain ⟨y, hy⟩ := Yab hl hj; exact h1 j y hy)
    (fun j y' hj => by obtain ⟨y, hy⟩ := Yab hl hj; exact ih j y y' hy hj (hrr j y hy))
 | agg cs cs' hl h ih =>
   intro x hx
   obtain ⟨xs, rfl, hs, hall⟩ := Ybi hx
   exact .agg xs cs' (by omega) (fun j y' hj => by obtain ⟨y, hy⟩ := Yab hl hj; exact (hall j y hy).1)
    (fun j y' hj => by obtain ⟨y, hy⟩ := Yab hl hj; exact ih j y y' hy hj (hall j y hy).2)
 | tup cs cs' hl h ih =>
   intro x hx
   obtain ⟨xs, rfl, hs, hall⟩ := Ydf hx
   exact .tup xs cs' (by omega) (fun j y' hj => by obtain ⟨y, hy⟩ := Yab hl hj; exact ih j y y' hy hj (hall j y hy))
 | clo f cs cs' hl h ih =>
   intro x hx
   obtain ⟨g, xs, rfl, hf, hs, hall⟩ := Ycm hx
   subst hf
   exact .clo g xs cs' (by omega) (fun j y' hj => by obtain ⟨y, hy⟩ := Yab hl hj; exact ih j y y' hy hj (hall j y hy))
 | ref a off len o h =>
   intro x hx
   obtain ⟨_, o2, ho2, _⟩ := hz.obj a o h
   rcases YaY hr ho2 hx with ⟨g, es, cap, hL, e1, e2, rfl⟩ | ⟨A, b0, hL, hA0, rfl, rfl, rfl⟩
   ·exact .refAt g es cap a off len (by rw [Ya0 h]; exact hL) e2
   ·exact .refNil A a b0 (by rw [Ya0 h]; exact hL) hA0
 | ptr a i j o h =>
   intro x hx
   obtain ⟨_, o2, ho2, _⟩ := hz.obj a o h
   obtain ⟨g, es, cap, hL, e1, rfl⟩ := Ydh hr ho2 hx
   exact .ptrAt g es cap a i j (by rw [Ya0 h]; exact hL)
 | np a o h =>
   intro x hx
   obtain ⟨_, o2, ho2, _⟩ := hz.obj a o h
   rcases Ydi hr ho2 hx with ⟨g, hL, ht, hv⟩ | ⟨g, hL, rfl⟩ | ⟨g, hL, rfl⟩
   ·exact .npAt g a x (by rw [Ya0 h]; exact hL) ht hv
   rotate_left
   ·exact .itAt g a (by rw [Ya0 h]; exact hL)
   ·exact .mpAt g a (by rw [Ya0 h]; exact hL)
 | frz i off len o l' hfz ho hle hl hlz h ih =>
   intro x hx
   rcases YaY hr ho hx with ⟨g, es, cap, hL, e1, e2, rfl⟩ | ⟨A, b0, hL, hA0, rfl, rfl, rfl⟩
   ·subst e1
    by_cases hl0 : l' = []
    ·subst hl0; simp at hl; subst hl; exact .rd0 _ _ _
    ·have hob := hr.obj i o ho
     rw [hL] at hob
     obtain ⟨_, hes, hlc, hcm, hall, cur, ty, hg, hcs, hrr⟩ := hob
     have hlt := (Array.getElem?_eq_some_iff.1 hg).1
     have g2 : ∀ (k : Nat) (e' : List AV), l'[k]? = some e' -> ∃ e, o.el[off + k]? = some e := by
      intro k e' hk
      have := (YzN.1 hk).1
      exact ⟨o.el[off + k], YzO (by omega)⟩
     have key : ∀ k e j' y, o.el[off + k]? = some e -> e[j']? = some y -> (off + k) * (wd o.es) + j' < cur.size := by
      intro k e j' y h1 hj
      have h2 := (YzN.1 h1).1
      have h3 := hall e (YzQ h1)
      have h4 := (YzN.1 hj).1
      have h5 : (off + k + 1) * (wd o.es) <= cap * (wd o.es) := Nat.mul_le_mul_right _ (by omega)
      rw [Nat.add_mul] at h5
      rw [hcs]; omega
     have hno : ¬ Yw5 (locs ρ H' L) g := by
      rintro ((⟨b, e, c, hb⟩ | ⟨b, i', hb⟩) | ⟨b, hb⟩)
      ·obtain ⟨⟨ob, hob⟩, hb2⟩ := YdA hb
       have := hr.inj _ _ _ _ _ _ _ hb2 hL
       exact (hz.obj b ob hob).1 (by rw [this]; exact hfz)
      ·obtain ⟨_, hm, hn⟩ := hr.mpb (YdB hb).2
       rw [hg] at hm; injection hm with hm; exact hn _ _ _ hm.symm
      ·obtain ⟨b', hb'⟩ := Yfs hb
       exact (hr.hid b' g hb').2 (.inl ⟨i, _, _, hL⟩)
     rw [hl]
     refine .rd g (off * (wd o.es)) (cap - off) (wd o.es) l' (fun k j' => cur.getD ((off + k) * (wd o.es) + j') undef) hl0 (fun e' he' => ?_) hes (by omega) hno hlt (fun k e' j' y' hk hj => ?_) (fun k e' j' y' hk hj => ?_) (fun k e' j' y' hk hj => ?_)
     ·obtain ⟨k, hk, he⟩ := YAj.1 he'
      have hk' : l'[k]? = some e' := by rw [YzO hk, he]
      obtain ⟨e, hke⟩ := g2 k e' hk'
      rw [<- hlz k e e' hke hk']
      exact hall e (YzQ hke)
     ·obtain ⟨e, hke⟩ := g2 k e' hk
      obtain ⟨y, hy⟩ := Yab (hlz k e e' hke hk) hj
      rw [cell_of_row w g _ cur ty (0, 0) hg, <- Nat.add_mul]
      exact YaJ (key k e j' y hke hy)
     ·obtain ⟨e, hke⟩ := g2 k e' hk
      obtain ⟨y, hy⟩ := Yab (hlz k e e' hke hk) hj
      exact (hrr _ e j' y hke hy).1
     ·obtain ⟨e, hke⟩ := g2 k e' hk
      obtain ⟨y, hy⟩ := Yab (hlz k e e' hke hk) hj
      exact ih k e e' j' y y' hke hk hy hj (hrr _ e j' y hke hy).2
   ·have : l' = [] := YzY.1 hl.symm
    subst this; exact .rd0 _ _ _
theorem Yki (hz : HCz ρ Fz H H' base) (hr : HR fm w L H) : HR fm w (locs ρ H' L) H' := by
 refine ⟨fun a o' ha => ?_, fun a ha => ?_, fun a => ?_, fun a b g e c e' c' ha hb => ?_, fun a g ha => ?_, fun a o' g es cap h1 h2 h3 => ?_, fun a i g ha => ?_⟩
 ·obtain ⟨_, o, ho, hes, hlen, hall⟩ := hz.obj a o' ha
  rw [Ya0 ha]
  have hob := hr.obj (ρ a) o ho
  revert hob
  cases hL : L (ρ a) with
  | fresh => exact id
  | dead => exact id
  | hid g => exact id
  | nil => intro h1; exact ⟨YzY.1 (by rw [hlen, show o.el = [] from h1.1]; rfl), fun h0 => h1.2 (hes.symm.trans h0)⟩
  | cells g es cap =>
    rintro ⟨h0, h1, h2, h3, h4, cur, ty, h5, h6, h7⟩
    refine ⟨by rw [hes]; exact h0, h1, by omega, h3, fun e' he' => ?_, cur, ty, h5, h6, fun i e' j x' hi hj => ?_⟩
    ·obtain ⟨k, hk, he⟩ := YAj.1 he'
     have hk' : o'.el[k]? = some e' := by rw [YzO hk, he]
     obtain ⟨e, hke⟩ := Yab hlen.symm hk'
     rw [<- (hall k e e' hke hk').1]
     exact h4 e (YzQ hke)
    ·obtain ⟨e, hke⟩ := Yab hlen.symm hi
     obtain ⟨y, hy⟩ := Yab (hall i e e' hke hi).1 hj
     exact ⟨(h7 i e j y hke hy).1, YaG hz hr ((hall i e e' hke hi).2 j y x' hy hj) (h7 i e j y hke hy).2⟩
  | mp i g =>
    have one : ∀ {x : List AV}, o.el = [x] -> ∃ x', o'.el = [x'] /\ x.length = x'.length /\ (∀ (j : Nat) (y y' : AV), x[j]? = some y -> x'[j]? = some y' -> Cz ρ Fz H H' y y') := by
     intro x hx
     rw [hx] at hlen hall
     match hel : o'.el, hlen with
     | [x'], _ => exact ⟨x', rfl, (hall 0 _ x' rfl (by rw [hel]; rfl)).1, (hall 0 _ x' rfl (by rw [hel]; rfl)).2⟩
    have rows : ∀ {R R' : AV} {wd : Nat} {el : List (List AV)}, Cz ρ Fz H H' R R' -> R = .rd wd el -> R' = .u \/ ∃ el', R' = .rd wd el' /\ el.length = el'.length /\ ∀ (i : Nat) (e e' : List AV), el[i]? = some e -> el'[i]? = some e' -> e.length = e'.length /\ ∀ (j : Nat) (x x' : AV), e[j]? = some x -> e'[j]? = some x' -> Cz ρ Fz H H' x x' := by
     intro R R' wd el hc hR
     subst hR
     cases hc with
     | u => exact .inl rfl
     | rd es l l' hl hz h => exact .inr ⟨l', rfl, hl, fun i e e' h1 h2 => ⟨hz i e e' h1 h2, fun j x x' h3 h4 => h i e e' j x x' h1 h2 h3 h4⟩⟩
    cases i with
    | true =>
      rintro ⟨h0, a0, s, t, S, tag, g', since, seen, stepped, h1, h2, h3, h4, h5, h6, h7⟩
      obtain ⟨x', e1, hl1, hc1⟩ := one h2
      match x', hl1 with
      | [a0', s', t', S', tag'], _ =>
        refine ⟨hes.trans h0, a0', s', t', S', tag', g', since, seen, stepped, h1, e1, YaG hz hr (hc1 0 _ _ rfl rfl) h3, YaG hz hr (hc1 1 _ _ rfl rfl) h4, YaG hz hr (hc1 2 _ _ rfl rfl) h5, YaG hz hr (hc1 4 _ _ rfl rfl) h6, ?_⟩
        have hcS := hc1 3 _ _ rfl rfl
        rcases h7 with rfl | ⟨wd, bl, rfl, h8⟩
        ·cases hcS; exact .inl rfl
        ·rcases rows hcS rfl with e | ⟨el', e, hl4, hc4⟩
         ·exact .inl e
         ·refine .inr ⟨wd, el', e, h8.1.trans hl4, fun i e' hi => ?_⟩
          obtain ⟨e, hke⟩ := Yab hl4 hi
          obtain ⟨n, b, k1, rfl, k3⟩ := h8.2 i e hke
          obtain ⟨hl, hc⟩ := hc4 i _ e' hke hi
          match e', hl, hc with
          | [b'], _, hc => exact ⟨n, b', k1, rfl, YaG hz hr (hc 0 _ _ rfl rfl) k3⟩
    | false =>
    rintro ⟨h0, ms, clock, c0, R, tags, h1, h2, h2', ht, hasc, h3⟩
    obtain ⟨x', e1, hl1, hc1⟩ := one h2
    match x', hl1 with
    | [], hl1 => simp at hl1
    | [_], hl1 => simp at hl1
    | c0' :: R' :: tags', hl1 =>
    have hlt : tags.length = tags'.length := by simpa using hl1
    refine ⟨by rw [hes]; exact h0, ms, clock, c0', R', tags', h1, e1, YaG hz hr (hc1 0 _ _ rfl rfl) h2', fun t' ht' => ?_, hasc, ?_⟩
    ·obtain ⟨j, hj⟩ := Yz1.1 ht'
     obtain ⟨t, htj⟩ := Yab hlt hj
     exact YaG hz hr (hc1 (j + 2) t t' (by simpa using htj) (by simpa using hj)) (ht t (YzQ htj))
    have hcR := hc1 1 _ _ rfl rfl
    rcases h3 with rfl | ⟨wd, el, rfl, h3⟩
    ·cases hcR; exact .inl rfl
    rcases rows hcR rfl with e | ⟨el', e, hl2, hc2⟩
    ·exact .inl e
    refine .inr ⟨wd, el', e, h3.len.trans hl2, fun i e' hi => ?_⟩
    obtain ⟨e, hke⟩ := Yab hl2 hi
    obtain ⟨m, b, k, r, k1, rfl, k2, k3, k4⟩ := h3.row i e hke
    obtain ⟨hl, hc⟩ := hc2 i _ e' hke hi
    match e', hl, hc with
    | [], hl, _ => simp at hl
    | [_], hl, _ => simp at hl
    | b' :: k' :: r', hl, hc =>
      have hl' : r.length = r'.length := by simpa using hl
      refine ⟨m, b', k', r', k1, rfl, YaG hz hr (hc 0 b b' rfl rfl) k2, YaG hz hr (hc 1 k k' rfl rfl) k3, ?_⟩
      have hc' : ∀ j x x', r[j]? = some x -> r'[j]? = some x' -> Cz ρ Fz H H' x x' := fun j x x' h1 h2 => hc (j + 2) x x' (by simpa using h1) (by simpa using h2)
      rw [hes]
      rcases k4 with ⟨q0, a, rfl, q1, q2⟩ | ⟨q0, xs, q1, q2⟩
      ·match r', hl' with
       | [a'], _ => exact .inl ⟨q0, a', rfl, q1, YaG hz hr (hc' 0 a a' rfl rfl) q2⟩
      ·obtain ⟨xs', e, s1, s2⟩ := Ybi q2
       injection e with e; subst e
       refine .inr ⟨q0, xs, q1, .agg xs r' (by omega) (fun j a' hj => ?_) (fun j a' hj => ?_)⟩
       ·obtain ⟨a, ha⟩ := Yab hl' hj
        exact (s2 j a ha).1
       ·obtain ⟨a, ha⟩ := Yab hl' hj
        exact YaG hz hr (hc' j a a' ha hj) (s2 j a ha).2
 ·cases h : H' a with
  | none => simp [locs, h] at ha
  | some oo =>
    cases oo with
    | some o => exact ⟨o, rfl⟩
    | none =>
      simp only [locs, h] at ha
      exfalso
      rcases ha with ⟨g, es, cap, ha⟩ | ⟨_, ha⟩ <;> (split at ha <;> cases ha)
 ·cases h : H' a with
  | none => simp [locs, h]
  | some oo =>
    cases oo with
    | some o =>
      rw [Ya0 h]
      obtain ⟨_, o2, ho2, _⟩ := hz.obj a o h
      constructor
      ·intro hf; have := (hr.fresh _).1 hf; rw [ho2] at this; cases this
      ·intro hn; cases hn
    | none =>
      simp only [locs, h]
      constructor
      ·intro hf; split at hf <;> cases hf
      ·intro hn; cases hn
 ·obtain ⟨⟨o, ho⟩, h1⟩ := YdA ha
  obtain ⟨⟨o', ho'⟩, h2⟩ := YdA hb
  exact hz.inj a b o o' ho ho' (hr.inj _ _ _ _ _ _ _ h1 h2)
 ·obtain ⟨b, hb⟩ := Yfs ha
  exact ⟨(hr.hid b g hb).1, fun hc => (hr.hid b g hb).2 (Yfr hc)⟩
 ·obtain ⟨_, o2, ho2, hes, _⟩ := hz.obj a o' h1
  rw [Ya0 h1] at h3
  exact hr.byt _ o2 g es cap ho2 (by rw [<- hes]; exact h2) h3
 ·obtain ⟨⟨o, ho⟩, h1⟩ := YdB ha
  refine ⟨⟨o, ho⟩, fun b j hb => ?_⟩
  obtain ⟨⟨o', ho'⟩, h2⟩ := YdB hb
  exact hz.inj a b o o' ho ho' ((hr.mps _ _ g h1).2 _ _ h2)
theorem Ykj (hz : HCz ρ Fz H H' base) (hr : HR fm w L H) {a : Nat} (ha : a < base) (hn : L a ≠ .fresh) : locs ρ H' L a = L a \/ (locs ρ H' L a = .dead /\ ∀ g, L a ≠ .hid g) := by
 obtain ⟨h1, h2⟩ := hz.low a ha
 have hHn : H a ≠ none := fun e => hn ((hr.fresh a).2 e)
 cases h : H' a with
 | none => exact absurd h (h2 hHn)
 | some oo =>
   cases oo with
   | some o => rw [Ya0 h, h1]; exact .inl rfl
   | none =>
     cases hL : L a with
     | hid g => left; simp [locs, h, hL]
     | _ => right; simp [locs, h, hL]
theorem Ykk (hz : HCz ρ Fz H H' base) (hr : HR fm w L H) {L0 : Nat -> Loc} {n : Nat} (hb : ∀ b, L0 b ≠ .fresh -> b < base) (hs : LStep L0 L n) : LStep L0 (locs ρ H' L) n := by
 refine ⟨fun a ha => ?_, fun b hb => hs.own b (Yft hb), fun b hb => hs.ownc b (Yfr hb)⟩
 rcases hs.old a ha with e | ⟨e, hg⟩
 ·rcases Ykj hz hr (hb a ha) (by rw [e]; exact ha) with e' | ⟨e', hg⟩
  ·exact .inl (e'.trans e)
  ·exact .inr ⟨e', fun g => by rw [<- e]; exact hg g⟩
 ·rcases Ykj hz hr (hb a ha) (by rw [e]; exact fun h => by cases h) with e' | ⟨e', _⟩
  ·exact .inr ⟨e'.trans e, hg⟩
  ·exact .inr ⟨e', hg⟩
end
theorem Yqq {st st' : ASt} (ρ : Nat -> Nat) (Fz : Nat -> Prop) (hz : HCz ρ Fz (hf st.heap) (hf st'.heap) st.base) (hb : st'.base = st.base)
  (he : ∀ t, Cz ρ Fz (hf st.heap) (hf st'.heap) (YwJ st.env t) (YwJ st'.env t)) : Wk st st' := by
 intro fm n w0 L0 a w hs
 obtain ⟨h1, h2, h3, L, h4, h5, h6, h7⟩ := hs
 exact ⟨h1, h2, fun b hb' => by rw [hb]; exact h3 b hb', _, h4, Ykk hz h6 h3 h5, Yki hz h6, fun t => YaG hz h6 (he t) (h7 t)⟩
end Go.Abs
namespace Go.Abs
open Go Go.RowKit
inductive RV where
 | t (n : Nat)
 | c (n : Nat) (g : Bool) (sz : Nat)
def resT (P : Program) : List ResultVar -> Option (List RV)
 | [] => some []
 | .tmp t :: r => (resT P r).map (.t t :: ·)
 | .cell a t :: r => match aggT P t, YwR P t, resT P r with
   | some g, some n, some l => some (.c a g n :: l)
   | _, _, _ => none
def fnTr (P : Program) (fm : FM) (pf : Nat -> Bool) (f : FuncId) : Option (Nat × List RV × ACode) :=
 match P.funcs[f]? with
 | some fn => match fn.body with
   | some c => match fn.name == "runtime.NumGoroutine", resT P fn.results.toList, tr P fm pf fn.ntmps c with
     | false, some ts, some ac => some (fn.ntmps, ts, ac)
     | _, _, _ => none
   | none => none
 | none => none
def Yxb : Nat -> List AV -> Env
 | _, [] => []
 | i, a :: r => (i, a) :: Yxb (i + 1) r
def Yzt (s : ASt) (r : RV) (v : AV) : Prop :=
 match r with
 | .t n => v = YwJ s.env n
 | .c n g sz => evG (.load g sz (.t n)) s.env (hf s.heap) 0 (fun v' _ => v' = v)
def YxF (s : ASt) : List RV -> List AV -> Prop
 | [], [] => True
 | r :: rs, v :: vs => Yzt s r v /\ YxF s rs vs
 | _, _ => False
def tupR : List AV -> AV
 | [v] => v
 | vs => .tup vs
def Fin (s : ASt) (rv r : AV) (H' : Heap) : Prop := ∀ (fm : FM) (w : World) (L : Nat -> Loc) (x : Value), HR fm w L (hf s.heap) -> VR fm w L x rv ->
 ∃ L', (∀ (L0 : Nat -> Loc) (n : Nat), (∀ b, L0 b ≠ .fresh -> b < s.base) -> LStep L0 L n -> LStep L0 L' n) /\ HR fm w L' (hf H') /\ VR fm w L' x r
theorem Ykl {s : ASt} {rv r : AV} {H' : Heap} (ρ : Nat -> Nat) (Fz : Nat -> Prop) (hz : HCz ρ Fz (hf s.heap) (hf H') s.base) (hc : Cz ρ Fz (hf s.heap) (hf H') rv r) : Fin s rv r H' :=
 fun _ _ _ _ hr hv => ⟨_, fun _ _ hb hs => Ykk hz hr hb hs, Yki hz hr, YaG hz hr hc hv⟩
def RetQ (ts : List RV) (r : AV) (H' : Heap) : Ex -> ASt -> Prop
 | .exit _, _ => False
 | _, s => ∃ vs, YxF s ts vs /\ Fin s (tupR vs) r H'
theorem Ykm : ∀ (args : List AV) (i t : Nat), YwJ (Yxb i args) t = if i <= t then (args[t - i]?).getD .u else .u
 | [], i, t => by simp [Yxb, YwJ]
 | a :: r, i, t => by
   simp only [Yxb, YwJ]
   by_cases h : i = t
   ·subst h; simp
   ·have h1 : (i == t) = false := by simp [h]
    rw [h1, cond_false, Ykm r (i + 1) t]
    by_cases hle : i <= t
    ·have h2 : i + 1 <= t := by omega
     rw [if_pos h2, if_pos hle, show t - i = (t - (i + 1)) + 1 by omega, YAr]
    ·rw [if_neg hle, if_neg (by omega)]
def Yza (tmps : Array Value) : ResultVar -> Sem Value
 | .tmp t => pure (tmps.getD t undef)
 | .cell a t => do loadVar t (<- asAddr (tmps.getD a undef))
def valR : List Value -> Value
 | [v] => v
 | vs => .tuple vs.toArray
def Yyy (P : Program) (tmps : Array Value) (w : World) : List ResultVar -> List Value -> Prop
 | [], [] => True
 | r :: rs, y :: ys => (Yza tmps r).run P w = .ok y w /\ Yyy P tmps w rs ys
 | _, _ => False
theorem Yqr {P : Program} {fn : Func} {rs : List ResultVar} (h2 : fn.results = rs.toArray) (h4 : rs.length <= 4) {tmps : Array Value} {w : World} {ys : List Value} (h : Yyy P tmps w rs ys) :
  (results fn tmps).run P w = .ok (valR ys) w := by
 have he : results fn tmps = (do
  let vs <- fn.results.mapM (Yza tmps)
  pure (if h : vs.size = 1 then vs[0] else .tuple vs)) := rfl
 rw [he, h2]
 match rs, ys, h4, h with
 | [], [], _, _ => simp [valR]
 | [r], [y], _, ⟨k1, _⟩ => simp [valR, k1]
 | [r, r2], [y, y2], _, ⟨k1, k2, _⟩ => simp [valR, k1, k2]
 | [r, r2, r3], [y, y2, y3], _, ⟨k1, k2, k3, _⟩ => simp [valR, k1, k2, k3]
 | [r, r2, r3, r4], [y, y2, y3, y4], _, ⟨k1, k2, k3, k4, _⟩ => simp [valR, k1, k2, k3, k4]
section
variable {P : Program} {fm : FM} {w : World} {L : Nat -> Loc}
theorem Yfu {s : ASt} {a : Act} (hr : HR fm w L (hf s.heap)) (he : ER fm w L a s.env) : ∀ {rs : List ResultVar} {ts : List RV} {vs : List AV}, resT P rs = some ts -> YxF s ts vs ->
  rs.length = ts.length /\ ∃ ys : List Value, Yyy P a.tmps w rs ys /\ ys.length = vs.length /\ ∀ (j : Nat) (v : AV), vs[j]? = some v -> ∃ y, ys[j]? = some y /\ VR fm w L y v
 | [], ts, vs, h1, h2 => by
   simp [resT] at h1; subst h1
   cases vs with
   | nil => exact ⟨rfl, [], trivial, rfl, fun j v h => by simp at h⟩
   | cons v vs => exact h2.elim
 | .tmp t :: r, ts, vs, h1, h2 => by
   simp only [resT, Option.map_eq_some_iff] at h1
   obtain ⟨ts', h1, rfl⟩ := h1
   cases vs with
   | nil => exact h2.elim
   | cons v vs =>
     obtain ⟨h2, h3⟩ := h2
     obtain ⟨k0, ys, k1, k2, k3⟩ := Yfu hr he h1 h3
     refine ⟨by simp [k0], a.tmps.getD t undef :: ys, ⟨rfl, k1⟩, by simp [k2], fun j x hx => ?_⟩
     cases j with
     | zero => simp at hx; subst hx; exact ⟨_, rfl, by have h2' : v = YwJ s.env t := h2; rw [h2']; exact he t⟩
     | succ j => simpa using k3 j x (by simpa using hx)
 | .cell b t :: r, ts, vs, h1, h2 => by
   simp only [resT] at h1
   split at h1
   ·rename_i g n l hg hn hl
    injection h1 with h1; subst h1
    cases vs with
    | nil => exact h2.elim
    | cons v vs =>
      obtain ⟨h2, h3⟩ := h2
      obtain ⟨k0, ys, k1, k2, k3⟩ := Yfu hr he hl h3
      have hv : ∃ ad y, a.tmps.getD b undef = .pointer (some ad) /\ (loadVar t ad).run P w = .ok y w /\ VR fm w L y v := by
       have hev : evG (.load g n (.t b)) s.env (hf s.heap) 0 (fun v' _ => v' = v) := h2
       simp only [evG, opK] at hev
       have hx := he b
       split at hev <;> try exact hev.elim
       ·rename_i cs e
        have e' : YwJ s.env b = .rp cs := e
        rw [e'] at hx
        obtain ⟨b', o, vals, e1, hb, hbs, hc, h1, hrr⟩ := Yby hx
        obtain ⟨y, v', k1, k2, k3⟩ := YeY (P := P) (w := w) hg hn hc h1 hrr hev
        subst k2
        exact ⟨_, y, e1, k1, k3⟩
       ·rename_i a' i j e
        have e' : YwJ s.env b = .ptr a' i j := e
        rw [e'] at hx
        obtain ⟨o, ha, el, hi, hev⟩ := hev
        obtain ⟨ad, y, v', e1, k1, k2, k3⟩ := Yi9 hg hn hr ha hx hi hev
        subst k2
        exact ⟨ad, y, e1, k1, k3⟩
      obtain ⟨ad, y, e1, e2, e3⟩ := hv
      refine ⟨by simp [k0], y :: ys, ⟨by simp [Yza, e1, asAddr, e2], k1⟩, by simp [k2], fun j x hx => ?_⟩
      cases j with
      | zero => simp at hx; subst hx; exact ⟨y, rfl, e3⟩
      | succ j => simpa using k3 j x (by simpa using hx)
   ·cases h1
theorem Yqs {ys : List Value} {vs : List AV} (hl : ys.length = vs.length) (h : ∀ (j : Nat) (v : AV), vs[j]? = some v -> ∃ y, ys[j]? = some y /\ VR fm w L y v) : VR fm w L (valR ys) (tupR vs) := by
 have key : VR fm w L (.tuple ys.toArray) (.tup vs) := by
  refine .tup _ _ (by simpa using hl) (fun j c hj => ?_)
  obtain ⟨y, h1, h2⟩ := h j c hj
  rw [Array.getD_eq_getD_getElem?]
  simpa [h1] using h2
 match ys, vs, hl with
 | [], [], _ => exact key
 | [y], [v], _ => obtain ⟨y', h1, h2⟩ := h 0 v rfl; simp at h1; subst h1; exact h2
 | _ :: _ :: _, _ :: _ :: _, _ => exact key
end
theorem Yqt {P : Program} {fm : FM} {pf : Nat -> Bool} {f : FuncId} {n : Nat} {ts : List RV} {ac : ACode} (h : fnTr P fm pf f = some (n, ts, ac)) :
  ∃ fn c, P.funcs[f]? = some fn /\ fn.body = some c /\ YwM P f = true /\ resT P fn.results.toList = some ts /\ fn.ntmps = n /\ tr P fm pf n c = some ac := by
 unfold fnTr at h
 cases hf : P.funcs[f]? with
 | none => simp [hf] at h
 | some fn =>
   simp only [hf] at h
   cases hb : fn.body with
   | none => simp [hb] at h
   | some c =>
     simp only [hb] at h
     split at h
     ·rename_i ts' ac' hn hr ht
      injection h with h; injection h with e1 h; injection h with e2 e3
      subst e1; subst e2; subst e3
      exact ⟨fn, c, rfl, hb, by simp [YwM, hf, hb]; simpa using hn, hr, rfl, ht⟩
     ·cases h
theorem Yfv {P : Program} {fm : FM} {C : Ctx} (hC : CtxOK P fm C) (hm : P.follows .mixedOrders = true) {f : FuncId} {n : Nat} {ts : List RV} {ac : ACode} (h : fnTr P fm C.pf f = some (n, ts, ac))
  (h4 : ts.length <= 4) {ct : Yw1} (hs : ∀ args H r H', ct args H r H' -> args.length <= n /\ Sat C ac (RetQ ts r H') ⟨Yxb 0 args, H, H.length⟩) : FOK P fm f ct := by
 obtain ⟨fn, c, hfn, hb, hcal, hres, hn, ht⟩ := Yqt h
 subst hn
 intro args H r H' hct
 obtain ⟨hlen, hsat⟩ := hs args H r H' hct
 refine ⟨hcal, fun w L vs hr hsz hvs => calls_of_wp hfn hb ?_⟩
 have hs0 : SR fm fn.ntmps w L ⟨Yxb 0 args, H, H.length⟩ ⟨vs ++ Array.replicate (fn.ntmps - vs.size) undef, []⟩ w := by
  refine ⟨rfl, by simp; omega, fun b hb' => ?_, L, Keep.refl _ _, LStep.refl _ _, hr, fun t => ?_⟩
  ·apply Classical.byContradiction
   intro hlt
   exact hb' ((hr.fresh b).2 (YAa (by simpa using hlt)))
  ·rw [Ykm]
   simp only [Nat.zero_le, if_true, Nat.sub_zero]
   cases hj : args[t]? with
   | none => exact .u _
   | some a =>
     have hlt : t < vs.size := by rw [hsz]; exact (YzN.1 hj).1
     have := hvs t a hj
     rw [Array.getD_eq_getD_getElem?] at this ⊢
     rw [Array.getElem?_append_left hlt]
     exact this
 have post : ∀ a w', (∃ s, (∃ vs, YxF s ts vs /\ Fin s (tupR vs) r H') /\ SR fm fn.ntmps w L s a w') -> a.defers = [] /\ ∃ v, (results fn a.tmps).run P w' = .ok v w' /\
   ∃ v' L', Ending.returned v = .returned v' /\ Keep L w w' /\ LStep L L' w.heap.size /\ HR fm w' L' (hf H') /\ VR fm w' L' v' r := by
  rintro a w' ⟨s, ⟨vs, hvs, hfin⟩, hs⟩
  obtain ⟨h1, h2, h3, L1, h4', h5, h6, h7⟩ := hs
  obtain ⟨k0, ys, k1, k2, k3⟩ := Yfu h6 h7 hres hvs
  obtain ⟨L2, j1, j2, j3⟩ := hfin fm w' L1 _ h6 (Yqs k2 k3)
  exact ⟨h1, _, Yqr (rs := fn.results.toList) (by simp) (by omega) k1, _, L2, rfl, h4', j1 L _ h3 h5, j2, j3⟩
 refine wp_mono (hsat P fm fn.ntmps c hC hm ht w L _ w hs0) (fun e a w' hp => ?_)
 cases e with
 | normal => exact post a w' hp
 | ret => exact post a w' hp
 | exit id => obtain ⟨s, hq, _⟩ := hp; exact hq.elim
 | goto l => exact hp.elim
 | panic ch => exact hp.elim
 | outgrown => exact hp.elim
end Go.Abs
namespace Go.Abs
open Go Go.RowKit
def Z (n : Nat) (X : Heap) : Heap := List.replicate n none ++ X
theorem Yqu (n : Nat) (X : Heap) : (Z n X).length = n + X.length := by simp [Z]
theorem Yfw (n : Nat) (X : Heap) (i : Nat) : (Z n X)[n + i]? = X[i]? := by
 simp only [Z]
 rw [YzU (by simp)]
 simp
theorem Yqv (n : Nat) (X : Heap) (i : Nat) (h : i < n) : (Z n X)[i]? = some none := by
 simp only [Z]
 rw [YzS (by simpa using h)]
 simp [h]
theorem Ykn (n : Nat) (a : Nat) (o : AObj) : hf (Z n []) a ≠ some (some o) := by
 simp only [hf, Z, YAk, YAl]
 split <;> simp
def Yyp (R : List AV -> AV -> Prop) : Yw1 := fun args H r H' => ∃ n, H = Z n [] /\ H' = H /\ (∀ a ∈ args, NR a) /\ NR r /\ R args r
def Out (H : Heap) (a r : AV) : Prop := Cz id (fun _ => True) (hf H) (fun _ => none) a r
def RetP (n : Nat) (ts : List RV) (r : AV) : Ex -> ASt -> Prop
 | .exit _, _ => False
 | _, s => s.base = n /\ ∃ vs, YxF s ts vs /\ Out s.heap (tupR vs) r
theorem Yqw {H : Heap} {H' : HF} {a r : AV} (h : Out H a r) : Cz id (fun _ => True) (hf H) H' a r := by
 unfold Out at h
 induction h with
 | u a => exact .u a
 | v x => exact .v x
 | emp => exact .emp
 | empRd es => exact .empRd es
 | rd es l l' hl hz h ih => exact .rd es l l' hl hz ih
 | rp cs cs' hl h ih => exact .rp cs cs' hl ih
 | agg cs cs' hl h ih => exact .agg cs cs' hl ih
 | tup cs cs' hl h ih => exact .tup cs cs' hl ih
 | clo f cs cs' hl h ih => exact .clo f cs cs' hl ih
 | ref a off len o h => cases h
 | ptr a i j o h => cases h
 | np a o h => cases h
 | frz i off len o l' hz ho hle hl hlz h ih => exact .frz i off len o l' hz ho hle hl hlz ih
theorem Yko {s : ASt} {n : Nat} (hb : s.base = n) {rv r : AV} (h : Out s.heap rv r) : Fin s rv r (Z n []) := by
 refine Ykl id (fun _ => True) ⟨fun a b o o' ha => absurd ha (Ykn n a o), fun a ha => ⟨rfl, fun _ => ?_⟩, fun a o ha => absurd ha (Ykn n a o)⟩ (Yqw h)
 rw [hb] at ha
 simp [hf, Yqv n [] a ha]
theorem Yqx {P : Program} {fm : FM} {C : Ctx} (hC : CtxOK P fm C) (hm : P.follows .mixedOrders = true) {f : FuncId} {n : Nat} {ts : List RV} {ac : ACode} (h : fnTr P fm C.pf f = some (n, ts, ac))
  (h4 : ts.length <= 4) {R : List AV -> AV -> Prop} (hs : ∀ args r, R args r -> args.length <= n /\ ∀ k, Sat C ac (RetP k ts r) ⟨Yxb 0 args, Z k [], k⟩) : FOK P fm f (Yyp R) := by
 refine Yfv hC hm h h4 ?_
 rintro args H r H' ⟨k, rfl, rfl, hna, hnr, hR⟩
 obtain ⟨h1, h2⟩ := hs args r hR
 refine ⟨h1, ?_⟩
 have := (h2 k).mono (Q' := RetQ ts r (Z k [])) (fun e s hq => by
  cases e with
  | exit id => exact hq
  | nor => obtain ⟨hb, vs, h1, h2⟩ := hq; exact ⟨vs, h1, Yko hb h2⟩
  | ret => obtain ⟨hb, vs, h1, h2⟩ := hq; exact ⟨vs, h1, Yko hb h2⟩)
 simpa [Yqu] using this
def ElC (l l' : List (List AV)) : Prop := l.length = l'.length /\ ∀ (i : Nat) (e e' : List AV), l[i]? = some e -> l'[i]? = some e' ->
 e.length = e'.length /\ ∀ (j : Nat) (x x' : AV), e[j]? = some x -> e'[j]? = some x' -> Coe x x' /\ NR x'
theorem ElC.refl {l : List (List AV)} (h : ∀ e ∈ l, ∀ x ∈ e, NR x) : ElC l l := by
 refine ⟨rfl, fun i e e' he he' => ?_⟩
 rw [he] at he'; injection he' with he'; subst he'
 refine ⟨rfl, fun j x x' hx hx' => ?_⟩
 rw [hx] at hx'; injection hx' with hx'; subst hx'
 exact ⟨.refl _, h e (YzQ he) x (YzQ hx)⟩
theorem Ykp {ρ : Nat -> Nat} {Fz : Nat -> Prop} {H H' : HF} {b : AV} (hn : NR b) : Cz ρ Fz H H' b b := by
 induction hn with
 | v x => exact .v x
 | u => exact .u _
 | emp => exact .emp
 | rd es l h ih =>
   refine .rd es l l rfl (fun i e e' he he' => by rw [he] at he'; injection he' with he'; rw [he']) (fun i e e' j x x' he he' hx hx' => ?_)
   rw [he] at he'; injection he' with he'; subst he'
   rw [hx] at hx'; injection hx' with hx'; subst hx'
   exact ih e (YzQ he) x (YzQ hx)
 | rp cs h ih =>
   refine .rp cs cs rfl (fun j x x' hx hx' => ?_)
   rw [hx] at hx'; injection hx' with hx'; subst hx'
   exact ih x (YzQ hx)
 | agg cs h ih =>
   refine .agg cs cs rfl (fun j x x' hx hx' => ?_)
   rw [hx] at hx'; injection hx' with hx'; subst hx'
   exact ih x (YzQ hx)
 | tup cs h ih =>
   refine .tup cs cs rfl (fun j x x' hx hx' => ?_)
   rw [hx] at hx'; injection hx' with hx'; subst hx'
   exact ih x (YzQ hx)
 | clo f cs h ih =>
   refine .clo f cs cs rfl (fun j x x' hx hx' => ?_)
   rw [hx] at hx'; injection hx' with hx'; subst hx'
   exact ih x (YzQ hx)
theorem YbA {ρ : Nat -> Nat} {Fz : Nat -> Prop} {H H' : HF} {a b : AV} (hc : Coe a b) : NR b -> Cz ρ Fz H H' a b := by
 induction hc with
 | refl a => exact Ykp
 | empRd es => intro _; exact .empRd es
 | rd es l l' hl hlz h ih =>
   intro hn
   cases hn with
   | rd es l' hn => exact .rd es l l' hl hlz (fun i e e' j x x' h1 h2 h3 h4 => ih i e e' j x x' h1 h2 h3 h4 (hn e' (YzQ h2) x' (YzQ h4)))
 | rp cs cs' hl h ih =>
   intro hn
   cases hn with
   | rp cs' hn => exact .rp cs cs' hl (fun j x x' h3 h4 => ih j x x' h3 h4 (hn x' (YzQ h4)))
 | agg cs cs' hl h ih =>
   intro hn
   cases hn with
   | agg cs' hn => exact .agg cs cs' hl (fun j x x' h3 h4 => ih j x x' h3 h4 (hn x' (YzQ h4)))
 | tup cs cs' hl h ih =>
   intro hn
   cases hn with
   | tup cs' hn => exact .tup cs cs' hl (fun j x x' h3 h4 => ih j x x' h3 h4 (hn x' (YzQ h4)))
 | clo f cs cs' hl h ih =>
   intro hn
   cases hn with
   | clo f cs' hn => exact .clo f cs cs' hl (fun j x x' h3 h4 => ih j x x' h3 h4 (hn x' (YzQ h4)))
def rho (n : Nat) (src : List Nat) (a : Nat) : Nat := if a < n then a else n + src.getD (a - n) 0
theorem Ykq (n : Nat) {src : List Nat} {i k : Nat} (h : src[i]? = some k) : rho n src (n + i) = n + k := by
 unfold rho
 rw [if_neg (by omega), show n + i - n = i by omega]
 simp [List.getD, h]
def CZ (n : Nat) (src : List Nat) (X Y : Heap) (a b : AV) : Prop := Cz (rho n src) (fun a => n <= a /\ a - n ∉ src) (hf (Z n X)) (hf (Z n Y)) a b
theorem CZ.u {n : Nat} {src : List Nat} {X Y : Heap} (a : AV) : CZ n src X Y a .u := Cz.u a
theorem CZ.val {n : Nat} {src : List Nat} {X Y : Heap} {a b : AV} (h : Coe a b) (hn : NR b) : CZ n src X Y a b := YbA h hn
theorem CZ.ref {n : Nat} {src : List Nat} {X Y : Heap} {k i off len : Nat} {o : AObj} (h : src[i]? = some k) (ho : Y[i]? = some (some o)) : CZ n src X Y (.ref (n + k) off len) (.ref (n + i) off len) := by
 have := Cz.ref (ρ := rho n src) (Fz := fun a => n <= a /\ a - n ∉ src) (H := hf (Z n X)) (H' := hf (Z n Y)) (n + i) off len o (by simp only [hf, Yfw]; exact ho)
 rwa [Ykq n h] at this
theorem CZ.ptr {n : Nat} {src : List Nat} {X Y : Heap} {k i a b : Nat} {o : AObj} (h : src[i]? = some k) (ho : Y[i]? = some (some o)) : CZ n src X Y (.ptr (n + k) a b) (.ptr (n + i) a b) := by
 have := Cz.ptr (ρ := rho n src) (Fz := fun a => n <= a /\ a - n ∉ src) (H := hf (Z n X)) (H' := hf (Z n Y)) (n + i) a b o (by simp only [hf, Yfw]; exact ho)
 rwa [Ykq n h] at this
theorem CZ.frz {n : Nat} {src : List Nat} {X Y : Heap} {k off len : Nat} {o : AObj} {l' : List (List AV)} (hk : k ∉ src) (ho : X[k]? = some (some o)) (hle : off + len <= o.el.length)
  (hl : ElC ((o.el.drop off).take len) l') : CZ n src X Y (.ref (n + k) off len) (.rd (wd o.es) l') := by
 have hlen : len = l'.length := by rw [<- hl.1]; simp; omega
 have hsub : ∀ (k : Nat) (e e' : List AV), o.el[off + k]? = some e -> l'[k]? = some e' -> ((o.el.drop off).take len)[k]? = some e := by
  intro k e e' h1 h2
  have := (YzN.1 h2).1
  rw [Yz3, if_pos (by omega), Yz8]; exact h1
 exact Cz.frz (n + k) off len o l' ⟨by omega, by rwa [show n + k - n = k by omega]⟩ (by simp only [hf, Yfw]; exact ho) hle hlen (fun k e e' h1 h2 => (hl.2 k e e' (hsub k e e' h1 h2) h2).1)
  (fun k e e' j x x' h1 h2 h3 h4 => YbA ((hl.2 k e e' (hsub k e e' h1 h2) h2).2 j x x' h3 h4).1 ((hl.2 k e e' (hsub k e e' h1 h2) h2).2 j x x' h3 h4).2)
theorem Ykr {env : Env} {H : Heap} {b t es : Nat} (he : YwJ env t = .emp) (hes : 0 < es) : Wk ⟨env, H, b⟩ ⟨(t, .ref H.length 0 0) :: env, H ++ [some ⟨es, []⟩], b⟩ := by
 intro fm n w0 L0 a w hs
 obtain ⟨h1, h2, h3, L, h4, h5, h6, h7⟩ := hs
 obtain ⟨k1, k2⟩ := YbS h6 (nid := H.length) (by simp [hf]) (es := es) w0.heap.size false (fun h => absurd h (by omega))
 have k2' : LStep L (fun a => if a = H.length then .nil false else L a) w.heap.size := (YbS h6 (nid := H.length) (by simp [hf]) (es := es) w.heap.size false (fun h => absurd h (by omega))).1
 rw [hf_push] at k2
 refine ⟨h1, h2, h3, _, h4, h5.trans k1, k2, fun s => ?_⟩
 simp only [YwJ]
 by_cases e : t = s
 ·subst e
  simp only [beq_self_eq_true, cond_true]
  have := h7 t
  simp only [he] at this
  obtain ⟨A, hA⟩ := YaM this
  rw [hA]
  exact .refNil A H.length false (by simp) (fun h => by cases h)
 ·have h1 : (t == s) = false := by simp [e]
  rw [h1, cond_false]
  exact (h7 s).mono (Keep.refl _ _) k2'
end Go.Abs
namespace Go.Abs
open Go Go.RowKit
def Yzu : List (Nat × Yw1) -> Nat -> Yw1
 | [], _ => fun _ _ _ _ => False
 | (k, c) :: r, g => bif k == g then c else Yzu r g
def Yzv (pf : Nat -> Bool) (l : List (Nat × Yw1)) : Ctx := ⟨Yzu l, pf⟩
structure Pure (c : Yw1) : Prop where
 nr : ∀ args H r H', c args H r H' -> (∀ a ∈ args, NR a) /\ NR r /\ H' = H
 any : ∀ args r n, c args [] r [] -> c args (List.replicate n none) r (List.replicate n none)
theorem Yqy (R : List AV -> AV -> Prop) : Pure (Yyp R) :=
 ⟨fun args H r H' ⟨_, _, h2, h3, h4, _⟩ => ⟨h3, h4, h2⟩, fun args r n ⟨_, _, _, h3, h4, h5⟩ => ⟨n, by simp [Z], rfl, h3, h4, h5⟩⟩
theorem Yqz (P : Program) (fm : FM) (pf : Nat -> Bool) : CtxOK P fm (Yzv pf []) :=
 ⟨fun _ _ _ _ _ h => h.elim, fun _ _ _ _ _ _ h => h.elim, fun _ _ _ _ _ h => h.elim⟩
theorem Yks : ∀ as : List AV, All2 Coe as as
 | [] => trivial
 | a :: as => ⟨.refl a, Yks as⟩
end Go.Abs
namespace Go.Abs
open Go Go.RowKit
def Yxd : Nat -> Loc := fun _ => .fresh
theorem Ykt (b : Nat) : ¬ OwnC Yxd b := fun h => h.elim (fun ⟨_, _, _, h⟩ => by cases h) (fun ⟨_, _, h⟩ => by cases h)
theorem YqA (b : Nat) : ¬ Yw5 Yxd b := fun h => h.elim (Ykt b) (fun ⟨_, h⟩ => by cases h)
theorem YqB (fm : FM) (w : World) : HR fm w Yxd (hf (Z 0 [])) := by
 refine ⟨fun a o h => ?_, fun a h => ?_, fun a => ?_, fun a b g e c e' c' h => ?_, fun a g h => ?_, fun a o g es cap h1 h2 h3 => (by cases h3), fun a i g h => by cases h⟩
 ·simp [hf, Z] at h
 ·rcases h with ⟨_, _, _, h⟩ | ⟨_, h⟩ <;> cases h
 ·simp [Yxd, hf, Z]
 ·cases h
 ·cases h
section
variable {H : Type} {enc : TypeId × Value -> H} {P : Program} {w : World} {base : Nat} {spare : Nat -> Bool} {held : Bool} {fm : FM}
structure BulkOK (bulk : DataW H -> Nat) (all : List (DataW H) -> Nat) : Prop where
 str : ∀ l : List UInt8, l.length + 1 <= bulk (.lit (.string l))
 slice : ∀ e s, all e + 1 <= bulk (.slice e s)
 agg : ∀ e, all e <= bulk (.agg e)
 nil : 1 <= bulk .nil
 lit : ∀ l, 1 <= bulk (.lit l)
 cons : ∀ d r, bulk d + all r <= all (d :: r)
def Yzb (fm : FM) (w : World) (cs : List Value) (o : Nat) (as : List AV) : Prop := ∀ j v a, cs[o + j]? = some v -> as[j]? = some a -> v.oneCell' = true /\ VR fm w Yxd v a
variable (enc P w base spare held fm)
def Reads (bulk : DataW H -> Nat) (t : TypeId) (es : Nat) {X : Type} (e : X -> List AV) (sz : X -> Nat) (ok : X -> Prop) : Prop :=
 ∀ fuel cs d ps, DataW.trod enc P w base spare held fuel t cs = some (d, ps) -> ∃ x, ok x /\ cs.length = es /\ (e x).length = es /\ sz x <= bulk d /\ Yzb fm w cs 0 (e x)
def Yx4 (all : List (DataW H) -> Nat) (fs : List Field) (o es : Nat) {X : Type} (e : X -> List AV) (sz : X -> Nat) (ok : X -> Prop) : Prop :=
 ∀ fuel cs xs, (fs.mapM fun f => DataW.trod enc P w base spare held fuel f.type ((cs.drop f.offset).take (P.cellsOf f.type))) = some xs -> o + es <= cs.length ->
   ∃ x, ok x /\ (e x).length = es /\ sz x <= all (xs.map (·.1)) /\ Yzb fm w cs o (e x)
variable {enc P w base spare held fm}
theorem Reads.conv {bulk : DataW H -> Nat} {t : TypeId} {es : Nat} {X Y : Type} {e : X -> List AV} {sz : X -> Nat} {ok : X -> Prop} {e' : Y -> List AV} {sz' : Y -> Nat} {ok' : Y -> Prop}
  (h : Reads enc P w base spare held fm bulk t es e sz ok) (hc : ∀ x, ok x -> ∃ y, ok' y /\ e x = e' y /\ sz' y <= sz x) : Reads enc P w base spare held fm bulk t es e' sz' ok' := by
 intro fuel cs d ps hd
 obtain ⟨x, h1, h2, h3, h4, h5⟩ := h fuel cs d ps hd
 obtain ⟨y, k1, k2, k3⟩ := hc x h1
 exact ⟨y, k1, h2, by rw [<- k2]; exact h3, Nat.le_trans k3 h4, by rw [<- k2]; exact h5⟩
theorem Ycz {v : Value} {a : AV} (h1 : v.oneCell' = true) (h : VR fm w Yxd v a) : Yzb fm w [v] 0 [a] := by
 intro j x y hx hy
 cases j with
 | zero => simp at hx hy; subst hx; subst hy; exact ⟨h1, h⟩
 | succ j => simp at hy
theorem YqC {bulk : DataW H -> Nat} {all : List (DataW H) -> Nat} (hb : BulkOK bulk all) {t : TypeId} {k : IntKind} (ht : P.underlying t = some (.int k)) :
  Reads enc P w base spare held fm bulk t 1 (fun n : Int => [.v (.int k n)]) (fun _ => 1) (fun n => (Lit.int k n).wf = true) := by
 intro fuel cs d ps hd
 cases fuel with
 | zero => cases hd
 | succ fuel =>
   unfold DataW.trod at hd
   rw [ht] at hd
   simp only at hd
   split at hd <;> try cases hd
   all_goals (try (simp_all; done))
   rename_i k1 k2 n hk
   injection hk with hk; injection hk with hk; subst hk
   split at hd
   ·rename_i hc
    injection hd with hd; injection hd with hd _; subst hd
    obtain ⟨rfl, hwf⟩ := hc
    exact ⟨n, hwf, rfl, rfl, hb.lit _, Ycz rfl (.v _)⟩
   ·cases hd
theorem YqD {bulk : DataW H -> Nat} {all : List (DataW H) -> Nat} (hb : BulkOK bulk all) {t : TypeId} (ht : P.underlying t = some .bool) :
  Reads enc P w base spare held fm bulk t 1 (fun b : Bool => [.v (.bool b)]) (fun _ => 1) (fun _ => True) := by
 intro fuel cs d ps hd
 cases fuel with
 | zero => cases hd
 | succ fuel =>
   unfold DataW.trod at hd
   rw [ht] at hd
   simp only at hd
   split at hd <;> try cases hd
   all_goals (try (simp_all; done))
   rename_i b hk
   exact ⟨b, trivial, rfl, rfl, hb.lit _, Ycz rfl (.v _)⟩
theorem YqE {bulk : DataW H -> Nat} {all : List (DataW H) -> Nat} (hb : BulkOK bulk all) {t : TypeId} (ht : P.underlying t = some .string) :
  Reads enc P w base spare held fm bulk t 1 (fun s : ByteArray => [.v (.string s)]) (fun s => s.size + 1) (fun _ => True) := by
 intro fuel cs d ps hd
 cases fuel with
 | zero => cases hd
 | succ fuel =>
   unfold DataW.trod at hd
   rw [ht] at hd
   simp only at hd
   split at hd <;> try cases hd
   all_goals (try (simp_all; done))
   rename_i s hk
   split at hd
   ·injection hd with hd; injection hd with hd _; subst hd
    exact ⟨s, trivial, rfl, rfl, by have := hb.str s.data.toList; rw [Array.length_toList] at this; exact this, Ycz rfl (.v _)⟩
   ·cases hd
theorem Yfx {α β : Type} {f : α -> Option β} : ∀ {l : List α} {r : List β}, l.mapM f = some r -> r.length = l.length /\ ∀ (i : Nat) (x : α), l[i]? = some x -> ∃ y, r[i]? = some y /\ f x = some y
 | [], r, h => by simp at h; subst h; exact ⟨rfl, fun i x hx => by simp at hx⟩
 | a :: l, r, h => by
   rw [List.mapM_cons] at h
   cases h1 : f a with
   | none => simp [h1] at h
   | some b =>
     cases h2 : l.mapM f with
     | none => simp [h1, h2] at h
     | some bs =>
       simp [h1, h2] at h
       subst h
       obtain ⟨k1, k2⟩ := Yfx h2
       refine ⟨by simp [k1], fun i x hx => ?_⟩
       cases i with
       | zero => simp at hx; subst hx; exact ⟨b, rfl, h1⟩
       | succ i => simpa using k2 i x (by simpa using hx)
theorem YqF {all : List (DataW H) -> Nat} (o : Nat) : Yx4 enc P w base spare held fm all [] o 0 (fun _ : Unit => []) (fun _ => 0) (fun _ => True) := by
 intro fuel cs xs h _
 exact ⟨(), trivial, rfl, Nat.zero_le _, fun j v a _ h => by simp at h⟩
theorem YqG {bulk : DataW H -> Nat} {all : List (DataW H) -> Nat} (hb : BulkOK bulk all) {f : Field} {r : List Field} {o es es2 : Nat} {X Y : Type} {e : X -> List AV} {sz : X -> Nat} {ok : X -> Prop}
  {e2 : Y -> List AV} {sz2 : Y -> Nat} {ok2 : Y -> Prop} (ho : f.offset = o) (hc : P.cellsOf f.type = es) (h1 : Reads enc P w base spare held fm bulk f.type es e sz ok)
  (h2 : Yx4 enc P w base spare held fm all r (o + es) es2 e2 sz2 ok2) :
  Yx4 enc P w base spare held fm all (f :: r) o (es + es2) (fun x : X × Y => e x.1 ++ e2 x.2) (fun x => sz x.1 + sz2 x.2) (fun x => ok x.1 /\ ok2 x.2) := by
 intro fuel cs xs h hle
 rw [List.mapM_cons] at h
 cases h3 : DataW.trod enc P w base spare held fuel f.type ((cs.drop f.offset).take (P.cellsOf f.type)) with
 | none => simp [h3] at h
 | some b =>
   cases h4 : (r.mapM fun f => DataW.trod enc P w base spare held fuel f.type ((cs.drop f.offset).take (P.cellsOf f.type))) with
   | none => simp [h3, h4] at h
   | some bs =>
     simp [h3, h4] at h
     subst h
     obtain ⟨x, k1, k2, k3, k4, k5⟩ := h1 fuel _ b.1 b.2 h3
     obtain ⟨y, j1, j2, j3, j4⟩ := h2 fuel cs bs h4 (by omega)
     refine ⟨(x, y), ⟨k1, j1⟩, by simp [k3, j2], ?_, fun j v a hv ha => ?_⟩
     ·have := hb.cons b.1 (bs.map (·.1))
      show sz x + sz2 y <= all (b.1 :: bs.map (·.1))
      omega
     ·replace ha : (e x ++ e2 y)[j]? = some a := ha
      by_cases hj : j < es
      ·rw [YzS (by omega)] at ha
       refine k5 j v a ?_ ha
       rw [ho, hc, Yz3, if_pos (by omega), Yz8]
       simpa using hv
      ·rw [YzU (by omega), k3] at ha
       refine j4 (j - es) v a ?_ ha
       rw [show o + es + (j - es) = o + j by omega]; exact hv
theorem YqH {bulk : DataW H -> Nat} {all : List (DataW H) -> Nat} (hb : BulkOK bulk all) {t : TypeId} {fs : Array Field} {es : Nat} {X : Type} {e : X -> List AV} {sz : X -> Nat} {ok : X -> Prop}
  (ht : P.underlying t = some (.struct fs)) (hc : P.cellsOf t = es) (h : Yx4 enc P w base spare held fm all fs.toList 0 es e sz ok) : Reads enc P w base spare held fm bulk t es e sz ok := by
 intro fuel cs d ps hd
 cases fuel with
 | zero => cases hd
 | succ fuel =>
   unfold DataW.trod at hd
   rw [ht] at hd
   simp only at hd
   have hd' : cs.length = P.cellsOf t /\ ∃ xs, (fs.toList.mapM fun f => DataW.trod enc P w base spare held fuel f.type ((cs.drop f.offset).take (P.cellsOf f.type))) = some xs /\ d = .agg (xs.map (·.1)) := by
    split at hd
    ·rename_i hl
     simp only [Option.map_eq_some_iff] at hd
     obtain ⟨xs, h1, h2⟩ := hd
     injection h2 with h2 _
     exact ⟨hl, xs, h1, h2.symm⟩
    ·cases hd
   obtain ⟨hl, xs, hx, rfl⟩ := hd'
   obtain ⟨x, k1, k2, k3, k4⟩ := h fuel cs xs hx (by omega)
   exact ⟨x, k1, by omega, k2, Nat.le_trans k3 (hb.agg _), k4⟩
theorem Yku {X : Type} {Pr : Nat -> X -> Prop} : ∀ (n : Nat), (∀ i, i < n -> ∃ x, Pr i x) -> ∃ l : List X, l.length = n /\ ∀ i x, l[i]? = some x -> Pr i x
 | 0, _ => ⟨[], rfl, fun i x h => by simp at h⟩
 | n + 1, h => by
   obtain ⟨l, h1, h2⟩ := Yku n (fun i hi => h i (by omega))
   obtain ⟨x, hx⟩ := h n (by omega)
   refine ⟨l ++ [x], by simp [h1], fun i y hy => ?_⟩
   by_cases hi : i < l.length
   ·rw [YzS hi] at hy; exact h2 i y hy
   ·rw [YzU (by omega)] at hy
    have : i - l.length = 0 := by
     have := (YzN.1 hy).1; simp at this; omega
    rw [this] at hy
    simp at hy; subst hy
    have : i = n := by omega
    subst this; exact hx
theorem Ykv {bulk : DataW H -> Nat} {all : List (DataW H) -> Nat} (hb : BulkOK bulk all) {X : Type} {sz : X -> Nat} : ∀ {l : List X} {ds : List (DataW H)}, l.length = ds.length -> (∀ (i : Nat) (x : X) (d : DataW H), l[i]? = some x -> ds[i]? = some d -> sz x <= bulk d) -> (l.map sz).sum <= all ds
 | [], [], _, _ => Nat.zero_le _
 | x :: l, d :: ds, hl, h => by
   have h1 := Ykv hb (l := l) (ds := ds) (by simpa using hl) (fun i y e hy he => h (i + 1) y e (by simpa using hy) (by simpa using he))
   have h2 := h 0 x d rfl rfl
   have := hb.cons d ds
   simp only [YzR, List.sum_cons]
   omega
 | [], _ :: _, hl, _ => by simp at hl
 | _ :: _, [], hl, _ => by simp at hl
theorem Ykw {a : Addr} (h : a.spot = none) (n : Nat) : a.add n = ⟨a.block, a.off + n, none⟩ := by
 obtain ⟨b, o, s⟩ := a
 subst h
 unfold Addr.add
 split
 ·rename_i h; subst h; rfl
 ·rfl
theorem YqI {w : World} {base : Nat} {a : Addr} {n : Nat} {cs : List Value} (h : w.cells? base a n = some cs) : cs.length = n /\ ∀ j v, cs[j]? = some v -> w.cell? (a.add j) = some v := by
 unfold World.cells? at h
 split at h
 ·obtain ⟨h1, h2⟩ := Yfx h
  refine ⟨by simpa using h1, fun j v hv => ?_⟩
  have hj : j < n := by have := (YzN.1 hv).1; simp at h1; omega
  obtain ⟨y, k1, k2⟩ := h2 j j (by simp [hj])
  rw [hv] at k1; injection k1 with k1; subst k1; exact k2
 ·cases h
theorem YqJ {w : World} {a : Addr} {v : Value} (h : w.cell? a = some v) : a.spot = none /\ a.block < w.heap.size := by
 unfold World.cell? at h
 split at h
 ·rename_i c t f hc
  split at h
  ·cases h
  ·rename_i hs; exact ⟨by simpa using hs, (Array.getElem?_eq_some_iff.1 hc).1⟩
 ·cases h
theorem YqK {u : TypeId} {es : Nat} {X : Type} {e : X -> List AV} {sz : X -> Nat} {ok : X -> Prop} {bulk : DataW H -> Nat} {all : List (DataW H) -> Nat} (hb : BulkOK bulk all) (hes : 0 < es)
  (h : Reads enc P w base spare held fm bulk u es e sz ok) {fuel len cap : Nat} {a : Addr} (hlc : len <= cap) {elems : List (DataW H × List MemPlace)}
  (hm : ((List.range len).mapM fun i => (w.cells? base (a.add (i * es)) es).bind (DataW.trod enc P w base spare held fuel u)) = some elems) :
  ∃ l : List X, (∀ x ∈ l, ok x) /\ (l.map sz).sum <= all (elems.map (·.1)) /\ VR fm w Yxd (.slice (some a) len cap) (.rd es (l.map e)) := by
 obtain ⟨h1, h2⟩ := Yfx hm
 simp only [List.length_range] at h1
 have each : ∀ i, i < len -> ∃ x : X, ok x /\ (e x).length = es /\ (∀ d, elems[i]? = some d -> sz x <= bulk d.1) /\
   ∀ j c, (e x)[j]? = some c -> ∃ v, w.cell? ((a.add (i * es)).add j) = some v /\ v.oneCell' = true /\ VR fm w Yxd v c := by
  intro i hi
  obtain ⟨y, k1, k2⟩ := h2 i i (by simp [hi])
  simp only [Option.bind_eq_some_iff] at k2
  obtain ⟨cs, k3, k4⟩ := k2
  obtain ⟨l1, l2⟩ := YqI k3
  obtain ⟨x, m1, m2, m3, m4, m5⟩ := h fuel cs y.1 y.2 k4
  refine ⟨x, m1, m3, fun d hd => by rw [k1] at hd; injection hd with hd; subst hd; exact m4, fun j c hc => ?_⟩
  have hj : j < cs.length := by have := (YzN.1 hc).1; omega
  have hv : cs[j]? = some cs[j] := YzO hj
  obtain ⟨n1, n2⟩ := m5 j cs[j] c (by simp) hc
  exact ⟨cs[j], l2 j _ hv, n1, n2⟩
 obtain ⟨l, g1, g2⟩ := Yku len each
 refine ⟨l, fun x hx => ?_, Ykv hb (by simp [g1, h1]) (fun i x d hx hd => ?_), ?_⟩
 ·obtain ⟨i, hi⟩ := Yz1.1 hx; exact (g2 i x hi).1
 ·rw [YzP] at hd
  cases hy : elems[i]? with
  | none => simp [hy] at hd
  | some y => simp [hy] at hd; subst hd; exact (g2 i x hx).2.2.1 y hy
 ·by_cases h0 : len = 0
  ·subst h0
   have : l = [] := YzY.1 g1
   subst this
   exact .rd0 _ es cap
  ·have hx0 : ∃ x, l[0]? = some x := ⟨l[0], YzO (by omega)⟩
   obtain ⟨x0, hx0⟩ := hx0
   obtain ⟨_, q1, _, q2⟩ := g2 0 x0 hx0
   obtain ⟨v0, r1, _⟩ := q2 0 ((e x0)[0]) (YzO (by omega))
   have hsp0 := YqJ r1
   have hsp : a.spot = none /\ a.block < w.heap.size := by
    have : (a.add (0 * es)).add 0 = a := by simp [Addr.add]
    rwa [this] at hsp0
   have haddr : ∀ i j, (a.add (i * es)).add j = ⟨a.block, a.off + i * es + j, none⟩ := by
    intro i j; rw [Ykw hsp.1, Ykw rfl]
   have ha : a = ⟨a.block, a.off, none⟩ := by
    obtain ⟨b, o, s⟩ := a
    have : s = none := hsp.1
    subst this; rfl
   have get : ∀ (i : Nat) (el : List AV) (j : Nat) (c : AV), (l.map e)[i]? = some el -> el[j]? = some c -> ∃ v, w.cell? ⟨a.block, a.off + i * es + j, none⟩ = some v /\ v.oneCell' = true /\ VR fm w Yxd v c := by
    intro i el j c hi hj
    rw [YzP] at hi
    cases hx : l[i]? with
    | none => simp [hx] at hi
    | some x =>
      simp [hx] at hi; subst hi
      obtain ⟨v, t1, t2, t3⟩ := (g2 i x hx).2.2.2 j c hj
      rw [haddr] at t1
      exact ⟨v, t1, t2, t3⟩
   have hlen : (l.map e).length = len := by simp [g1]
   have := VR.rd (fm := fm) (w := w) (L := Yxd) a.block a.off cap es (l.map e) (fun i j => (w.cell? ⟨a.block, a.off + i * es + j, none⟩).getD undef)
    (fun hn => h0 (by rw [<- hlen, hn]; rfl)) (fun el hel => by
     obtain ⟨x, hx, rfl⟩ := Yz5.1 hel
     obtain ⟨i, hi⟩ := Yz1.1 hx
     exact (g2 i x hi).2.1) hes (by rw [hlen]; exact hlc) (YqA _) hsp.2
    (fun i el j c hi hj => by obtain ⟨v, t1, _⟩ := get i el j c hi hj; rw [t1]; rfl)
    (fun i el j c hi hj => by obtain ⟨v, t1, t2, _⟩ := get i el j c hi hj; rw [t1]; exact t2)
    (fun i el j c hi hj => by obtain ⟨v, t1, _, t3⟩ := get i el j c hi hj; rw [t1]; exact t3)
   rw [hlen] at this
   rw [ha]; exact this
theorem YqL {bulk : DataW H -> Nat} {all : List (DataW H) -> Nat} (hb : BulkOK bulk all) {t u : TypeId} {es : Nat} {X : Type} {e : X -> List AV} {sz : X -> Nat} {ok : X -> Prop}
  (ht : P.underlying t = some (.slice u)) (hc : P.cellsOf u = es) (hes : 0 < es) (h : Reads enc P w base spare held fm bulk u es e sz ok) :
  Reads enc P w base spare held fm bulk t 1 (fun l : List X => [.rd es (l.map e)]) (fun l => (l.map sz).sum + 1) (fun l => ∀ x ∈ l, ok x) := by
 intro fuel cs d ps hd
 cases fuel with
 | zero => cases hd
 | succ fuel =>
   unfold DataW.trod at hd
   rw [ht] at hd
   simp only at hd
   split at hd
   all_goals (try (simp_all; done))
   ·rename_i hk
    injection hd with hd; injection hd with hd _; subst hd
    exact ⟨[], fun x hx => (by cases hx), rfl, rfl, by simpa using hb.nil, Ycz rfl (.rd0 none es 0)⟩
   ·rename_i u' a len cap hk
    injection hk with hk; injection hk with hk; subst hk
    rw [hc] at hd
    split at hd
    ·rename_i hcond
     simp only [Option.bind_eq_some_iff, Option.map_eq_some_iff] at hd
     obtain ⟨elems, h1, rest, h2, h3⟩ := hd
     injection h3 with h3 _; subst h3
     obtain ⟨l, k1, k2, k3⟩ := YqK hb hes h hcond.2.1 h1
     refine ⟨l, k1, rfl, rfl, ?_, Ycz rfl k3⟩
     have := hb.slice (elems.map (·.1)) (rest.map (·.1))
     show (l.map sz).sum + 1 <= _
     omega
    ·cases hd
end
end Go.Abs
namespace Go.Abs
open Go Go.RowKit
mutual
inductive Ty where
 | i (k : IntKind)
 | b
 | s
 | l (c : Cs)
inductive Cs where
 | nil
 | cons (t : Ty) (r : Cs)
end
instance : Inhabited Ty := ⟨.b⟩
instance : Inhabited Cs := ⟨.nil⟩
def pairT (A B : Type) : Cs -> Type
 | .nil => A
 | .cons _ _ => A × B
mutual
def Ty.den : Ty -> Type
 | .i _ => Int
 | .b => Bool
 | .s => ByteArray
 | .l c => List c.den
def Cs.den : Cs -> Type
 | .nil => Unit
 | .cons t r => pairT t.den r.den r
end
def fstP {A B : Type} : (r : Cs) -> pairT A B r -> A
 | .nil, x => x
 | .cons _ _, x => x.1
def sndP {A : Type} : (r : Cs) -> pairT A r.den r -> r.den
 | .nil, _ => ()
 | .cons _ _, x => x.2
def mkP {A : Type} : (r : Cs) -> A -> r.den -> pairT A r.den r
 | .nil, a, _ => a
 | .cons _ _, a, b => (a, b)
theorem YbB {A : Type} (r : Cs) (a : A) (b : r.den) : fstP r (mkP r a b) = a := by cases r <;> rfl
theorem YbC {A : Type} (r : Cs) (a : A) (b : r.den) : sndP r (mkP r a b) = b := by cases r <;> rfl
theorem YqM {A : Type} (r : Cs) (x : pairT A r.den r) : mkP r (fstP r x) (sndP r x) = x := by cases r <;> rfl
mutual
def Ty.dft : (t : Ty) -> t.den
 | .i _ => (0 : Int)
 | .b => false
 | .s => ByteArray.mk #[]
 | .l _ => []
def Cs.dft : (c : Cs) -> c.den
 | .nil => ()
 | .cons t r => mkP r t.dft r.dft
end
mutual
def Ty.eqb : Ty -> Ty -> Bool
 | .i k, .i k' => decide (k = k')
 | .b, .b => true
 | .s, .s => true
 | .l c, .l c' => c.eqb c'
 | _, _ => false
def Cs.eqb : Cs -> Cs -> Bool
 | .nil, .nil => true
 | .cons t r, .cons t' r' => t.eqb t' && r.eqb r'
 | _, _ => false
end
mutual
theorem Ty.eq_of : ∀ {a a' : Ty}, a.eqb a' = true -> a = a'
 | .i k, .i k', h => by simp only [Ty.eqb, decide_eq_true_eq] at h; rw [h]
 | .b, .b, _ => rfl
 | .s, .s, _ => rfl
 | .l c, .l c', h => by rw [Cs.eq_of (a := c) (b := c') (by simpa [Ty.eqb] using h)]
 | .i _, .b, h | .i _, .s, h | .i _, .l _, h | .b, .i _, h | .b, .s, h | .b, .l _, h | .s, .i _, h | .s, .b, h | .s, .l _, h | .l _, .i _, h | .l _, .b, h | .l _, .s, h => by simp [Ty.eqb] at h
theorem Cs.eq_of : ∀ {a b : Cs}, a.eqb b = true -> a = b
 | .nil, .nil, _ => rfl
 | .cons t r, .cons t' r', h => by
   simp only [Cs.eqb, Bool.and_eq_true] at h
   rw [Ty.eq_of h.1, Cs.eq_of h.2]
 | .nil, .cons _ _, h | .cons _ _, .nil, h => by simp [Cs.eqb] at h
end
mutual
theorem Ty.eqb_refl : ∀ a : Ty, a.eqb a = true
 | .i k => by simp [Ty.eqb]
 | .b => rfl
 | .s => rfl
 | .l c => by simp [Ty.eqb, Cs.eqb_refl c]
theorem Cs.eqb_refl : ∀ a : Cs, a.eqb a = true
 | .nil => rfl
 | .cons t r => by simp [Cs.eqb, Ty.eqb_refl t, Cs.eqb_refl r]
end
def Ty.cast (t t' : Ty) (v : t.den) : Option t'.den :=
 if h : t.eqb t' = true then some (Eq.mp (congrArg Ty.den (Ty.eq_of h)) v) else none
def Cs.cast (c c' : Cs) (v : c.den) : Option c'.den :=
 if h : c.eqb c' = true then some (Eq.mp (congrArg Cs.den (Cs.eq_of h)) v) else none
theorem Ty.cast_some {t t' : Ty} {v : t.den} {v' : t'.den} (h : t.cast t' v = some v') : ∃ e : t = t', e ▸ v = v' := by
 unfold Ty.cast at h
 split at h
 ·rename_i e
  have e' := Ty.eq_of e
  subst e'
  injection h with h
  exact ⟨rfl, h⟩
 ·cases h
theorem Cs.cast_some {t t' : Cs} {v : t.den} {v' : t'.den} (h : t.cast t' v = some v') : ∃ e : t = t', e ▸ v = v' := by
 unfold Cs.cast at h
 split at h
 ·rename_i e
  have e' := Cs.eq_of e
  subst e'
  injection h with h
  exact ⟨rfl, h⟩
 ·cases h
theorem Cs.cast_refl (c : Cs) (v : c.den) : c.cast c v = some v := by
 unfold Cs.cast
 rw [dif_pos (Cs.eqb_refl c)]
 rfl
def Cs.width : Cs -> Nat
 | .nil => 0
 | .cons _ r => r.width + 1
mutual
def Ty.enc : (t : Ty) -> t.den -> AV
 | .i k, v => .v (.int k v)
 | .b, v => .v (.bool v)
 | .s, v => .v (.string v)
 | .l c, v => .rd c.width (v.map c.enc)
def Cs.enc : (c : Cs) -> c.den -> List AV
 | .nil, _ => []
 | .cons t r, x => t.enc (fstP r x) :: r.enc (sndP r x)
end
theorem Ybl : ∀ (c : Cs) (x : c.den), (c.enc x).length = c.width
 | .nil, _ => rfl
 | .cons t r, x => by simp only [Cs.enc, YAb, Cs.width, Ybl r]
mutual
theorem YcA : ∀ (t : Ty) (v : t.den), NR (t.enc v)
 | .i k, v => .v _
 | .b, v => .v _
 | .s, v => .v _
 | .l c, v => .rd _ _ (fun e he x hx => by
   obtain ⟨y, _, rfl⟩ := Yz5.1 he
   exact YbD c y x hx)
theorem YbD : ∀ (c : Cs) (v : c.den) (x : AV), x ∈ c.enc v -> NR x
 | .nil, _, x, h => by simp [Cs.enc] at h
 | .cons t r, v, x, h => by
   simp only [Cs.enc, Yz4] at h
   rcases h with rfl | h
   ·exact YcA t _
   ·exact YbD r _ x h
end
def Ty.zero : Ty -> Value
 | .i k => .int k 0
 | .b => .bool false
 | .s => .string (ByteArray.mk #[])
 | .l _ => .slice none 0 0
def Cs.zeros : Cs -> List Value
 | .nil => []
 | .cons t r => t.zero :: r.zeros
end Go.Abs
