/- Helpers of the plain laws: loops as states by number, tables, short words. No condition. -/
import Derived.Test.YtkgoecnchnbbfaaB
import Derived.Test.YtkgoecnchnbbfaaG
set_option linter.unusedVariables false
set_option linter.unusedSimpArgs false
set_option linter.unusedSectionVars false
namespace Go.Abs
set_option linter.unusedSimpArgs false
set_option linter.unusedVariables false
theorem wr6 {n : Int} (h0 : -9223372036854775808 <= n) (h1 : n < 9223372036854775808) : IntKind.wrap .i64 n = n := by
 have e : (2 : Int) ^ IntKind.bits .i64 = 18446744073709551616 := rfl
 have e' : (2 : Int) ^ (IntKind.bits .i64 - 1) = 9223372036854775808 := rfl
 have s : IntKind.signed .i64 = true := rfl
 simp only [IntKind.wrap, e, e', s, Bool.true_and, ge_iff_le, decide_eq_true_eq]
 split <;> omega
theorem chkT {β : Type} {p : Prop} [Decidable p] (x : Option β) (h : p) : chk p x = x := by simp [chk, h]
theorem bindS {α β : Type} (a : α) (f : α -> Option β) : Option.bind (some a) f = f a := rfl
def bl (s : ByteArray) : List UInt8 := s.data.toList
theorem byteI_eq (a b : ByteArray) (i j : Nat) : (byteI a i = byteI b j) ↔ a.data.getD i 0 = b.data.getD j 0 := by
 simp only [byteI, Int.toNat_natCast]
 constructor
 ·intro h
  have : (a.data.getD i 0).toNat = (b.data.getD j 0).toNat := by omega
  exact UInt8.toNat_inj.1 this
 ·intro h; rw [h]
end Go.Abs
namespace Go.Abs.G03
open Go Go.Abs
set_option linter.unusedSimpArgs false
set_option linter.unusedVariables false
set_option maxRecDepth 100000
theorem J17_eq {v4_0 : ByteArray} {v4_1 : List ByteArray} {v4_2 : List (Int × List (Int × Int × ByteArray))} {out8 : ByteArray} {clk : Int} {ents : List (Int × ByteArray × List (Int × Int × ByteArray))} {m2 : Bool} {h4 : List ByteArray} {h5 : List (Int × List (Int × Int × ByteArray))}
  {y} (hd : (ents.map (·.1)).Nodup) (hl : ents.length <= maxEl)
  (hy : q36_J17_r loO (v4_0, v4_1, v4_2, out8, clk, ents, m2, ents.map (·.2.1), clk, clk, [], false, h4, h5) = some y) :
  q36_J17 loO (v4_0, v4_1, v4_2, out8, clk, ents, m2, [], h4, h5) = some y := by
 show rngF q36_J17_i (q36_J17_t loO) (q36_J17_r loO) (v4_0, v4_1, v4_2, out8, clk, ents, m2, [], clk, clk, [], false, h4, h5) = some y
 refine rngF_eq (good_collect (p := q36_J17_i) (t := q36_J17_t loO) (r := q36_J17_r loO) (fun sn => (v4_0, v4_1, v4_2, out8, clk, ents, m2, sn.map (kAt (ByteArray.mk #[]) ents), clk, clk, sn, false, h4, h5)) (B := ents.map (·.1)) (c := clk) hd (fun sn => rfl) (fun sn b hb hn hsd hsB => ?_) (fun sn hp => ?_))
 ·obtain ⟨e, he⟩ := mbf_at hb
  have hlen : sn.length < ents.length := by
   have h1 : (sn ++ [b]).Nodup := by
    rw [List.nodup_append]
    exact ⟨hsd, by simp, fun x hx y hy => by rw [List.mem_singleton] at hy; subst hy; intro e; subst e; exact hn hx⟩
   have := List.Nodup.length_le_of_subset h1 (l₂ := ents.map (·.1)) (fun a ha => by
    rcases List.mem_append.1 ha with ha | ha
    ·exact hsB a ha
    ·rw [List.mem_singleton] at ha; subst ha; exact hb)
   simp at this; omega
  simp only [q36_J17_t, addI, List.getLast?_append, List.getLast?_singleton, Option.some_or, Option.bind_some, he, chk, decide_true, cond_true, List.length_map, List.length_singleton]
  have : decide (sn.length + 1 <= maxEl) = true := by simp; omega
  simp only [this, cond_true, List.map_append, List.map_cons, List.map_nil, kAt, he]
 ·have hperm : (sn.map (kAt (ByteArray.mk #[]) ents)).Perm (ents.map (·.2.1)) := by
   rw [<- kAt_map (d := ByteArray.mk #[]) hd]; exact hp.map _
  rw [<- hy]
  show Option.bind (q35 loO (sn.map (kAt (ByteArray.mk #[]) ents))) _ = Option.bind (q35 loO (ents.map (·.2.1))) _
  have e1 : q35 loO (sn.map (kAt (ByteArray.mk #[]) ents)) = q35 loO (ents.map (·.2.1)) := vsortS_perm hperm
  rw [e1]
  have e2 := hperm.length_eq
  congr 1
  funext y152
  rw [e2]
def nodB : List Int -> Bool
 | [] => true
 | a :: r => !(r.any fun b => decide (b = a)) && nodB r
theorem nodB_ok : ∀ {l : List Int}, nodB l = true -> l.Nodup
 | [], _ => List.nodup_nil
 | a :: r, h => by
   simp only [nodB, Bool.and_eq_true, Bool.not_eq_true', List.any_eq_false, decide_eq_true_eq] at h
   exact List.nodup_cons.2 ⟨fun hm => h.1 a hm rfl, nodB_ok h.2⟩
def j17C (lo : Lo) : (ByteArray × (List ByteArray) × (List (Int × (List (Int × Int × ByteArray)))) × ByteArray × Int × (List (Int × ByteArray × (List (Int × Int × ByteArray)))) × Bool × (List ByteArray) × (List ByteArray) × (List (Int × (List (Int × Int × ByteArray))))) -> Option ((Int × ByteArray × (List ByteArray) × (List (Int × (List (Int × Int × ByteArray)))))) := fun x => match x with
 | (v4_0, v4_1, v4_2, out8, clk, ents, m2, keys, h4, h5) => bif keys.isEmpty && (nodB (ents.map (·.1)) && Nat.ble ents.length maxEl) then q36_J17_r lo (v4_0, v4_1, v4_2, out8, clk, ents, m2, ents.map (·.2.1), clk, clk, [], false, h4, h5) else none
theorem j17C_ok {x y} (h : j17C loO x = some y) : q36_J17 loO x = some y := by
 obtain ⟨v4_0, v4_1, v4_2, out8, clk, ents, m2, keys, h4, h5⟩ := x
 unfold j17C at h
 obtain ⟨e, hk⟩ := cond_ok h
 simp only [Bool.and_eq_true, List.isEmpty_iff] at e
 obtain ⟨rfl, e1, e2⟩ := e
 exact J17_eq (nodB_ok e1) (by simpa using e2) hk
def joinC (lo : Lo) (a0_0 : ByteArray) (a0_1 : List ByteArray) (a0_2 : List (Int × (List (Int × Int × ByteArray)))) (b1_0 : ByteArray) (b1_1 : List ByteArray) (b1_2 : List (Int × (List (Int × Int × ByteArray)))) : Option (ByteArray × (List ByteArray) × (List (Int × (List (Int × Int × ByteArray)))) × Int) :=
 Option.bind (q11 lo a0_0 a0_1 a0_2) fun y77 => bif (!decide (y77 = (0 : Int))) then (some ((ByteArray.mk #[]), ([] : List ByteArray), ([] : List (Int × (List (Int × Int × ByteArray)))), y77)) else (Option.bind (q11 lo b1_0 b1_1 b1_2) fun y78 => bif (!decide (y78 = (0 : Int))) then (some ((ByteArray.mk #[]), ([] : List ByteArray), ([] : List (Int × (List (Int × Int × ByteArray)))), y78)) else (Option.bind (q19 lo a0_1) fun y79 => Option.bind (q36_L42 lo (b1_1, (b1_1.length : Int), (0 : Int), a0_0, a0_1, a0_2, b1_0, b1_1, b1_2, (ByteArray.mk #[]), ([] : List ByteArray), ([] : List (Int × (List (Int × Int × ByteArray)))), a0_0, [], y79, [])) fun y81 => bif (decide ((16 : Int) < (y81.2.2.2.2.2.2.2.2.2.2.2.1.length : Int))) then (some ((ByteArray.mk #[]), ([] : List ByteArray), ([] : List (Int × (List (Int × Int × ByteArray)))), (3 : Int))) else (Option.bind (q36_L19 lo (y81.2.2.2.2.2.2.2.2.2.2.1, y81.2.2.1, (y81.2.2.1.length : Int), (0 : Int), y81.2.2.2.1, y81.2.2.2.2.1, y81.2.2.2.2.2.1, y81.2.2.2.2.2.2.1, y81.2.2.2.2.2.2.2.1, y81.2.2.2.2.2.2.2.2.1, y81.2.2.2.2.2.2.2.2.2.1, (0 : Int), ([] : List (Int × ByteArray × (List (Int × Int × ByteArray)))), false, y81.2.2.2.2.2.2.2.2.2.2.2.1, y81.2.2.2.2.2.2.2.2.2.2.2.2)) fun y87 => alt2 y87 (fun y88 => some (y88.2.1, y88.2.2.1, y88.2.2.2, y88.1)) (fun y89 => Option.bind (j17C lo (y89.1, y89.2.1, y89.2.2.1, y89.2.2.2.1, y89.2.2.2.2.1, y89.2.2.2.2.2.1, y89.2.2.2.2.2.2.1, [], y89.2.2.2.2.2.2.2.1, y89.2.2.2.2.2.2.2.2)) fun y154 => some (y154.2.1, y154.2.2.1, y154.2.2.2, y154.1)))))
theorem bind_mono {α β : Type} {a : Option α} {f g : α -> Option β} {y : β} (h : ∀ z, f z = some y -> g z = some y) : Option.bind a f = some y -> Option.bind a g = some y := by
 cases a with
 | none => intro h; cases h
 | some z => exact h z
theorem cond_mono {β : Type} {b : Bool} {x x' z : Option β} {y : β} (h : x = some y -> x' = some y) : (bif b then z else x) = some y -> (bif b then z else x') = some y := by
 cases b with
 | true => exact id
 | false => exact h
theorem joinC_ok {a0 a1 a2 b0 b1 b2 y} : joinC loO a0 a1 a2 b0 b1 b2 = some y -> q36 loO a0 a1 a2 b0 b1 b2 = some y := by
 unfold joinC q36
 refine bind_mono fun _ => cond_mono (bind_mono fun _ => cond_mono (bind_mono fun _ => bind_mono fun _ => cond_mono (bind_mono fun z => ?_)))
 cases z with
 | inl z => exact id
 | inr z =>
   simp only [alt2]
   intro h
   cases hj : j17C loO (z.1, z.2.1, z.2.2.1, z.2.2.2.1, z.2.2.2.2.1, z.2.2.2.2.2.1, z.2.2.2.2.2.2.1, [], z.2.2.2.2.2.2.2.1, z.2.2.2.2.2.2.2.2) with
   | none => rw [hj] at h; cases h
   | some q => rw [hj] at h; rw [j17C_ok hj]; exact h
abbrev Vals := List (Int × Int × ByteArray)
abbrev Rws := List (Int × Vals)
noncomputable def E6 : ByteArray × List ByteArray × Rws := (q2 (loM 400)).getD ⟨ByteArray.mk #[], [], []⟩
noncomputable def E51 : ByteArray × List ByteArray × Rws × Int := (q18 (loM 400) E6.1 E6.2.1 E6.2.2 1).getD ⟨ByteArray.mk #[], [], [], 0⟩
noncomputable def E52 : ByteArray × List ByteArray × Rws × Int := (q18 (loM 400) E6.1 E6.2.1 E6.2.2 2).getD ⟨ByteArray.mk #[], [], [], 0⟩
noncomputable def E155 : ByteArray × List ByteArray × Rws × Int := (joinC (loM 400) E6.1 E6.2.1 E6.2.2 E52.1 E52.2.1 E52.2.2.1).getD ⟨ByteArray.mk #[], [], [], 0⟩
noncomputable def E156 : ByteArray × List ByteArray × Rws × Int := (joinC (loM 400) E51.1 E51.2.1 E51.2.2.1 E52.1 E52.2.1 E52.2.2.1).getD ⟨ByteArray.mk #[], [], [], 0⟩
theorem aw : q44 loO = some true := by
 have e6 : q2 loO = some E6 := (congrArg q2 (loM_eq 400)).symm.trans (by kernel_rfl)
 have e51 : q18 loO E6.1 E6.2.1 E6.2.2 1 = some E51 := (congrArg (fun l => q18 l E6.1 E6.2.1 E6.2.2 1) (loM_eq 400)).symm.trans (by kernel_rfl)
 have e52 : q18 loO E6.1 E6.2.1 E6.2.2 2 = some E52 := (congrArg (fun l => q18 l E6.1 E6.2.1 E6.2.2 2) (loM_eq 400)).symm.trans (by kernel_rfl)
 have e155 : q36 loO E6.1 E6.2.1 E6.2.2 E52.1 E52.2.1 E52.2.2.1 = some E155 := joinC_ok ((congrArg (fun l => joinC l E6.1 E6.2.1 E6.2.2 E52.1 E52.2.1 E52.2.2.1) (loM_eq 400)).symm.trans (by kernel_rfl))
 have e156 : q36 loO E51.1 E51.2.1 E51.2.2.1 E52.1 E52.2.1 E52.2.2.1 = some E156 := joinC_ok ((congrArg (fun l => joinC l E51.1 E51.2.1 E51.2.2.1 E52.1 E52.2.1 E52.2.2.1) (loM_eq 400)).symm.trans (by kernel_rfl))
 unfold q44
 rw [e6, bindS, e51, bindS, e52, bindS, e155, bindS, e156, bindS, <- loM_eq 400]
 show (_ : Option Bool) = some true
 kernel_rfl
end Go.Abs.G03
namespace Go.Abs
set_option linter.unusedSimpArgs false
set_option linter.unusedVariables false
def scanR {R : Type} (f : Nat -> Option R) : Nat -> Nat -> R -> R
 | 0, _, r0 => r0
 | k + 1, n, r0 => match f n with
   | some r => r
   | none => scanR f k (n + 1) r0
theorem loop_scan {S R : Type} {step : S -> Option (S ⊕ R)} (st : Nat -> S) (f : Nat -> Option R) (N : Nat) (r0 : R) {s : S} (hst : s = st 0) (he : step (st N) = some (.inr r0))
  (hs : ∀ n, n < N -> step (st n) = some (match f n with | some r => .inr r | none => .inl (st (n + 1)))) : loopO step s = some (scanR f N 0 r0) := by
 subst hst
 have : ∀ k n, n + k = N -> loopO step (st n) = some (scanR f k n r0) := by
  intro k
  induction k with
  | zero => intro n h; rw [loopO_eq]; simp only [Nat.add_zero] at h; subst h; rw [he]; rfl
  | succ k ih =>
    intro n h
    rw [loopO_eq, hs n (by omega)]
    simp only [scanR]
    cases f n with
    | some r => rfl
    | none => exact ih (n + 1) (by omega)
 exact this N 0 (by omega)
def anyN (p : Nat -> Bool) : Nat -> Nat -> Bool
 | 0, _ => false
 | k + 1, n => p n || anyN p k (n + 1)
theorem scanR_cases {R : Type} {f : Nat -> Option R} {r0 : R} : ∀ (k n : Nat), (∃ m r, n <= m /\ m < n + k /\ f m = some r /\ scanR f k n r0 = r) \/ (scanR f k n r0 = r0 /\ ∀ m, n <= m -> m < n + k -> f m = none)
 | 0, n => .inr ⟨rfl, fun m h1 h2 => by omega⟩
 | k + 1, n => by
   simp only [scanR]
   cases hf : f n with
   | some r => exact .inl ⟨n, r, Nat.le_refl _, by omega, hf, rfl⟩
   | none =>
     rcases scanR_cases (f := f) (r0 := r0) k (n + 1) with ⟨m, r, h1, h2, h3, h4⟩ | ⟨h1, h2⟩
     ·exact .inl ⟨m, r, by omega, by omega, h3, h4⟩
     ·refine .inr ⟨h1, fun m g1 g2 => ?_⟩
      by_cases e : m = n
      ·subst e; exact hf
      ·exact h2 m (by omega) (by omega)
theorem mem_sum {α : Type} {f : α -> Nat} {l : List α} {a : α} (h : a ∈ l) : f a <= (l.map f).sum := by
 induction l with
 | nil => cases h
 | cons b r ih =>
   simp only [List.map_cons, List.sum_cons]
   rcases List.mem_cons.1 h with rfl | h
   ·omega
   ·have := ih h; omega
theorem len_sum {α : Type} {f : α -> Nat} {l : List α} (h : ∀ a ∈ l, 1 <= f a) : l.length <= (l.map f).sum := by
 induction l with
 | nil => simp
 | cons b r ih =>
   simp only [List.map_cons, List.sum_cons, List.length_cons]
   have := h b (List.mem_cons_self ..)
   have := ih (fun a ha => h a (List.mem_cons_of_mem _ ha))
   omega
theorem byteI_r (s : ByteArray) (i : Int) : 0 <= byteI s i /\ byteI s i < 256 := by
 unfold byteI
 have := (s.data.getD i.toNat 0).toNat_lt
 omega
theorem getD_mem {α : Type} {l : List α} {n : Nat} {d : α} (h : n < l.length) : l.getD n d ∈ l := by
 rw [List.getD_eq_getElem?_getD, List.getElem?_eq_getElem h]; exact List.getElem_mem h
theorem bytes_ext {a b : ByteArray} (hs : a.size = b.size) (h : ∀ n : Nat, n < a.size -> byteI a n = byteI b n) : a = b := by
 have : a.data = b.data := by
  apply Array.ext hs
  intro i h1 h2
  have := h i h1
  rw [byteI_eq] at this
  unfold Array.getD at this
  rw [dif_pos h1, dif_pos h2] at this
  exact this
 cases a; cases b; simp_all
theorem list_ext_getD {α : Type} {a b : List α} {d : α} (hs : a.length = b.length) (h : ∀ n, n < a.length -> a.getD n d = b.getD n d) : a = b := by
 apply List.ext_getElem hs
 intro i h1 h2
 have := h i h1
 simpa [List.getD_eq_getElem?_getD, List.getElem?_eq_getElem h1, List.getElem?_eq_getElem h2] using this
theorem anyN_iff {p : Nat -> Bool} : ∀ {k n : Nat}, anyN p k n = true ↔ ∃ m, n <= m /\ m < n + k /\ p m = true
 | 0, n => ⟨fun h => (by cases h), fun ⟨m, h1, h2, _⟩ => (by omega)⟩
 | k + 1, n => by
   simp only [anyN, Bool.or_eq_true, anyN_iff (k := k) (n := n + 1)]
   constructor
   ·rintro (h | ⟨m, h1, h2, h3⟩)
    ·exact ⟨n, Nat.le_refl _, by omega, h⟩
    ·exact ⟨m, by omega, by omega, h3⟩
   ·rintro ⟨m, h1, h2, h3⟩
    by_cases e : m = n
    ·subst e; exact .inl h3
    ·exact .inr ⟨m, by omega, by omega, h3⟩
theorem scan_bool {p : Nat -> Bool} (b : Bool) (k n : Nat) : scanR (R := Bool ⊕ Unit) (fun m => bif p m then some (.inl b) else none) k n (.inr ()) = bif anyN p k n then .inl b else .inr () := by
 induction k generalizing n with
 | zero => rfl
 | succ k ih =>
   simp only [scanR, anyN]
   cases p n with
   | true => rfl
   | false => simpa using ih (n + 1)
end Go.Abs
namespace Go.Abs.G03
open Go Go.Abs
noncomputable section
set_option linter.unusedSimpArgs false
set_option linter.unusedVariables false
def lt (c : Int) : Bool := decide (97 <= c) && decide (c <= 122) || decide (65 <= c) && decide (c <= 90) || decide (c = 95)
abbrev zV : Int × Int × ByteArray := (0, 0, ByteArray.mk #[])
abbrev zR : Int × Vals := (0, [])
end
end Go.Abs.G03
namespace Go.Abs.G03
open Go Go.Abs
noncomputable section
set_option linter.unusedSimpArgs false
set_option linter.unusedVariables false
def SzV (l : Vals) : Prop := l.length <= maxEl /\ ∀ v ∈ l, v.2.2.size <= maxEl
def SzR (l : Rws) : Prop := l.length <= maxEl /\ ∀ r ∈ l, SzV r.2
theorem szV {l : Vals} (h : (Ty.l (cs [I, I, .s])).sz l <= 1048576) : SzV l := by
 have hm : maxEl = 1073741824 := rfl
 have e : (Ty.l (cs [I, I, .s])).sz l = (l.map fun v => 1 + (1 + ((v.2.2.size + 1) + 0))).sum + 1 := rfl
 rw [e] at h
 refine ⟨?_, fun v hv => ?_⟩
 ·have := len_sum (f := fun v : Int × Int × ByteArray => 1 + (1 + ((v.2.2.size + 1) + 0))) (l := l) (fun a _ => by omega)
  omega
 ·have := mem_sum (f := fun v : Int × Int × ByteArray => 1 + (1 + ((v.2.2.size + 1) + 0))) hv
  omega
theorem szR {l : Rws} (h : (Ty.l (cs [I, .l (cs [I, I, .s])])).sz l <= 1048576) : SzR l := by
 have hm : maxEl = 1073741824 := rfl
 have e : (Ty.l (cs [I, .l (cs [I, I, .s])])).sz l = (l.map fun r => 1 + ((Ty.l (cs [I, I, .s])).sz r.2 + 0)).sum + 1 := rfl
 rw [e] at h
 refine ⟨?_, fun r hr => ?_⟩
 ·have := len_sum (f := fun r : Int × Vals => 1 + ((Ty.l (cs [I, I, .s])).sz r.2 + 0)) (l := l) (fun a _ => by omega)
  omega
 ·have := mem_sum (f := fun r : Int × Vals => 1 + ((Ty.l (cs [I, I, .s])).sz r.2 + 0)) hr
  exact szV (by omega)
def sg (a b : Int) : Int := bif decide (a < b) then -1 else bif decide (b < a) then 1 else 0
theorem sign_eq (a b : Int) : q57 loO a b = some (sg a b) := by
 unfold q57 sg
 by_cases h1 : a < b <;> by_cases h2 : b < a <;> simp [h1, h2]
theorem sg_zero {a b : Int} : sg a b = 0 ↔ a = b := by
 unfold sg
 by_cases h1 : a < b
 ·simp [h1]; omega
 ·by_cases h2 : b < a
  ·simp [h1, h2]; omega
  ·simp [h1, h2]; omega
def fS (a b : ByteArray) (n : Nat) : Option (Int ⊕ (ByteArray × ByteArray)) := bif !decide (byteI a n = byteI b n) then some (.inl (sg (byteI a n) (byteI b n))) else none
def cmpS (a b : ByteArray) : Int := match scanR (fS a b) (min a.size b.size) 0 (.inr (a, b)) with
 | .inl i => i
 | .inr _ => sg a.size b.size
theorem strings_eq (a b : ByteArray) (ha : a.size <= maxEl) (hb : b.size <= maxEl) : q58 loO a b = some (cmpS a b) := by
 have hm : maxEl = 1073741824 := rfl
 have hL : q58_L3 loO (a, b, 0) = some (scanR (fS a b) (min a.size b.size) 0 (.inr (a, b))) := by
  refine loop_scan (fun n => (a, b, (n : Int))) _ (min a.size b.size) _ rfl ?_ (fun n hn => ?_)
  ·rcases Nat.le_total a.size b.size with h | h
   ·rw [Nat.min_eq_left h]; simp [q58_L3_s]
   ·rw [Nat.min_eq_right h]
    have e : decide ((b.size : Int) < (b.size : Int)) = false := by simp
    simp only [q58_L3_s, e, cond_false]
    cases decide ((b.size : Int) < (a.size : Int)) <;> rfl
  ·have e1 : decide ((n : Int) < (a.size : Int)) = true := by simp; omega
   have e1' : decide ((n : Int) < (b.size : Int)) = true := by simp; omega
   have e2 : IntKind.wrap .i64 ((n : Int) + 1) = ((n + 1 : Nat) : Int) := by rw [wr6 (by omega) (by omega)]; omega
   have r1 := byteI_r a n
   have r2 := byteI_r b n
   simp only [q58_L3_s, e1, e1', cond_true, e2, sign_eq, bindS, wr6 (show -9223372036854775808 <= byteI a n by omega) (by omega), wr6 (show -9223372036854775808 <= byteI b n by omega) (by omega)]
   rw [chkT _ (by omega), chkT _ (by omega), chkT _ (by omega), chkT _ (by omega)]
   unfold fS
   cases decide (byteI a n = byteI b n) <;> rfl
 unfold q58 cmpS
 rw [hL, bindS]
 rcases scanR_cases (f := fS a b) (r0 := .inr (a, b)) (min a.size b.size) 0 with ⟨m, r, h1, h2, h3, h4⟩ | ⟨h1, h2⟩
 ·rw [h4]
  unfold fS at h3
  cases hd : decide (byteI a m = byteI b m) with
  | true => rw [hd] at h3; cases h3
  | false => rw [hd] at h3; injection h3 with h3; subst h3; rfl
 ·rw [h1]; simp only [alt2, sign_eq, bindS]
theorem cmpS_zero {a b : ByteArray} : cmpS a b = 0 ↔ a = b := by
 unfold cmpS
 rcases scanR_cases (f := fS a b) (r0 := .inr (a, b)) (min a.size b.size) 0 with ⟨m, r, h1, h2, h3, h4⟩ | ⟨h1, h2⟩
 ·rw [h4]
  unfold fS at h3
  by_cases hd : byteI a m = byteI b m
  ·simp [hd] at h3
  ·simp [hd] at h3
   subst h3
   simp only
   rw [sg_zero]
   exact ⟨fun h => absurd h hd, fun h => by subst h; exact absurd rfl hd⟩
 ·rw [h1]
  simp only [sg_zero]
  constructor
  ·intro h
   have hs : a.size = b.size := by omega
   refine bytes_ext hs (fun n hn => ?_)
   have := h2 n (by omega) (by omega)
   unfold fS at this
   by_cases hd : byteI a n = byteI b n
   ·exact hd
   ·simp [hd] at this
  ·intro h; rw [h]
def cmpV (v w : Int × Int × ByteArray) : Int := bif !decide (sg v.1 w.1 = 0) then sg v.1 w.1 else bif !decide (sg v.2.1 w.2.1 = 0) then sg v.2.1 w.2.1 else cmpS v.2.2 w.2.2
theorem Compare_eq (v w : Int × Int × ByteArray) (hv : v.2.2.size <= maxEl) (hw : w.2.2.size <= maxEl) : q59 loO v.1 v.2.1 v.2.2 w.1 w.2.1 w.2.2 = some (cmpV v w) := by
 unfold q59 cmpV
 simp only [sign_eq, bindS, strings_eq _ _ hv hw]
 cases decide (sg v.1 w.1 = 0) <;> cases decide (sg v.2.1 w.2.1 = 0) <;> rfl
theorem cmpV_zero {v w : Int × Int × ByteArray} : cmpV v w = 0 ↔ v = w := by
 obtain ⟨a, b, c⟩ := v
 obtain ⟨a', b', c'⟩ := w
 unfold cmpV
 by_cases h1 : sg a a' = 0
 ·by_cases h2 : sg b b' = 0
  ·simp only [h1, h2, decide_true, Bool.not_true, cond_false, cmpS_zero]
   rw [sg_zero] at h1 h2
   simp [h1, h2]
  ·simp only [h1, h2, decide_true, decide_false, Bool.not_true, Bool.not_false, cond_false, cond_true]
   refine ⟨fun h => h.elim, fun h => ?_⟩
   injection h with _ h; injection h with h _
   exact h2 (sg_zero.2 h)
 ·simp only [h1, decide_false, Bool.not_false, cond_true]
  refine ⟨fun h => h.elim, fun h => ?_⟩
  injection h with h _
  exact h1 (sg_zero.2 h)
def fL (a b : Vals) (n : Nat) : Option (Int ⊕ (Vals × Vals)) := bif !decide (cmpV (a.getD n zV) (b.getD n zV) = 0) then some (.inl (cmpV (a.getD n zV) (b.getD n zV))) else none
def cmpL (a b : Vals) : Int := match scanR (fL a b) (min a.length b.length) 0 (.inr (a, b)) with
 | .inl i => i
 | .inr _ => sg a.length b.length
theorem Lists_eq (a b : Vals) (ha : SzV a) (hb : SzV b) : q60 loO a b = some (cmpL a b) := by
 have hm : maxEl = 1073741824 := rfl
 have hal := ha.1
 have hbl := hb.1
 have hL : q60_L3 loO (a, b, 0) = some (scanR (fL a b) (min a.length b.length) 0 (.inr (a, b))) := by
  refine loop_scan (fun n => (a, b, (n : Int))) _ (min a.length b.length) _ rfl ?_ (fun n hn => ?_)
  ·rcases Nat.le_total a.length b.length with h | h
   ·rw [Nat.min_eq_left h]; simp [q60_L3_s]
   ·rw [Nat.min_eq_right h]
    have e : decide ((b.length : Int) < (b.length : Int)) = false := by simp
    simp only [q60_L3_s, e, cond_false]
    cases decide ((b.length : Int) < (a.length : Int)) <;> rfl
  ·have e1 : decide ((n : Int) < (a.length : Int)) = true := by simp; omega
   have e1' : decide ((n : Int) < (b.length : Int)) = true := by simp; omega
   have e2 : IntKind.wrap .i64 ((n : Int) + 1) = ((n + 1 : Nat) : Int) := by rw [wr6 (by omega) (by omega)]; omega
   have q1 := ha.2 (a.getD n zV) (getD_mem (by omega))
   have q2 := hb.2 (b.getD n zV) (getD_mem (by omega))
   simp only [q60_L3_s, e1, e1', cond_true, e2, Int.toNat_natCast]
   rw [chkT _ (by omega), chkT _ (by omega), Compare_eq _ _ q1 q2, bindS]
   unfold fL
   cases decide (cmpV (a.getD n zV) (b.getD n zV) = 0) <;> rfl
 unfold q60 cmpL
 rw [hL, bindS]
 rcases scanR_cases (f := fL a b) (r0 := .inr (a, b)) (min a.length b.length) 0 with ⟨m, r, h1, h2, h3, h4⟩ | ⟨h1, h2⟩
 ·rw [h4]
  unfold fL at h3
  cases hd : decide (cmpV (a.getD m zV) (b.getD m zV) = 0) with
  | true => rw [hd] at h3; cases h3
  | false => rw [hd] at h3; injection h3 with h3; subst h3; rfl
 ·rw [h1]; simp only [alt2, sign_eq, bindS]
theorem cmpL_zero {a b : Vals} : cmpL a b = 0 ↔ a = b := by
 unfold cmpL
 rcases scanR_cases (f := fL a b) (r0 := .inr (a, b)) (min a.length b.length) 0 with ⟨m, r, h1, h2, h3, h4⟩ | ⟨h1, h2⟩
 ·rw [h4]
  unfold fL at h3
  by_cases hd : cmpV (a.getD m zV) (b.getD m zV) = 0
  ·rw [decide_eq_true hd] at h3; cases h3
  ·rw [decide_eq_false hd] at h3; injection h3 with h3
   subst h3
   simp only
   exact ⟨fun h => absurd h hd, fun h => by subst h; exact absurd (cmpV_zero.2 rfl) hd⟩
 ·rw [h1]
  simp only [sg_zero]
  constructor
  ·intro h
   have hs : a.length = b.length := by omega
   refine list_ext_getD (d := zV) hs (fun n hn => ?_)
   have := h2 n (by omega) (by omega)
   unfold fL at this
   by_cases hd : cmpV (a.getD n zV) (b.getD n zV) = 0
   ·exact cmpV_zero.1 hd
   ·rw [decide_eq_false hd] at this; cases this
  ·intro h; rw [h]
theorem Same1_eq (a b : Vals) (ha : SzV a) (hb : SzV b) : q61 loO a b = some (decide (a = b)) := by
 unfold q61
 rw [Lists_eq a b ha hb, bindS]
 have : decide (cmpL a b = 0) = decide (a = b) := by rw [decide_eq_decide]; exact cmpL_zero
 rw [this]
end
end Go.Abs.G03
namespace Go.Abs.G03
open Go Go.Abs
noncomputable section
set_option linter.unusedSimpArgs false
set_option linter.unusedVariables false
theorem _root_.Go.Abs.sz3 {t1 t2 t3 : Ty} {r : Cs} {x : (Cs.cons t1 (Cs.cons t2 (Cs.cons t3 r))).den} {N : Nat} (h : Cs.sz (Cs.cons t1 (Cs.cons t2 (Cs.cons t3 r))) x <= N) : t3.sz (fstP _ (sndP _ (sndP _ x))) <= N := by
 simp only [Cs.sz] at h; omega
theorem few_eq (nm : ByteArray) (attrs : List ByteArray) (rows : Rws) : q53 loO nm attrs rows = some (decide (rows.length <= 12) && decide (attrs.length <= 20)) := by
 unfold q53
 have e1 : decide ((rows.length : Int) <= 12) = decide (rows.length <= 12) := by rw [decide_eq_decide]; omega
 have e2 : decide ((attrs.length : Int) <= 20) = decide (attrs.length <= 20) := by rw [decide_eq_decide]; omega
 rw [e1, e2]
 cases decide (rows.length <= 12) <;> rfl
end
end Go.Abs.G03
namespace Go.Abs.G03
open Go Go.Abs
noncomputable section
set_option linter.unusedSimpArgs false
set_option linter.unusedVariables false
theorem _root_.Go.Abs.sz6 {t1 t2 t3 t4 t5 t6 : Ty} {r : Cs} {x : (Cs.cons t1 (Cs.cons t2 (Cs.cons t3 (Cs.cons t4 (Cs.cons t5 (Cs.cons t6 r)))))).den} {N : Nat} (h : Cs.sz (Cs.cons t1 (Cs.cons t2 (Cs.cons t3 (Cs.cons t4 (Cs.cons t5 (Cs.cons t6 r)))))) x <= N) : t6.sz (fstP _ (sndP _ (sndP _ (sndP _ (sndP _ (sndP _ x)))))) <= N := by
 simp only [Cs.sz] at h; omega
theorem ne_any {α : Type} [DecidableEq α] {a b : List α} (d : α) (h : a.length = b.length) : (!anyN (fun n => !decide (a.getD n d = b.getD n d)) a.length 0) = decide (a = b) := by
 rw [Bool.eq_iff_iff, Bool.not_eq_true', <- Bool.not_eq_true, anyN_iff, decide_eq_true_eq]
 constructor
 ·intro hx
  refine list_ext_getD (d := d) h (fun n hn => ?_)
  by_cases e : a.getD n d = b.getD n d
  ·exact e
  ·exact absurd ⟨n, Nat.zero_le _, by omega, by rw [decide_eq_false e]; rfl⟩ hx
 ·rintro rfl ⟨m, _, _, h3⟩
  simp at h3
theorem tStrings (a b : List ByteArray) (ha : a.length <= maxEl) : q37 loO a b = some (decide (a = b)) := by
 have hm : maxEl = 1073741824 := rfl
 unfold q37
 by_cases hl : a.length = b.length
 ·have e0 : decide ((a.length : Int) = (b.length : Int)) = true := by simp [hl]
  simp only [e0, Bool.not_true, cond_false]
  have hL : q37_L3 loO (a, b, (a.length : Int), 0) = some (scanR (R := Bool ⊕ Unit) (fun m => bif !decide (a.getD m (ByteArray.mk #[]) = b.getD m (ByteArray.mk #[])) then some (.inl false) else none) a.length 0 (.inr ())) := by
   refine loop_scan (fun n => (a, b, (a.length : Int), (n : Int))) _ a.length _ rfl ?_ (fun n hn => ?_)
   ·simp [q37_L3_s]
   ·have e1 : decide ((n : Int) < (a.length : Int)) = true := by simp; omega
    have e2 : IntKind.wrap .i64 ((n : Int) + 1) = ((n + 1 : Nat) : Int) := by rw [wr6 (by omega) (by omega)]; omega
    simp only [q37_L3_s, e1, cond_true, e2, Int.toNat_natCast]
    rw [chkT _ (by omega), chkT _ (by omega)]
    cases decide (a.getD n (ByteArray.mk #[]) = b.getD n (ByteArray.mk #[])) <;> rfl
  rw [hL, bindS, scan_bool, <- ne_any (ByteArray.mk #[]) hl]
  cases anyN (fun n => !decide (a.getD n (ByteArray.mk #[]) = b.getD n (ByteArray.mk #[]))) a.length 0 <;> rfl
 ·have e0 : decide ((a.length : Int) = (b.length : Int)) = false := by rw [decide_eq_false_iff_not]; omega
  have e1 : decide (a = b) = false := by rw [decide_eq_false_iff_not]; intro h; exact hl (by rw [h])
  rw [e0, e1]; rfl
theorem rStrings (a b : List ByteArray) (ha : a.length <= maxEl) : q64 loO a b = some (decide (a = b)) := by
 have hm : maxEl = 1073741824 := rfl
 unfold q64
 by_cases hl : a.length = b.length
 ·have e0 : decide ((a.length : Int) = (b.length : Int)) = true := by simp [hl]
  simp only [e0, Bool.not_true, cond_false]
  have hL : q64_L3 loO (a, b, 0) = some (scanR (R := Bool ⊕ Unit) (fun m => bif !decide (a.getD m (ByteArray.mk #[]) = b.getD m (ByteArray.mk #[])) then some (.inl false) else none) a.length 0 (.inr ())) := by
   refine loop_scan (fun n => (a, b, (n : Int))) _ a.length _ rfl ?_ (fun n hn => ?_)
   ·simp [q64_L3_s]
   ·have e1 : decide ((n : Int) < (a.length : Int)) = true := by simp; omega
    have e2 : IntKind.wrap .i64 ((n : Int) + 1) = ((n + 1 : Nat) : Int) := by rw [wr6 (by omega) (by omega)]; omega
    simp only [q64_L3_s, e1, cond_true, e2, Int.toNat_natCast]
    rw [chkT _ (by omega), chkT _ (by omega)]
    cases decide (a.getD n (ByteArray.mk #[]) = b.getD n (ByteArray.mk #[])) <;> rfl
  rw [hL, bindS, scan_bool, <- ne_any (ByteArray.mk #[]) hl]
  cases anyN (fun n => !decide (a.getD n (ByteArray.mk #[]) = b.getD n (ByteArray.mk #[]))) a.length 0 <;> rfl
 ·have e0 : decide ((a.length : Int) = (b.length : Int)) = false := by rw [decide_eq_false_iff_not]; omega
  have e1 : decide (a = b) = false := by rw [decide_eq_false_iff_not]; intro h; exact hl (by rw [h])
  rw [e0, e1]; rfl
theorem cells_eq (v w : Int × Int × ByteArray) : (decide (v.1 = w.1) && (decide (v.2.1 = w.2.1) && (decide (v.2.2 = w.2.2) && true))) = decide (v = w) := by
 obtain ⟨a, b, c⟩ := v
 obtain ⟨a', b', c'⟩ := w
 rw [Bool.eq_iff_iff]; simp
theorem tVals (a b : Vals) (ha : a.length <= maxEl) : q38 loO a b = some (decide (a = b)) := by
 have hm : maxEl = 1073741824 := rfl
 unfold q38
 by_cases hl : a.length = b.length
 ·have e0 : decide ((a.length : Int) = (b.length : Int)) = true := by simp [hl]
  simp only [e0, Bool.not_true, cond_false]
  have hL : q38_L3 loO (a, b, (a.length : Int), 0) = some (scanR (R := Bool ⊕ Unit) (fun m => bif !decide (a.getD m zV = b.getD m zV) then some (.inl false) else none) a.length 0 (.inr ())) := by
   refine loop_scan (fun n => (a, b, (a.length : Int), (n : Int))) _ a.length _ rfl ?_ (fun n hn => ?_)
   ·simp [q38_L3_s]
   ·have e1 : decide ((n : Int) < (a.length : Int)) = true := by simp; omega
    have e2 : IntKind.wrap .i64 ((n : Int) + 1) = ((n + 1 : Nat) : Int) := by rw [wr6 (by omega) (by omega)]; omega
    simp only [q38_L3_s, e1, cond_true, e2, Int.toNat_natCast, cells_eq]
    rw [chkT _ (by omega), chkT _ (by omega)]
    cases decide (a.getD n zV = b.getD n zV) <;> rfl
  rw [hL, bindS, scan_bool, <- ne_any zV hl]
  cases anyN (fun n => !decide (a.getD n zV = b.getD n zV)) a.length 0 <;> rfl
 ·have e0 : decide ((a.length : Int) = (b.length : Int)) = false := by rw [decide_eq_false_iff_not]; omega
  have e1 : decide (a = b) = false := by rw [decide_eq_false_iff_not]; intro h; exact hl (by rw [h])
  rw [e0, e1]; rfl
def inR (rows : Rws) (l : Vals) : Bool := anyN (fun m => decide ((rows.getD m zR).2 = l)) rows.length 0
def covB (a b : Rws) : Bool := !anyN (fun n => !inR b (a.getD n zR).2) a.length 0
theorem tIn (rows : Rws) (i : Int) (l : Vals) (hr : SzR rows) (hl : l.length <= maxEl) : q41 loO rows i l = some (inR rows l, i, l) := by
 have hm : maxEl = 1073741824 := rfl
 have hrl := hr.1
 have hL : q40_L3 loO (rows, (rows.length : Int), 0, i, l) = some (scanR (R := (Int × Int × Vals) ⊕ (Int × Vals)) (fun m => bif decide ((rows.getD m zR).2 = l) then some (.inl ((m : Int), i, l)) else none) rows.length 0 (.inr (i, l))) := by
  refine loop_scan (fun n => (rows, (rows.length : Int), (n : Int), i, l)) _ rows.length _ rfl ?_ (fun n hn => ?_)
  ·simp [q40_L3_s]
  ·have e1 : decide ((n : Int) < (rows.length : Int)) = true := by simp; omega
   have e2 : IntKind.wrap .i64 ((n : Int) + 1) = ((n + 1 : Nat) : Int) := by rw [wr6 (by omega) (by omega)]; omega
   have e3 : decide (l = (rows.getD n zR).2) = decide ((rows.getD n zR).2 = l) := by simp only [eq_comm]
   simp only [q40_L3_s, e1, cond_true, e2, Int.toNat_natCast, q39, tVals _ _ hl, bindS, e3]
   rw [chkT _ (by omega)]
   cases decide ((rows.getD n zR).2 = l) <;> rfl
 unfold q41 q40
 rw [hL, bindS]
 have : ∀ k n, (Option.bind (alt2 (scanR (R := (Int × Int × Vals) ⊕ (Int × Vals)) (fun m => bif decide ((rows.getD m zR).2 = l) then some (.inl ((m : Int), i, l)) else none) k n (.inr (i, l))) (fun y168 => some (y168.1, y168.2.1, y168.2.2)) (fun y169 => some ((-1 : Int), y169.1, y169.2))) fun y170 => some (decide ((0 : Int) <= y170.1), y170.2.1, y170.2.2)) = some (anyN (fun m => decide ((rows.getD m zR).2 = l)) k n, i, l) := by
  intro k
  induction k with
  | zero => intro n; rfl
  | succ k ih =>
    intro n
    simp only [scanR, anyN]
    cases hp : decide ((rows.getD n zR).2 = l) with
    | true => simp only [cond_true, alt2, bindS, Bool.true_or]; simp
    | false => simp only [cond_false, Bool.false_or]; exact ih (n + 1)
 exact this _ _
theorem tContains (a b : Rws) (ha : SzR a) (hb : SzR b) : q42 loO a b = some (covB b a) := by
 have hm : maxEl = 1073741824 := rfl
 have hbl := hb.1
 have hL : q42_L3 loO (a, b, (b.length : Int), 0) = some (scanR (R := Bool ⊕ Unit) (fun m => bif !inR a (b.getD m zR).2 then some (.inl false) else none) b.length 0 (.inr ())) := by
  refine loop_scan (fun n => (a, b, (b.length : Int), (n : Int))) _ b.length _ rfl ?_ (fun n hn => ?_)
  ·simp [q42_L3_s]
  ·have e1 : decide ((n : Int) < (b.length : Int)) = true := by simp; omega
   have e2 : IntKind.wrap .i64 ((n : Int) + 1) = ((n + 1 : Nat) : Int) := by rw [wr6 (by omega) (by omega)]; omega
   simp only [q42_L3_s, e1, cond_true, e2, Int.toNat_natCast, tIn a _ _ ha (hb.2 (b.getD n zR) (getD_mem hn)).1, bindS]
   rw [chkT _ (by omega)]
   cases inR a (b.getD n zR).2 <;> rfl
 unfold q42 covB
 rw [hL, bindS, scan_bool]
 cases anyN (fun n => !inR a (b.getD n zR).2) b.length 0 <;> rfl
theorem rListed (rows : Rws) (l : Vals) (hr : SzR rows) (hl : SzV l) : q62 loO rows l = some (inR rows l) := by
 have hm : maxEl = 1073741824 := rfl
 have hrl := hr.1
 have hL : q62_L3 loO (rows, l, 0) = some (scanR (R := Bool ⊕ Unit) (fun m => bif decide ((rows.getD m zR).2 = l) then some (.inl true) else none) rows.length 0 (.inr ())) := by
  refine loop_scan (fun n => (rows, l, (n : Int))) _ rows.length _ rfl ?_ (fun n hn => ?_)
  ·simp [q62_L3_s]
  ·have e1 : decide ((n : Int) < (rows.length : Int)) = true := by simp; omega
   have e2 : IntKind.wrap .i64 ((n : Int) + 1) = ((n + 1 : Nat) : Int) := by rw [wr6 (by omega) (by omega)]; omega
   simp only [q62_L3_s, e1, cond_true, e2, Int.toNat_natCast, Same1_eq _ _ (hr.2 (rows.getD n zR) (getD_mem hn)) hl, bindS]
   rw [chkT _ (by omega)]
   cases decide ((rows.getD n zR).2 = l) <;> rfl
 unfold q62 inR
 rw [hL, bindS, scan_bool]
 cases anyN (fun m => decide ((rows.getD m zR).2 = l)) rows.length 0 <;> rfl
theorem rCovers (a b : Rws) (ha : SzR a) (hb : SzR b) : q76 loO a b = some (covB a b) := by
 have hm : maxEl = 1073741824 := rfl
 have hal := ha.1
 have hL : q76_L3 loO (a, b, 0) = some (scanR (R := Bool ⊕ Unit) (fun m => bif !inR b (a.getD m zR).2 then some (.inl false) else none) a.length 0 (.inr ())) := by
  refine loop_scan (fun n => (a, b, (n : Int))) _ a.length _ rfl ?_ (fun n hn => ?_)
  ·simp [q76_L3_s]
  ·have e1 : decide ((n : Int) < (a.length : Int)) = true := by simp; omega
   have e2 : IntKind.wrap .i64 ((n : Int) + 1) = ((n + 1 : Nat) : Int) := by rw [wr6 (by omega) (by omega)]; omega
   simp only [q76_L3_s, e1, cond_true, e2, Int.toNat_natCast, rListed _ _ hb (ha.2 (a.getD n zR) (getD_mem hn)), bindS]
   rw [chkT _ (by omega)]
   cases inR b (a.getD n zR).2 <;> rfl
 unfold q76 covB
 rw [hL, bindS, scan_bool]
 cases anyN (fun n => !inR b (a.getD n zR).2) a.length 0 <;> rfl
def sameB (a1 : List ByteArray) (a2 : Rws) (b1 : List ByteArray) (b2 : Rws) : Bool := decide (a1 = b1) && (covB b2 a2 && covB a2 b2)
theorem tSame (a0 : ByteArray) (a1 : List ByteArray) (a2 : Rws) (b0 : ByteArray) (b1 : List ByteArray) (b2 : Rws) (ha : a1.length <= maxEl) (h2 : SzR a2) (k2 : SzR b2) : q43 loO a0 a1 a2 b0 b1 b2 = some (sameB a1 a2 b1 b2) := by
 unfold q43 sameB
 rw [tStrings _ _ ha, bindS, tContains _ _ h2 k2, bindS, tContains _ _ k2 h2, bindS]
 cases decide (a1 = b1) <;> cases covB b2 a2 <;> rfl
theorem rSame (a0 : ByteArray) (a1 : List ByteArray) (a2 : Rws) (b0 : ByteArray) (b1 : List ByteArray) (b2 : Rws) (ha : a1.length <= maxEl) (h2 : SzR a2) (k2 : SzR b2) : q77 loO a0 a1 a2 b0 b1 b2 = some (sameB a1 a2 b1 b2) := by
 unfold q77 sameB
 rw [rStrings _ _ ha, bindS, rCovers _ _ h2 k2, bindS, rCovers _ _ k2 h2, bindS]
 cases decide (a1 = b1) <;> cases covB b2 a2 <;> cases covB a2 b2 <;> rfl
theorem cov_refl (a : Rws) : covB a a = true := by
 unfold covB
 rw [Bool.not_eq_true', <- Bool.not_eq_true, anyN_iff]
 rintro ⟨n, _, h2, h3⟩
 rw [Bool.not_eq_true', <- Bool.not_eq_true] at h3
 exact h3 (anyN_iff.2 ⟨n, Nat.zero_le _, by omega, by simp⟩)
theorem same_law (a0 : ByteArray) (a1 : List ByteArray) (a2 : Rws) (b0 : ByteArray) (b1 : List ByteArray) (b2 : Rws) (h2 : SzR a2) (k2 : SzR b2) : q78 loO a0 a1 a2 b0 b1 b2 = some true := by
 have hm : maxEl = 1073741824 := rfl
 unfold q78
 simp only [aw, bindS, few_eq, Bool.not_true, cond_false]
 cases hf : (decide (a2.length <= 12) && decide (a1.length <= 20)) with
 | false => rfl
 | true =>
   cases hg : (decide (b2.length <= 12) && decide (b1.length <= 20)) with
   | false => rfl
   | true =>
     simp only [Bool.and_eq_true, decide_eq_true_eq] at hf hg
     simp only [Bool.not_true, cond_false]
     rw [tSame _ _ _ _ _ _ (by omega) h2 k2, bindS, rSame _ _ _ _ _ _ (by omega) h2 k2, bindS, tSame _ _ _ _ _ _ (by omega) h2 h2, bindS]
     simp [sameB, cov_refl]
end
end Go.Abs.G03
