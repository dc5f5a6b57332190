/- Helpers of the plain laws: loops as states by number, tables, short words. No condition. -/
import Derived.Test.YtgegamaadohibaaB
import Derived.Test.YtgegamaadohibaaG1
set_option linter.unusedVariables false
set_option linter.unusedSimpArgs false
set_option linter.unusedSectionVars false
namespace Go.Abs
set_option linter.unusedSimpArgs false
set_option linter.unusedVariables false
theorem wr6 {n : Int} (h0 : -9223372036854775808 ≤ n) (h1 : n < 9223372036854775808) : IntKind.wrap .i64 n = n := by
  have e : (2 : Int) ^ IntKind.bits .i64 = 18446744073709551616 := rfl
  have e' : (2 : Int) ^ (IntKind.bits .i64 - 1) = 9223372036854775808 := rfl
  have s : IntKind.signed .i64 = true := rfl
  simp only [IntKind.wrap, e, e', s, Bool.true_and, ge_iff_le, decide_eq_true_eq]
  split <;> omega
theorem chkT {β : Type} {p : Prop} [Decidable p] (x : Option β) (h : p) : chk p x = x := by simp [chk, h]
theorem cT {β : Type} {p : Prop} [Decidable p] (x y : β) (h : p) : (bif decide p then x else y) = x := by simp [h]
theorem cF {β : Type} {p : Prop} [Decidable p] (x y : β) (h : ¬ p) : (bif decide p then x else y) = y := by simp [h]
theorem bindS {α β : Type} (a : α) (f : α → Option β) : Option.bind (some a) f = f a := rfl
theorem loop_up {S R : Type} {step : S → Option (S ⊕ R)} (st : Nat → S) (N : Nat) (r : R) (he : step (st N) = some (.inr r)) (hs : ∀ n, n < N → step (st n) = some (.inl (st (n + 1)))) : ∀ k n, n + k = N → loopO step (st n) = some r
  | 0, n, h => by rw [loopO_eq]; simp only [Nat.add_zero] at h; subst h; rw [he]
  | k + 1, n, h => by rw [loopO_eq, hs n (by omega)]; exact loop_up st N r he hs k (n + 1) (by omega)
theorem loop_at {S R : Type} {step : S → Option (S ⊕ R)} {st : Nat → S} {N : Nat} {r : R} {s : S} (hst : s = st 0) (he : step (st N) = some (.inr r)) (hs : ∀ n, n < N → step (st n) = some (.inl (st (n + 1)))) : loopO step s = some r := by
  subst hst; exact loop_up st N r he hs N 0 (by omega)
def tab {α : Type} (n : Nat) (f : Nat → α) : List α := (List.range n).map f
theorem tab_len {α : Type} (n : Nat) (f : Nat → α) : (tab n f).length = n := by simp [tab]
theorem tab_get {α : Type} (n : Nat) (f : Nat → α) (i : Nat) (d : α) (h : i < n) : (tab n f).getD i d = f i := by simp [tab, List.getD_eq_getElem?_getD, h]
theorem tab_set {α : Type} (n : Nat) (f : Nat → α) (i : Nat) (v : α) : (tab n f).set i v = tab n (fun k => if k = i then v else f k) := by
  apply List.ext_getElem?
  intro k
  by_cases h : k < n
  · by_cases e : k = i
    · subst e; simp [tab, List.getElem?_set, h]
    · simp [tab, List.getElem?_set, h, e, Ne.symm e]
  · simp [tab, List.getElem?_set, h, List.getElem?_eq_none]
theorem tab_congr {α : Type} {n : Nat} {f g : Nat → α} (h : ∀ k, k < n → f k = g k) : tab n f = tab n g :=
  List.map_congr_left (fun k hk => h k (by simpa using hk))
theorem tab_rep {α : Type} (n : Nat) (a : α) : List.replicate n a = tab n (fun _ => a) := by
  apply List.ext_getElem (by simp [tab])
  intro k h1 h2
  simp [tab]
theorem tab_of {α : Type} (l : List α) (d : α) : l = tab l.length (fun k => l.getD k d) := by
  apply List.ext_getElem (tab_len _ _).symm
  intro k h1 h2
  simp only [tab, List.getElem_map, List.getElem_range, List.getD_eq_getElem?_getD, List.getElem?_eq_getElem h1, Option.getD_some]
def bl (s : ByteArray) : List UInt8 := s.data.toList
end Go.Abs
namespace Go.Abs.G39
open Go Go.Abs
set_option linter.unusedSimpArgs false
set_option linter.unusedVariables false
set_option maxRecDepth 100000
theorem aw : q53 loO = some true := (congrArg q53 (loM_eq 400)).symm.trans (show q53 (loM 400) = some true by kernel_rfl)
theorem runO {S R : Type} (step : S → Option (S ⊕ R)) (x : S) : loO.run step x = loopO step x := rfl
theorem alt2_l {A B C : Type} (a : A) (f : A → Option C) (g : B → Option C) : alt2 (.inl a : A ⊕ B) f g = f a := rfl
theorem alt2_r {A B C : Type} (b : B) (f : A → Option C) (g : B → Option C) : alt2 (.inr b : A ⊕ B) f g = g b := rfl
theorem range_any {α : Type} (l : List α) (d : α) (q : α → Bool) : (List.range l.length).any (fun i => q (l.getD i d)) = l.any q := by
  have h := tab_of l d
  have : (List.range l.length).any (fun i => q (l.getD i d)) = (tab l.length (fun i => l.getD i d)).any q := by simp [tab, List.any_map, Function.comp_def]
  rw [this, ← h]
theorem loop_any {S R : Type} {step : S → Option (S ⊕ R)} (st : Nat → S) (N : Nat) (p : Nat → Bool) (yes no : R) (he : step (st N) = some (.inr no))
    (hs : ∀ n, n < N → step (st n) = bif p n then some (.inr yes) else some (.inl (st (n + 1)))) : loopO step (st 0) = some (bif (List.range N).any p then yes else no) := by
  have go : ∀ k n, n + k = N → loopO step (st n) = some (bif (List.range' n k).any p then yes else no) := by
    intro k
    induction k with
    | zero => intro n h; rw [loopO_eq]; simp only [Nat.add_zero] at h; subst h; rw [he]; rfl
    | succ k ih =>
      intro n h
      rw [loopO_eq, hs n (by omega)]
      cases hp : p n with
      | true => simp [List.range'_succ, hp]
      | false => simp only [cond_false]; rw [ih (n + 1) (by omega)]; simp [List.range'_succ, hp]
  have := go N 0 (by omega)
  rw [← List.range_eq_range'] at this
  exact this
structure In8 (w : List Int) (es : List (List Int)) : Prop where
  wl : w.length ≤ 8
  wv : ∀ x ∈ w, 1 ≤ x ∧ x ≤ 20
  el : es.length ≤ 12
  ev : ∀ e ∈ es, e ≠ [] ∧ e.Pairwise (· < ·) ∧ ∀ v ∈ e, 0 ≤ v ∧ v < (w.length : Int)
theorem gmem {α : Type} (l : List α) (d : α) (i : Nat) (h : i < l.length) : l.getD i d ∈ l := by
  rw [List.getD_eq_getElem?_getD, List.getElem?_eq_getElem h]; exact List.getElem_mem h
theorem pair_get {l : List Int} (h : l.Pairwise (· < ·)) (i j : Nat) (hij : i < j) (hj : j < l.length) : l.getD i 0 < l.getD j 0 := by
  have := List.pairwise_iff_getElem.1 h i j (by omega) hj hij
  simpa [List.getD_eq_getElem?_getD, List.getElem?_eq_getElem hj, List.getElem?_eq_getElem (show i < l.length by omega)] using this
theorem asc_len' : ∀ (l : List Int) (m n : Nat), l.Pairwise (· < ·) → (∀ v ∈ l, (m : Int) ≤ v ∧ v < (n : Int)) → m ≤ n → l.length + m ≤ n
  | [], m, n, _, _, h => by simpa using h
  | x :: r, m, n, hp, hr, hm => by
    rw [List.pairwise_cons] at hp
    have hx := hr x (by simp)
    have := asc_len' r (x.toNat + 1) n hp.2 (fun v hv => ⟨by have := hp.1 v hv; omega, (hr v (by simp [hv])).2⟩) (by omega)
    simp only [List.length_cons]
    omega
theorem asc_len {n : Nat} {l : List Int} (hd : l.Pairwise (· < ·)) (hr : ∀ v ∈ l, 0 ≤ v ∧ v < (n : Int)) : l.length ≤ n := by
  have := asc_len' l 0 n hd (by simpa using hr) (by omega)
  omega
theorem asc_nodup {l : List Int} (h : l.Pairwise (· < ·)) : l.Nodup := h.imp (fun hab => by omega)
theorem In8.e8 {w : List Int} {es : List (List Int)} (h : In8 w es) {e : List Int} (he : e ∈ es) : e.length ≤ 8 := by
  obtain ⟨_, h1, h2⟩ := h.ev e he
  have := asc_len h1 h2
  have := h.wl
  omega
theorem has_eq (l : List Int) (v : Int) (hl : l.length ≤ 100000) : q58 loO l v = some (decide (v ∈ l)) := by
  have h := loop_any (step := q58_L3_s loO) (fun n => (l, v, (n : Int))) l.length (fun n => decide (l.getD n 0 = v)) (.inl true) (.inr ())
    (by simp only [q58_L3_s]; rw [cF _ _ (by omega)])
    (fun n hn => by
      have e1 : IntKind.wrap .i64 ((n : Int) + 1) = ((n + 1 : Nat) : Int) := by rw [wr6 (by omega) (by omega)]; omega
      simp only [q58_L3_s, Int.toNat_natCast, e1]
      rw [cT _ _ (by omega), chkT _ (by omega)])
  have e : (List.range l.length).any (fun n => decide (l.getD n 0 = v)) = decide (v ∈ l) := by
    rw [range_any l 0 (fun x => decide (x = v))]
    by_cases hv : v ∈ l
    · simp [hv]
    · simp only [hv, decide_false, List.any_eq_false, decide_eq_true_eq]
      intro x hx e; subst e; exact hv hx
  rw [e] at h
  have h' : q58_L3 loO (l, v, (0 : Int)) = some (bif decide (v ∈ l) then .inl true else .inr ()) := h
  simp only [q58, h', bindS]
  cases decide (v ∈ l) <;> rfl
theorem meets_eq (a l : List Int) (ha : a.length ≤ 100000) (hl : l.length ≤ 100000) : q61 loO a l = some (a.any fun x => decide (x ∈ l)) := by
  have h := loop_any (step := q61_L3_s loO) (fun n => (a, l, (n : Int))) a.length (fun n => decide (a.getD n 0 ∈ l)) (.inl true) (.inr ())
    (by simp only [q61_L3_s]; rw [cF _ _ (by omega)])
    (fun n hn => by
      have e1 : IntKind.wrap .i64 ((n : Int) + 1) = ((n + 1 : Nat) : Int) := by rw [wr6 (by omega) (by omega)]; omega
      simp only [q61_L3_s, Int.toNat_natCast, e1, has_eq _ _ hl, bindS]
      rw [cT _ _ (by omega), chkT _ (by omega)])
  rw [range_any a 0 (fun x => decide (x ∈ l))] at h
  have h' : q61_L3 loO (a, l, (0 : Int)) = some (bif (a.any fun x => decide (x ∈ l)) then .inl true else .inr ()) := h
  simp only [q61, h', bindS]
  cases (a.any fun x => decide (x ∈ l)) <;> rfl
def hitB (es : List (List Int)) (l : List Int) : Bool := es.all fun e => e.any fun x => decide (x ∈ l)
theorem hits_eq {w : List Int} {es : List (List Int)} (h8 : In8 w es) (l : List Int) (hl : l.length ≤ 100000) : q62 loO w es l = some (hitB es l) := by
  have hel := h8.el
  have h := loop_any (step := q62_L3_s loO) (fun n => (l, (n : Int), w, es)) es.length (fun n => !((es.getD n []).any fun x => decide (x ∈ l))) (.inl false) (.inr ())
    (by simp only [q62_L3_s]; rw [cF _ _ (by omega)])
    (fun n hn => by
      have e1 : IntKind.wrap .i64 ((n : Int) + 1) = ((n + 1 : Nat) : Int) := by rw [wr6 (by omega) (by omega)]; omega
      have := h8.e8 (gmem es [] n hn)
      simp only [q62_L3_s, Int.toNat_natCast, e1, meets_eq (es.getD n []) l (by omega) hl, bindS]
      rw [cT _ _ (by omega), chkT _ (by omega)])
  rw [range_any es [] (fun e => !(e.any fun x => decide (x ∈ l)))] at h
  have h' : q62_L3 loO (l, (0 : Int), w, es) = some (bif (es.any fun e => !(e.any fun x => decide (x ∈ l))) then .inl false else .inr ()) := h
  have e : hitB es l = !(es.any fun e => !(e.any fun x => decide (x ∈ l))) := by simp [hitB, List.any_eq_not_all_not]
  simp only [q62, h', bindS, e]
  cases (es.any fun e => !(e.any fun x => decide (x ∈ l))) <;> rfl
theorem rvalid_ok {w : List Int} {es : List (List Int)} (h8 : In8 w es) : q54 loO w es = some 0 := by
  have hwl := h8.wl
  have hel := h8.el
  have h1 : q54_L22 loO ((0 : Int), w, es) = some (.inr (w, es)) := loop_at (step := q54_L22_s loO) (st := fun n => ((n : Int), w, es)) (N := w.length) rfl
    (by simp only [q54_L22_s]; rw [cF _ _ (by omega)])
    (fun n hn => by
      have e1 : IntKind.wrap .i64 ((n : Int) + 1) = ((n + 1 : Nat) : Int) := by rw [wr6 (by omega) (by omega)]; omega
      have := h8.wv _ (gmem w 0 n hn)
      simp only [q54_L22_s, Int.toNat_natCast, e1]
      rw [cT _ _ (by omega), chkT _ (by omega), cF _ _ (by omega), chkT _ (by omega), cF _ _ (by omega)])
  have h2 : q54_L3 loO ((0 : Int), w, es) = some (.inr ()) := loop_at (step := q54_L3_s loO) (st := fun n => ((n : Int), w, es)) (N := es.length) rfl
    (by simp only [q54_L3_s]; rw [cF _ _ (by omega)])
    (fun n hn => by
      have e1 : IntKind.wrap .i64 ((n : Int) + 1) = ((n + 1 : Nat) : Int) := by rw [wr6 (by omega) (by omega)]; omega
      obtain ⟨hne, hp, hr⟩ := h8.ev _ (gmem es [] n hn)
      have h8e := h8.e8 (gmem es [] n hn)
      have hpos : 0 < (es.getD n []).length := List.length_pos_iff.2 hne
      have h3 : q54_L8 loO ((n : Int), (-1 : Int), (0 : Int), w, es) = some (.inr ((n : Int), (es.getD n []).getD ((es.getD n []).length - 1) 0, w, es)) := loop_at (step := q54_L8_s loO) (st := fun k => ((n : Int), (if k = 0 then -1 else (es.getD n []).getD (k - 1) 0), (k : Int), w, es)) (N := (es.getD n []).length) rfl
        (by simp only [q54_L8_s, Int.toNat_natCast]; rw [chkT _ (by omega), cF _ _ (by omega), if_neg (by omega)])
        (fun k hk => by
          have e1 : IntKind.wrap .i64 ((k : Int) + 1) = ((k + 1 : Nat) : Int) := by rw [wr6 (by omega) (by omega)]; omega
          have hv := hr _ (gmem _ 0 k hk)
          have hlt : (if k = 0 then -1 else (es.getD n []).getD (k - 1) 0) < (es.getD n []).getD k 0 := by
            split
            · omega
            · exact pair_get hp (k - 1) k (by omega) hk
          simp only [q54_L8_s, Int.toNat_natCast, e1]
          rw [chkT _ (by omega), cT _ _ (by omega), chkT _ (by omega), chkT _ (by omega), cF _ _ (by omega), cF _ _ (by omega)]
          simp)
      have hv := hr _ (gmem _ 0 ((es.getD n []).length - 1) (by omega))
      simp only [q54_L3_s, h3, bindS, alt2_r, e1]
      rw [cT _ _ (by omega), cF _ _ (by omega)])
  simp only [q54, h1, h2, bindS, alt2_r]
  rw [cF _ _ (by omega), cF _ _ (by omega)]
def sumw (w : List Int) (l : List Int) : Int := (l.map fun v => w.getD v.toNat 0).sum
theorem sumw_app (w a c : List Int) : sumw w (a ++ c) = sumw w a + sumw w c := by simp [sumw]
theorem sumw_bd {w : List Int} (hw : ∀ x ∈ w, 1 ≤ x ∧ x ≤ 20) : ∀ l : List Int, 0 ≤ sumw w l ∧ sumw w l ≤ 20 * (l.length : Int)
  | [] => by simp [sumw]
  | v :: r => by
    have ih := sumw_bd hw r
    have : 0 ≤ w.getD v.toNat 0 ∧ w.getD v.toNat 0 ≤ 20 := by
      by_cases h : v.toNat < w.length
      · have := hw _ (gmem w 0 v.toNat h); omega
      · rw [List.getD_eq_getElem?_getD, List.getElem?_eq_none (by omega)]; simp
    have e : sumw w (v :: r) = w.getD v.toNat 0 + sumw w r := by simp [sumw]
    rw [e, List.length_cons]
    omega
theorem take_succ' {α : Type} (l : List α) (d : α) (n : Nat) (h : n < l.length) : l.take (n + 1) = l.take n ++ [l.getD n d] := by
  rw [← List.take_append_getElem h, List.getD_eq_getElem?_getD, List.getElem?_eq_getElem h]; rfl
theorem nodup_take {l : List Int} (h : l.Nodup) (n : Nat) (hn : n < l.length) : l.getD n 0 ∉ l.take n := by
  have h1 : (l.take (n + 1)).Nodup := h.sublist (List.take_sublist _ _)
  rw [take_succ' l 0 n hn, List.nodup_append] at h1
  intro hm
  exact h1.2.2 _ hm _ (by simp) rfl
theorem rweight_ok {w : List Int} {es : List (List Int)} (h8 : In8 w es) (l : List Int) (hd : l.Nodup) (hl : l.length ≤ 100) (hr : ∀ v ∈ l, 0 ≤ v ∧ v < (w.length : Int)) : q59 loO w es l = some (sumw w l, 0) := by
  have hwl := h8.wl
  have h1 : q59_L3 loO (l, (0 : Int), (0 : Int), w, es) = some (.inr (sumw w l)) := loop_at (step := q59_L3_s loO) (st := fun n => (l, sumw w (l.take n), (n : Int), w, es)) (N := l.length) rfl
    (by simp only [q59_L3_s]; rw [cF _ _ (by omega), List.take_of_length_le (by omega)])
    (fun n hn => by
      have e1 : IntKind.wrap .i64 ((n : Int) + 1) = ((n + 1 : Nat) : Int) := by rw [wr6 (by omega) (by omega)]; omega
      have hv := hr _ (gmem l 0 n hn)
      have hm := nodup_take hd n hn
      have hb := sumw_bd h8.wv (l.take n)
      have hlt : (l.take n).length ≤ n := by simp; omega
      have hx := h8.wv _ (gmem w 0 (l.getD n 0).toNat (by omega))
      have e2 : sumw w (l.take (n + 1)) = IntKind.wrap .i64 (sumw w (l.take n) + w.getD (l.getD n 0).toNat 0) := by
        rw [wr6 (by omega) (by omega), take_succ' l 0 n hn, sumw_app]
        simp [sumw]
      simp only [q59_L3_s, Int.toNat_natCast, e1, List.drop_zero, has_eq _ _ (show (l.take n).length ≤ 100000 by omega), bindS, hm, decide_false, cond_false, e2]
      rw [cT _ _ (by omega), chkT _ (by omega), cF _ _ (by omega), chkT _ (by omega), cF _ _ (by omega), chkT _ (by omega), chkT _ (by omega), chkT _ (by omega), chkT _ (by omega)])
  simp only [q59, rvalid_ok h8, h1, bindS, alt2_r, decide_true, Bool.not_true, cond_false]
theorem asc_ok (l : List Int) (hp : l.Pairwise (· < ·)) (hl : l.length ≤ 100) : q60 loO l = some true := by
  have h1 : q60_L3 loO (l, (1 : Int)) = some (.inr ()) := loop_at (step := q60_L3_s loO) (st := fun n => (l, ((n + 1 : Nat) : Int))) (N := l.length - 1) rfl
    (by simp only [q60_L3_s]; rw [cF _ _ (by omega)])
    (fun n hn => by
      have e1 : IntKind.wrap .i64 (((n + 1 : Nat) : Int) + 1) = ((n + 1 + 1 : Nat) : Int) := by rw [wr6 (by omega) (by omega)]; omega
      have e2 : IntKind.wrap .i64 (((n + 1 : Nat) : Int) - 1) = (n : Int) := by rw [wr6 (by omega) (by omega)]; omega
      have := pair_get hp n (n + 1) (by omega) (by omega)
      simp only [q60_L3_s, Int.toNat_natCast, e1, e2]
      rw [cT _ _ (by omega), chkT _ (by omega), chkT _ (by omega), cF _ _ (by omega)])
  simp only [q60, h1, bindS, alt2_r]
end Go.Abs.G39
namespace Go.Abs.G39
open Go Go.Abs
set_option linter.unusedSimpArgs false
set_option linter.unusedVariables false
set_option maxRecDepth 100000
theorem bit1 (m : Nat) (h : m < 65536) : bits .and .i64 (m : Int) (1 : Int) = ((m % 2 : Nat) : Int) := by
  have hk : IntKind.bits .i64 = 64 := rfl
  have e : (BitVec.ofInt 64 (m : Int) &&& BitVec.ofInt 64 ((1 : Nat) : Int)).toNat = m % 2 := by
    rw [BitVec.toNat_and, BitVec.ofInt_natCast, BitVec.ofInt_natCast, BitVec.toNat_ofNat, BitVec.toNat_ofNat, Nat.mod_eq_of_lt (by omega), Nat.mod_eq_of_lt (by omega), Nat.and_one_is_mod]
  show IntKind.wrap .i64 ((BitVec.ofInt 64 (m : Int) &&& BitVec.ofInt 64 ((1 : Nat) : Int)).toNat : Nat) = _
  rw [e, wr6 (by omega) (by omega)]
theorem bit_cond (b i : Nat) (hb : b < 65536) (hi : i ≤ 60) : (bits .and .i64 ((b : Int).fdiv (2 ^ (min i (IntKind.bits .i64)))) (1 : Int) = 1) ↔ b.testBit i = true := by
  have hk : IntKind.bits .i64 = 64 := rfl
  rw [hk, Nat.min_eq_left (by omega)]
  have e1 : ((2 : Int) ^ i) = ((2 ^ i : Nat) : Int) := by simp
  rw [e1, Int.fdiv_eq_ediv_of_nonneg _ (Int.natCast_nonneg _)]
  have e2 : ((b : Int) / ((2 ^ i : Nat) : Int)) = ((b / 2 ^ i : Nat) : Int) := rfl
  rw [e2, bit1 _ (Nat.lt_of_le_of_lt (Nat.div_le_self _ _) hb), Nat.testBit_eq_decide_div_mod_eq]
  simp only [decide_eq_true_eq]
  omega
def subB (b n : Nat) : List Int := ((List.range n).filter fun i => b.testBit i).map fun (i : Nat) => (i : Int)
theorem subB_succ (b n : Nat) : subB b (n + 1) = subB b n ++ (if b.testBit n then [(n : Int)] else []) := by
  unfold subB
  rw [List.range_succ, List.filter_append, List.map_append]
  cases h : b.testBit n <;> simp [h]
theorem subB_len (b n : Nat) : (subB b n).length ≤ n := by
  unfold subB
  rw [List.length_map]
  exact Nat.le_trans (List.length_filter_le _ _) (by simp)
theorem subB_mem (b n : Nat) (v : Int) : v ∈ subB b n ↔ 0 ≤ v ∧ v < (n : Int) ∧ b.testBit v.toNat = true := by
  unfold subB
  simp only [List.mem_map, List.mem_filter, List.mem_range]
  constructor
  · rintro ⟨i, ⟨h1, h2⟩, rfl⟩; simp; exact ⟨by omega, h2⟩
  · rintro ⟨h1, h2, h3⟩; exact ⟨v.toNat, ⟨by omega, h3⟩, by omega⟩
theorem subB_asc (b n : Nat) : (subB b n).Pairwise (· < ·) := by
  unfold subB
  rw [List.pairwise_map]
  exact (List.pairwise_lt_range.filter _).imp (fun h => by omega)
theorem subset_eq (b n : Nat) (hb : b < 65536) (hn : n ≤ 16) : q56 loO (b : Int) (n : Int) = some (subB b n) := by
  have hmx : maxEl ≥ 100000 := by decide
  have h1 : q56_L3 loO ((b : Int), (n : Int), (0 : Int), []) = some (subB b n) := loop_at (step := q56_L3_s loO) (st := fun k => ((b : Int), (n : Int), (k : Int), subB b k)) (N := n) rfl
    (by simp only [q56_L3_s]; rw [cF _ _ (by omega)])
    (fun k hk => by
      have e1 : IntKind.wrap .i64 ((k : Int) + 1) = ((k + 1 : Nat) : Int) := by rw [wr6 (by omega) (by omega)]; omega
      have hl := subB_len b k
      simp only [q56_L3_s, Int.toNat_natCast, e1]
      rw [cT _ _ (by omega), chkT _ (by omega)]
      by_cases h : b.testBit k = true
      · rw [cT _ _ ((bit_cond b k hb (by omega)).2 h), chkT _ (by simp only [List.length_cons, List.length_nil]; omega), subB_succ, if_pos h]
      · rw [cF _ _ (fun x => h ((bit_cond b k hb (by omega)).1 x)), subB_succ, if_neg h, List.append_nil])
  simp only [q56, h1, bindS]
theorem bits_of (p : Nat → Bool) : ∀ n, ∃ b, b < 2 ^ n ∧ ∀ i, i < n → b.testBit i = p i
  | 0 => ⟨0, by simp, fun i h => by omega⟩
  | n + 1 => by
    obtain ⟨b, hb, h⟩ := bits_of p n
    cases hp : p n with
    | false =>
      refine ⟨b, by rw [Nat.pow_succ]; omega, fun i hi => ?_⟩
      by_cases e : i = n
      · subst e; rw [hp]; exact Nat.testBit_lt_two_pow hb
      · exact h i (by omega)
    | true =>
      refine ⟨2 ^ n + b, by rw [Nat.pow_succ]; omega, fun i hi => ?_⟩
      by_cases e : i = n
      · subst e; rw [Nat.testBit_two_pow_add_eq, hp, Nat.testBit_lt_two_pow hb]; rfl
      · rw [Nat.testBit_two_pow_add_gt (by omega)]; exact h i (by omega)
theorem subB_all (n : Nat) (l : List Int) (ha : l.Pairwise (· < ·)) (hr : ∀ v ∈ l, 0 ≤ v ∧ v < (n : Int)) : ∃ b, b < 2 ^ n ∧ subB b n = l := by
  obtain ⟨b, hb, h⟩ := bits_of (fun i => decide ((i : Int) ∈ l)) n
  refine ⟨b, hb, ?_⟩
  refine List.Perm.eq_of_pairwise (fun a c _ _ (h1 : a < c) (h2 : c < a) => by omega) (subB_asc b n) ha ?_
  refine (List.perm_ext_iff_of_nodup (asc_nodup (subB_asc b n)) (asc_nodup ha)).2 fun v => ?_
  rw [subB_mem]
  constructor
  · rintro ⟨h1, h2, h3⟩
    rw [h v.toNat (by omega)] at h3
    have e : ((v.toNat : Nat) : Int) = v := by omega
    rw [e] at h3
    simpa using h3
  · intro hv
    obtain ⟨h1, h2⟩ := hr v hv
    refine ⟨h1, h2, ?_⟩
    rw [h v.toNat (by omega)]
    have e : ((v.toNat : Nat) : Int) = v := by omega
    rw [e]
    simpa using hv
def LB (w : List Int) (es : List (List Int)) (k : Nat) (m : Int) : Prop :=
  (m = -1 ∧ ∀ b, b < k → hitB es (subB b w.length) = false) ∨
  (0 ≤ m ∧ (∃ b, b < k ∧ hitB es (subB b w.length) = true ∧ m = sumw w (subB b w.length)) ∧ ∀ b, b < k → hitB es (subB b w.length) = true → m ≤ sumw w (subB b w.length))
theorem least_loop {w : List Int} {es : List (List Int)} (h8 : In8 w es) : ∀ (j k : Nat) (m : Int), k + j = 2 ^ w.length → LB w es k m → ∃ r, q64_L3 loO (m, (k : Int), w, es) = some r ∧ LB w es (2 ^ w.length) r := by
  have hwl := h8.wl
  have hp : 2 ^ w.length ≤ 2 ^ 8 := Nat.pow_le_pow_right (by decide) hwl
  have hp : 2 ^ w.length ≤ 256 := hp
  have hk : IntKind.bits .i64 = 64 := rfl
  have hlim : IntKind.wrap .i64 ((1 : Int) * 2 ^ (min (w.length : Int).toNat (IntKind.bits .i64))) = ((2 ^ w.length : Nat) : Int) := by
    rw [hk, Int.toNat_natCast, Nat.min_eq_left (by omega), Int.one_mul]
    have e1 : ((2 : Int) ^ w.length) = ((2 ^ w.length : Nat) : Int) := by simp
    rw [e1]
    revert hp
    generalize 2 ^ w.length = N
    intro hp
    exact wr6 (by omega) (by omega)
  revert hp hlim
  generalize 2 ^ w.length = N
  intro hp hlim j
  induction j with
  | zero =>
    intro k m hj hm
    refine ⟨m, ?_, by have : k = N := by omega
                      rw [this] at hm; exact hm⟩
    simp only [q64_L3, runO]
    rw [loopO_eq]
    simp only [q64_L3_s, hlim]
    rw [chkT _ (by omega), cF _ _ (by omega)]
  | succ j ih =>
    intro k m hj hm
    have e1 : IntKind.wrap .i64 ((k : Int) + 1) = ((k + 1 : Nat) : Int) := by rw [wr6 (by omega) (by omega)]; omega
    have hs := subset_eq k w.length (by omega) (by omega)
    have hsl := subB_len k w.length
    have hw := rweight_ok h8 (subB k w.length) (asc_nodup (subB_asc _ _)) (by omega) (fun v hv => by have := (subB_mem _ _ _).1 hv; omega)
    have hh := hits_eq h8 (subB k w.length) (by omega)
    have hb := sumw_bd h8.wv (subB k w.length)
    have step : ∀ m', LB w es (k + 1) m' → (∃ x, q64_L3_s loO (m, (k : Int), w, es) = some (.inl x) ∧ x = (m', ((k + 1 : Nat) : Int), w, es)) → ∃ r, q64_L3 loO (m, (k : Int), w, es) = some r ∧ LB w es (N) r := by
      rintro m' hm' ⟨x, hx, rfl⟩
      obtain ⟨r, hr, hl⟩ := ih (k + 1) m' (by omega) hm'
      refine ⟨r, ?_, hl⟩
      simp only [q64_L3, runO] at *
      rw [loopO_eq, hx]
      exact hr
    cases hc : hitB es (subB k w.length) with
    | false =>
      refine step m ?_ ⟨_, ?_, rfl⟩
      · rcases hm with ⟨h1, h2⟩ | ⟨h1, ⟨b, hb1, hb2⟩, h3⟩
        · exact .inl ⟨h1, fun b hb => by
            by_cases e : b = k
            · subst e; exact hc
            · exact h2 b (by omega)⟩
        · exact .inr ⟨h1, ⟨b, by omega, hb2⟩, fun b hb h => by
            by_cases e : b = k
            · subst e; rw [hc] at h; cases h
            · exact h3 b (by omega) h⟩
      · simp only [q64_L3_s, hlim, hs, hw, hh, hc, bindS, cond_false, e1]
        rw [chkT _ (by omega), cT _ _ (by omega)]
    | true =>
      by_cases hcond : m < 0 ∨ sumw w (subB k w.length) < m
      · refine step (sumw w (subB k w.length)) ?_ ⟨_, ?_, rfl⟩
        · refine .inr ⟨hb.1, ⟨k, by omega, hc, rfl⟩, fun b hbk h => ?_⟩
          by_cases e : b = k
          · subst e; omega
          · rcases hm with ⟨h1, h2⟩ | ⟨h1, _, h3⟩
            · rw [h2 b (by omega)] at h; cases h
            · have := h3 b (by omega) h; omega
        · simp only [q64_L3_s, hlim, hs, hw, hh, hc, bindS, cond_true, e1]
          rw [chkT _ (by omega), cT _ _ (by omega)]
          by_cases hm0 : m < 0
          · rw [cT _ _ hm0]
          · rw [cF _ _ hm0, cT _ _ (by omega)]
      · refine step m ?_ ⟨_, ?_, rfl⟩
        · rcases hm with ⟨h1, h2⟩ | ⟨h1, ⟨b, hb1, hb2⟩, h3⟩
          · omega
          · exact .inr ⟨h1, ⟨b, by omega, hb2⟩, fun b hb h => by
              by_cases e : b = k
              · subst e; omega
              · exact h3 b (by omega) h⟩
        · simp only [q64_L3_s, hlim, hs, hw, hh, hc, bindS, cond_true, e1]
          rw [chkT _ (by omega), cT _ _ (by omega), cF _ _ (by omega), cF _ _ (by omega)]
theorem least_eq {w : List Int} {es : List (List Int)} (h8 : In8 w es) : ∃ m, q64 loO w es = some m ∧ LB w es (2 ^ w.length) m := by
  obtain ⟨r, hr, hl⟩ := least_loop h8 (2 ^ w.length) 0 (-1) (by omega) (.inl ⟨rfl, fun b h => by omega⟩)
  refine ⟨r, ?_, hl⟩
  have hr' : q64_L3 loO ((-1 : Int), (0 : Int), w, es) = some r := hr
  simp only [q64, hr', bindS]
theorem least_le {w : List Int} {es : List (List Int)} {m : Int} (h : LB w es (2 ^ w.length) m) (l : List Int) (ha : l.Pairwise (· < ·)) (hr : ∀ v ∈ l, 0 ≤ v ∧ v < (w.length : Int)) (hh : hitB es l = true) : 0 ≤ m ∧ m ≤ sumw w l := by
  obtain ⟨b, hb, e⟩ := subB_all w.length l ha hr
  rcases h with ⟨h1, h2⟩ | ⟨h1, _, h3⟩
  · have := h2 b hb; rw [e, hh] at this; cases this
  · have := h3 b hb (by rw [e]; exact hh)
    rw [e] at this
    exact ⟨h1, this⟩
theorem of_ok (c d : List Int) (hc : ∀ x ∈ c, 0 ≤ x ∧ x ≤ 255) (hd : ∀ x ∈ d, 0 ≤ x ∧ x ≤ 65535) : ∃ w es ok, q57 loO c d = some (w, es, ok) ∧ (ok = true → In8 w es) := by
  have hmx : maxEl ≥ 100000 := by decide
  by_cases h1 : 8 < c.length
  · refine ⟨_, _, _, by simp only [q57]; rw [cT _ _ (by omega)], fun h => by cases h⟩
  by_cases h2 : 12 < d.length
  · refine ⟨_, _, _, by simp only [q57]; rw [cF _ _ (by omega), cT _ _ (by omega)], fun h => by cases h⟩
  have hm : ∀ x : Int, 0 ≤ x → x ≤ 255 → IntKind.wrap .i64 ((1 : Int) + (IntKind.wrap .i64 (x.tmod (20 : Int)))) = 1 + x % 20 := by
    intro x h0 h1
    rw [Int.tmod_eq_emod_of_nonneg h0, wr6 (n := x % 20) (by omega) (by omega), wr6 (by omega) (by omega)]
  let f : Int → Int := fun x => 1 + x % 20
  have l1 : q57_L11 loO ((0 : Int), c, d, ([] : List Int), ([] : List ((List Int))), [], []) = some (c, d, [], [], c.map f, []) := loop_at (step := q57_L11_s loO) (st := fun n => ((n : Int), c, d, ([] : List Int), ([] : List ((List Int))), (c.take n).map f, [])) (N := c.length) rfl
    (by simp only [q57_L11_s]; rw [cF _ _ (by omega), List.take_of_length_le (by omega)])
    (fun n hn => by
      have e1 : IntKind.wrap .i64 ((n : Int) + 1) = ((n + 1 : Nat) : Int) := by rw [wr6 (by omega) (by omega)]; omega
      have hx := hc _ (gmem c 0 n hn)
      have ll : ((c.take n).map f).length = n := by rw [List.length_map, List.length_take]; omega
      simp only [q57_L11_s, Int.toNat_natCast, e1, hm _ hx.1 hx.2, ll, List.length_cons, List.length_nil]
      rw [cT _ _ (by omega), chkT _ (by omega), chkT _ (by omega), chkT _ (by omega), take_succ' c 0 n hn, List.map_append]
      rfl)
  let g : Int → List Int := fun x => subB x.toNat c.length
  let q : List Int → Bool := fun e => decide (0 < e.length)
  have l2 : q57_L3 loO ((0 : Int), c, d, ([] : List Int), ([] : List ((List Int))), c.map f, []) = some ([], [], c.map f, (d.map g).filter q) := loop_at (step := q57_L3_s loO) (st := fun n => ((n : Int), c, d, ([] : List Int), ([] : List ((List Int))), c.map f, ((d.take n).map g).filter q)) (N := d.length) rfl
    (by simp only [q57_L3_s]; rw [cF _ _ (by omega), List.take_of_length_le (by omega)])
    (fun n hn => by
      have e1 : IntKind.wrap .i64 ((n : Int) + 1) = ((n + 1 : Nat) : Int) := by rw [wr6 (by omega) (by omega)]; omega
      have hx := hd _ (gmem d 0 n hn)
      have e2 : IntKind.wrap .i64 (d.getD n 0) = (((d.getD n 0).toNat : Nat) : Int) := by rw [wr6 (by omega) (by omega)]; omega
      have ll : (((d.take n).map g).filter q).length ≤ n := Nat.le_trans (List.length_filter_le _ _) (by rw [List.length_map, List.length_take]; omega)
      have e3 : ((d.take (n + 1)).map g).filter q = ((d.take n).map g).filter q ++ (if 0 < (g (d.getD n 0)).length then [g (d.getD n 0)] else []) := by
        rw [take_succ' d 0 n hn, List.map_append, List.filter_append]
        simp only [List.map_cons, List.map_nil, List.filter_cons, List.filter_nil]
        simp [q]
      have hs := subset_eq (d.getD n 0).toNat c.length (by omega) (by omega)
      simp only [q57_L3_s, Int.toNat_natCast, e1, e2, hs, bindS]
      rw [cT _ _ (by omega), chkT _ (by omega), e3]
      by_cases h : 0 < (subB (d.getD n 0).toNat c.length).length
      · rw [cT _ _ (by omega), chkT _ (by simp only [List.length_cons, List.length_nil]; omega), if_pos h]
      · rw [cF _ _ (by omega), if_neg h, List.append_nil])
  refine ⟨c.map f, (d.map g).filter q, true, ?_, fun _ => ?_⟩
  · simp only [q57, l1, l2, bindS]
    rw [cF _ _ (by omega), cF _ _ (by omega)]
  · refine ⟨by rw [List.length_map]; omega, ?_, ?_, ?_⟩
    · intro x hx
      obtain ⟨y, hy, rfl⟩ := List.mem_map.1 hx
      have := hc y hy
      show 1 ≤ 1 + y % 20 ∧ 1 + y % 20 ≤ 20
      omega
    · exact Nat.le_trans (List.length_filter_le _ _) (by rw [List.length_map]; omega)
    · intro e he
      obtain ⟨h3, h4⟩ := List.mem_filter.1 he
      obtain ⟨y, hy, rfl⟩ := List.mem_map.1 h3
      refine ⟨?_, subB_asc _ _, fun v hv => ?_⟩
      · intro h0
        have h4 : decide (0 < (g y).length) = true := h4
        rw [h0] at h4
        cases h4
      · have := (subB_mem _ _ _).1 hv
        rw [List.length_map]; omega
end Go.Abs.G39
namespace Go.Abs.G39
open Go Go.Abs
set_option linter.unusedSimpArgs false
set_option linter.unusedVariables false
set_option maxRecDepth 100000
theorem gvalid_ok {w : List Int} {es : List (List Int)} (h8 : In8 w es) : q1 loO w es = some 0 := by
  have hwl := h8.wl
  have hel := h8.el
  have h1 : q1_L23 loO (w, (w.length : Int), (0 : Int), w, es) = some (.inr (w, es)) := loop_at (step := q1_L23_s loO) (st := fun n => (w, (w.length : Int), (n : Int), w, es)) (N := w.length) rfl
    (by simp only [q1_L23_s]; rw [cF _ _ (by omega)])
    (fun n hn => by
      have e1 : IntKind.wrap .i64 ((n : Int) + 1) = ((n + 1 : Nat) : Int) := by rw [wr6 (by omega) (by omega)]; omega
      have := h8.wv _ (gmem w 0 n hn)
      simp only [q1_L23_s, Int.toNat_natCast, e1]
      rw [cT _ _ (by omega), chkT _ (by omega), cF _ _ (by omega), cF _ _ (by omega)])
  have h2 : q1_L3 loO (es, (es.length : Int), (0 : Int), w, es) = some (.inr ()) := loop_at (step := q1_L3_s loO) (st := fun n => (es, (es.length : Int), (n : Int), w, es)) (N := es.length) rfl
    (by simp only [q1_L3_s]; rw [cF _ _ (by omega)])
    (fun n hn => by
      have e1 : IntKind.wrap .i64 ((n : Int) + 1) = ((n + 1 : Nat) : Int) := by rw [wr6 (by omega) (by omega)]; omega
      obtain ⟨hne, hp, hr⟩ := h8.ev _ (gmem es [] n hn)
      have h8e := h8.e8 (gmem es [] n hn)
      have hpos : 0 < (es.getD n []).length := List.length_pos_iff.2 hne
      have h3 : q1_L8 loO (es.getD n [], (-1 : Int), es, (es.length : Int), (n : Int), es.getD n [], ((es.getD n []).length : Int), (0 : Int), w, es) = some (.inr (es.getD n [], es, (es.length : Int), (n : Int), w, es)) := loop_at (step := q1_L8_s loO) (st := fun k => (es.getD n [], (if k = 0 then -1 else (es.getD n []).getD (k - 1) 0), es, (es.length : Int), (n : Int), es.getD n [], ((es.getD n []).length : Int), (k : Int), w, es)) (N := (es.getD n []).length) rfl
        (by simp only [q1_L8_s, Int.toNat_natCast]; rw [cF _ _ (by omega)])
        (fun k hk => by
          have e1 : IntKind.wrap .i64 ((k : Int) + 1) = ((k + 1 : Nat) : Int) := by rw [wr6 (by omega) (by omega)]; omega
          have hv := hr _ (gmem _ 0 k hk)
          have hlt : (if k = 0 then -1 else (es.getD n []).getD (k - 1) 0) < (es.getD n []).getD k 0 := by
            split
            · omega
            · exact pair_get hp (k - 1) k (by omega) hk
          simp only [q1_L8_s, Int.toNat_natCast, e1]
          rw [cT _ _ (by omega), chkT _ (by omega), cF _ _ (by omega), cF _ _ (by omega)]
          simp)
      simp only [q1_L3_s, Int.toNat_natCast, h3, bindS, alt2_r, e1]
      rw [cT _ _ (by omega), chkT _ (by omega), cF _ _ (by omega)])
  simp only [q1, h1, h2, bindS, alt2_r]
  rw [cF _ _ (by omega), cF _ _ (by omega)]
theorem set_set_perm (l : List Int) (i j : Nat) (hi : i < l.length) (hj : j < l.length) : ((l.set i (l.getD j 0)).set j (l.getD i 0)).Perm l := by
  have e1 : l.getD i 0 = l[i] := by rw [List.getD_eq_getElem?_getD, List.getElem?_eq_getElem hi]; rfl
  have e2 : l.getD j 0 = l[j] := by rw [List.getD_eq_getElem?_getD, List.getElem?_eq_getElem hj]; rfl
  rw [e1, e2]
  exact List.set_set_perm hi hj
theorem isort_inner {w : List Int} (es : List (List Int)) (hwl : w.length ≤ 8) (a b i : Int) : ∀ (j : Nat) (l : List Int), j < l.length → l.length ≤ 100 → (∀ v ∈ l, 0 ≤ v ∧ v < (w.length : Int)) →
    ∃ l', q3_L3 loO (0, b, i, (j : Int), l, w, es) = some (0, b, i, l', w, es) ∧ l'.Perm l
  | 0, l, _, _, _ => by
    refine ⟨l, ?_, List.Perm.refl _⟩
    simp only [q3_L3, runO]
    rw [loopO_eq]
    simp only [q3_L3_s]
    rw [cF _ _ (by omega)]
  | j + 1, l, hj, hl, hr => by
    have e1 : IntKind.wrap .i64 (((j + 1 : Nat) : Int) - 1) = (j : Int) := by rw [wr6 (by omega) (by omega)]; omega
    have hv1 := hr _ (gmem l 0 (j + 1) hj)
    have hv2 := hr _ (gmem l 0 j (by omega))
    have hp := set_set_perm l (j + 1) j hj (by omega)
    have hg : q2 loO (l.getD (j + 1) 0) (l.getD j 0) w es = some (IntKind.wrap .i64 (w.getD (l.getD j 0).toNat 0 - w.getD (l.getD (j + 1) 0).toNat 0), w, es) := by
      simp only [q2]
      rw [chkT _ (by omega), chkT _ (by omega)]
    simp only [q3_L3, runO]
    rw [loopO_eq]
    simp only [q3_L3_s, e1, Int.toNat_natCast, hg, bindS]
    rw [cT _ _ (by omega), chkT _ (by omega), chkT _ (by omega)]
    by_cases hc : IntKind.wrap .i64 (w.getD (l.getD j 0).toNat 0 - w.getD (l.getD (j + 1) 0).toNat 0) < 0
    · obtain ⟨l', h1, h2⟩ := isort_inner es hwl a b i j ((l.set (j + 1) (l.getD j 0)).set j (l.getD (j + 1) 0)) (by simp; omega) (by simpa using hl) (fun v hv => hr v (hp.mem_iff.1 hv))
      refine ⟨l', ?_, h2.trans hp⟩
      rw [cT _ _ hc, chkT _ (by omega), chkT _ (by omega), chkT _ (by omega), chkT _ (by rw [List.length_set]; omega)]
      simp only [q3_L3, runO] at h1
      exact h1
    · rw [cF _ _ hc]
      exact ⟨l, rfl, List.Perm.refl _⟩
theorem isort_outer {w : List Int} (es : List (List Int)) (hwl : w.length ≤ 8) (n : Nat) : ∀ (k i : Nat) (l : List Int), i + k = n → l.length = n → n ≤ 100 → (∀ v ∈ l, 0 ≤ v ∧ v < (w.length : Int)) →
    ∃ l', q3_L1 loO (0, (n : Int), (i : Int), l, w, es) = some (l', w, es) ∧ l'.Perm l
  | 0, i, l, hi, _, _, _ => by
    refine ⟨l, ?_, List.Perm.refl _⟩
    simp only [q3_L1, runO]
    rw [loopO_eq]
    simp only [q3_L1_s]
    rw [cF _ _ (by omega)]
  | k + 1, i, l, hi, hl, hn, hr => by
    have e1 : IntKind.wrap .i64 ((i : Int) + 1) = ((i + 1 : Nat) : Int) := by rw [wr6 (by omega) (by omega)]; omega
    obtain ⟨l1, h1, p1⟩ := isort_inner es hwl 0 (n : Int) (i : Int) i l (by omega) (by omega) hr
    obtain ⟨l2, h2, p2⟩ := isort_outer es hwl n k (i + 1) l1 (by omega) (by rw [p1.length_eq, hl]) hn (fun v hv => hr v (p1.mem_iff.1 hv))
    refine ⟨l2, ?_, p2.trans p1⟩
    simp only [q3_L1, runO] at *
    rw [loopO_eq]
    simp only [q3_L1_s, h1, bindS, e1]
    rw [cT _ _ (by omega)]
    exact h2
theorem stable_ok {w : List Int} (es : List (List Int)) (hwl : w.length ≤ 8) (l : List Int) (hl : l.length ≤ 8) (hr : ∀ v ∈ l, 0 ≤ v ∧ v < (w.length : Int)) : ∃ l', q6 loO l w es = some (l', w, es) ∧ l'.Perm l := by
  have h16 : q5_L16 loO ((l.length : Int), 20, 0, 20, l, w, es) = some ((l.length : Int), 20, 0, l, w, es) := by
    simp only [q5_L16, runO]
    rw [loopO_eq]
    simp only [q5_L16_s]
    rw [cF _ _ (by omega)]
  have e1 : IntKind.wrap .i64 ((0 : Int) + 1) = ((1 : Nat) : Int) := by rw [wr6 (by omega) (by omega)]; rfl
  have hin : ∃ l', q3 loO 0 (l.length : Int) l w es = some (l', w, es) ∧ l'.Perm l := by
    by_cases h0 : l.length = 0
    · refine ⟨l, ?_, List.Perm.refl _⟩
      simp only [q3, q3_L1, runO, e1]
      rw [loopO_eq]
      simp only [q3_L1_s]
      rw [cF _ _ (by omega)]
      rfl
    · obtain ⟨l', h1, h2⟩ := isort_outer es hwl l.length (l.length - 1) 1 l (by omega) rfl (by omega) hr
      refine ⟨l', ?_, h2⟩
      simp only [q3, e1, h1, bindS]
  obtain ⟨l', h1, h2⟩ := hin
  have hL1 : q5_L1 loO ((l.length : Int), 20, l', w, es) = some (l', w, es) := by
    simp only [q5_L1, runO]
    rw [loopO_eq]
    simp only [q5_L1_s]
    rw [cF _ _ (by omega)]
  refine ⟨l', ?_, h2⟩
  simp only [q6, q5, h16, h1, bindS, hL1]
  rw [chkT _ h2.length_eq]
  simp only [bindS]
  rw [chkT _ h2.length_eq]
def atE (es : List (List Int)) (n : Nat) (v : Nat) : List Int := ((List.range n).filter fun i => decide ((v : Int) ∈ es.getD i [])).map fun (i : Nat) => (i : Int)
theorem atE_succ (es : List (List Int)) (n v : Nat) : atE es (n + 1) v = atE es n v ++ (if (v : Int) ∈ es.getD n [] then [(n : Int)] else []) := by
  unfold atE
  rw [List.range_succ, List.filter_append, List.map_append]
  by_cases h : (v : Int) ∈ es.getD n [] <;> simp only [h, List.filter_cons, List.filter_nil, decide_true, decide_false, if_true, if_false, Bool.false_eq_true, List.map_cons, List.map_nil]
theorem atE_len (es : List (List Int)) (n v : Nat) : (atE es n v).length ≤ n := by
  unfold atE
  rw [List.length_map]
  exact Nat.le_trans (List.length_filter_le _ _) (by simp)
theorem atE_mem (es : List (List Int)) (n v : Nat) (i : Int) : i ∈ atE es n v ↔ 0 ≤ i ∧ i < (n : Int) ∧ (v : Int) ∈ es.getD i.toNat [] := by
  unfold atE
  simp only [List.mem_map, List.mem_filter, List.mem_range, decide_eq_true_eq]
  constructor
  · rintro ⟨k, ⟨h1, h2⟩, rfl⟩; simp; exact ⟨by omega, by simpa using h2⟩
  · rintro ⟨h1, h2, h3⟩; exact ⟨i.toNat, ⟨by omega, h3⟩, by omega⟩
theorem atE_nodup (es : List (List Int)) (n v : Nat) : (atE es n v).Nodup := by
  unfold atE List.Nodup
  rw [List.pairwise_map]
  exact (List.nodup_range.filter _).imp (fun h => by omega)
theorem g30 {w : List Int} {es : List (List Int)} (h8 : In8 w es) : q25_L30 loO (es, (es.length : Int), (0 : Int), w, es, List.replicate w.length [], List.replicate es.length 0) = some (w, es, tab w.length (atE es es.length), tab es.length fun i => ((es.getD i []).length : Int)) := by
  have hmx : maxEl ≥ 100000 := by decide
  have hwl := h8.wl
  have hel := h8.el
  refine loop_at (step := q25_L30_s loO) (st := fun n => (es, (es.length : Int), (n : Int), w, es, tab w.length (atE es n), tab es.length fun i => if i < n then ((es.getD i []).length : Int) else 0)) (N := es.length) ?_ ?_ ?_
  · rw [tab_rep, tab_rep, tab_congr (f := fun _ => ([] : List Int)) (g := atE es 0) (fun k _ => by simp [atE])]
    simp
  · simp only [q25_L30_s]
    rw [cF _ _ (by omega)]
    rw [tab_congr (f := fun i => if i < es.length then ((es.getD i []).length : Int) else 0) (g := fun i => ((es.getD i []).length : Int)) (fun k hk => by rw [if_pos hk])]
  · intro n hn
    have e1 : IntKind.wrap .i64 ((n : Int) + 1) = ((n + 1 : Nat) : Int) := by rw [wr6 (by omega) (by omega)]; omega
    obtain ⟨hne, hp, hr⟩ := h8.ev _ (gmem es [] n hn)
    have h8e := h8.e8 (gmem es [] n hn)
    have hin : ∀ h3 : List Int, q25_L32 loO ((n : Int), es, (es.length : Int), (n : Int), es.getD n [], ((es.getD n []).length : Int), (0 : Int), w, es, tab w.length (atE es n), h3) = some (es, (es.length : Int), (n : Int), w, es, tab w.length (atE es (n + 1)), h3) := by
      intro h3
      refine loop_at (step := q25_L32_s loO) (st := fun m => ((n : Int), es, (es.length : Int), (n : Int), es.getD n [], ((es.getD n []).length : Int), (m : Int), w, es, tab w.length (fun v => atE es n v ++ (if (v : Int) ∈ (es.getD n []).take m then [(n : Int)] else [])), h3)) (N := (es.getD n []).length) ?_ ?_ ?_
      · simp
      · simp only [q25_L32_s]
        rw [cF _ _ (by omega), List.take_length]
        rw [tab_congr (fun k hk => (atE_succ es n k).symm)]
      · intro m hm
        have e1 : IntKind.wrap .i64 ((m : Int) + 1) = ((m + 1 : Nat) : Int) := by rw [wr6 (by omega) (by omega)]; omega
        have hv := hr _ (gmem _ 0 m hm)
        have hni := nodup_take (asc_nodup hp) m hm
        obtain ⟨v, hv'⟩ : ∃ v : Nat, (es.getD n []).getD m 0 = (v : Int) := ⟨((es.getD n []).getD m 0).toNat, by omega⟩
        rw [hv'] at hv hni
        have hvl : v < w.length := by omega
        have hal := atE_len es n v
        simp only [q25_L32_s, Int.toNat_natCast, e1, hv', tab_len]
        rw [cT _ _ (by omega), chkT _ (by omega), chkT _ (by omega), tab_get _ _ _ _ hvl, if_neg hni, List.append_nil, chkT _ (by simp only [List.length_cons, List.length_nil]; omega), chkT _ (by omega), chkT _ (by simp), tab_set]
        rw [tab_congr (g := fun v => atE es n v ++ (if (v : Int) ∈ (es.getD n []).take (m + 1) then [(n : Int)] else [])) (fun k hk => by
          rw [take_succ' _ 0 m hm, hv']
          by_cases e : k = v
          · subst e; simp
          · have : (k : Int) ≠ (v : Int) := by omega
            simp [e, this])]
    simp only [q25_L30_s, Int.toNat_natCast, e1, hin, bindS, tab_len]
    rw [cT _ _ (by omega), chkT _ (by omega), chkT _ (by omega), tab_set]
    rw [tab_congr (g := fun i => if i < n + 1 then ((es.getD i []).length : Int) else 0) (fun k hk => by
      by_cases e : k = n
      · subst e; simp
      · by_cases h : k < n
        · simp [e, h, show k < n + 1 by omega]
        · simp [e, h, show ¬ k < n + 1 by omega])]
theorem g22 {w : List Int} {es : List (List Int)} (hwl : w.length ≤ 8) (at6 : List (List Int)) (h4 : List Int) : q25_L22 loO ((w.length : Int), (0 : Int), w, es, at6, List.replicate w.length 0, h4) = some (w, es, at6, tab w.length (fun (v : Nat) => (v : Int)), h4) := by
  refine loop_at (step := q25_L22_s loO) (st := fun n => ((w.length : Int), (n : Int), w, es, at6, tab w.length (fun v => if v < n then (v : Int) else 0), h4)) (N := w.length) ?_ ?_ ?_
  · rw [tab_rep]; simp
  · simp only [q25_L22_s]
    rw [cF _ _ (by omega)]
    rw [tab_congr (g := fun v => (v : Int)) (fun k hk => by rw [if_pos hk])]
  · intro n hn
    have e1 : IntKind.wrap .i64 ((n : Int) + 1) = ((n + 1 : Nat) : Int) := by rw [wr6 (by omega) (by omega)]; omega
    simp only [q25_L22_s, Int.toNat_natCast, e1, tab_len]
    rw [cT _ _ (by omega), chkT _ (by omega), tab_set]
    rw [tab_congr (g := fun v => if v < n + 1 then (v : Int) else 0) (fun k hk => by
      by_cases e : k = n
      · subst e; simp
      · by_cases h : k < n
        · simp [e, h, show k < n + 1 by omega]
        · simp [e, h, show ¬ k < n + 1 by omega])]
end Go.Abs.G39
namespace Go.Abs.G39
open Go Go.Abs
set_option linter.unusedSimpArgs false
set_option linter.unusedVariables false
set_option maxRecDepth 100000
theorem loop_find {S R : Type} {step : S → Option (S ⊕ R)} (st : Nat → S) (N : Nat) (p : Nat → Bool) (yes : Nat → R) (no : R) (he : step (st N) = some (.inr no))
    (hs : ∀ n, n < N → step (st n) = bif p n then some (.inr (yes n)) else some (.inl (st (n + 1)))) : ((List.range N).any p = false ∧ loopO step (st 0) = some no) ∨ ((List.range N).any p = true ∧ ∃ n, n < N ∧ loopO step (st 0) = some (yes n)) := by
  have go : ∀ k n, n + k = N → ((List.range' n k).any p = false ∧ loopO step (st n) = some no) ∨ ((List.range' n k).any p = true ∧ ∃ m, m < N ∧ loopO step (st n) = some (yes m)) := by
    intro k
    induction k with
    | zero => intro n h; rw [loopO_eq]; simp only [Nat.add_zero] at h; subst h; rw [he]; exact .inl ⟨rfl, rfl⟩
    | succ k ih =>
      intro n h
      rw [loopO_eq, hs n (by omega)]
      cases hp : p n with
      | true => exact .inr ⟨by simp [List.range'_succ, hp], n, by omega, rfl⟩
      | false =>
        simp only [cond_false, List.range'_succ, List.any_cons, hp, Bool.false_or]
        exact ih (n + 1) (by omega)
  have := go N 0 (by omega)
  rw [← List.range_eq_range'] at this
  exact this
theorem contains_at (s h : List Int) (hs : s.length ≤ 1000) (hr : ∀ i ∈ s, 0 ≤ i ∧ i < (h.length : Int)) : q9 loO s h = some (s.any fun i => decide (h.getD i.toNat 0 = 1), h) := by
  have hf := loop_find (step := q8_L3_s loO) (fun n => (s, (s.length : Int), (n : Int), h)) s.length (fun n => decide (h.getD (s.getD n 0).toNat 0 = 1)) (fun n => .inl ((n : Int), h)) (.inr h)
    (by simp only [q8_L3_s]; rw [cF _ _ (by omega)])
    (fun n hn => by
      have e1 : IntKind.wrap .i64 ((n : Int) + 1) = ((n + 1 : Nat) : Int) := by rw [wr6 (by omega) (by omega)]; omega
      have hi := hr _ (gmem s 0 n hn)
      have hg : q7 loO (s.getD n 0) h = some (decide (h.getD (s.getD n 0).toNat 0 = 1), h) := by
        simp only [q7]; rw [chkT _ (by omega)]
      simp only [q8_L3_s, Int.toNat_natCast, e1, hg, bindS]
      rw [cT _ _ (by omega), chkT _ (by omega), chkT _ trivial])
  rw [range_any s 0 (fun i => decide (h.getD i.toNat 0 = 1))] at hf
  have e0 : q8_L3 loO (s, (s.length : Int), (0 : Int), h) = loopO (q8_L3_s loO) (s, (s.length : Int), ((0 : Nat) : Int), h) := rfl
  rcases hf with ⟨h1, h2⟩ | ⟨h1, n, hn, h2⟩
  · simp only [q9, q8, e0, h2, bindS, alt2_r, h1]
    rw [chkT _ trivial]; rfl
  · simp only [q9, q8, e0, h2, bindS, alt2_l, h1]
    rw [chkT _ trivial]
    have : decide ((0 : Int) ≤ (n : Int)) = true := by simp
    rw [this]
def rest (e rem : List Int) : List Int := e.filter fun x => decide (x ∉ rem)
theorem rest_nil (e : List Int) : rest e [] = e := List.filter_eq_self.2 (by simp)
theorem rest_cons (e rem : List Int) (v : Int) : rest e (v :: rem) = (rest e rem).filter (· != v) := by
  unfold rest
  rw [List.filter_filter]
  refine List.filter_congr fun x _ => ?_
  by_cases h1 : x = v <;> by_cases h2 : x ∈ rem <;> simp [h1, h2]
theorem rest_len (e rem : List Int) (v : Int) (hd : e.Nodup) : ((rest e (v :: rem)).length : Int) = ((rest e rem).length : Int) - (if v ∈ rest e rem then 1 else 0) := by
  have hd' : (rest e rem).Nodup := hd.sublist List.filter_sublist
  rw [rest_cons, ← hd'.erase_eq_filter, List.length_erase]
  by_cases h : v ∈ rest e rem
  · rw [if_pos h, if_pos h]
    have := List.length_pos_of_mem h
    omega
  · rw [if_neg h, if_neg h]; omega
structure GI (es : List (List Int)) (order : List Int) (k : Nat) (out rem h3 : List Int) : Prop where
  mem : ∀ v, v ∈ order.take k ↔ v ∈ out ∨ v ∈ rem
  sub : out.Sublist (order.take k)
  hh : h3 = tab es.length (fun i => ((rest (es.getD i []) rem).length : Int))
  ne : ∀ e ∈ es, rest e rem ≠ []
  key : ∀ v ∈ out, ∃ e ∈ es, rest e rem = [v]
theorem g6 {es : List (List Int)} (hel : es.length ≤ 12) (at6 : List (List Int)) (a : List Int) (x y : Int) (out ord : List Int) (c : Nat → Int) (hc : ∀ i, i < es.length → 0 ≤ c i ∧ c i ≤ 100) (hd : a.Nodup) (hal : a.length ≤ 12) (hr : ∀ i ∈ a, 0 ≤ i ∧ i < (es.length : Int)) :
    q25_L6 loO (at6, x, y, a, (a.length : Int), (0 : Int), out, ord, tab es.length c) = some (at6, x, y, out, ord, tab es.length fun i => c i - (if (i : Int) ∈ a then 1 else 0)) := by
  refine loop_at (step := q25_L6_s loO) (st := fun m => (at6, x, y, a, (a.length : Int), (m : Int), out, ord, tab es.length fun i => c i - (if (i : Int) ∈ a.take m then 1 else 0))) (N := a.length) ?_ ?_ ?_
  · simp
  · simp only [q25_L6_s]
    rw [cF _ _ (by omega), List.take_length]
  · intro m hm
    have e1 : IntKind.wrap .i64 ((m : Int) + 1) = ((m + 1 : Nat) : Int) := by rw [wr6 (by omega) (by omega)]; omega
    have hv := hr _ (gmem _ 0 m hm)
    have hni := nodup_take hd m hm
    obtain ⟨v, hv'⟩ : ∃ v : Nat, a.getD m 0 = (v : Int) := ⟨(a.getD m 0).toNat, by omega⟩
    rw [hv'] at hv hni
    have hvl : v < es.length := by omega
    have hcv := hc v hvl
    simp only [q25_L6_s, Int.toNat_natCast, e1, hv', tab_len]
    rw [cT _ _ (by omega), chkT _ (by omega), chkT _ (by omega), chkT _ (by omega), tab_get _ _ _ _ hvl, if_neg hni, tab_set, wr6 (by omega) (by omega)]
    rw [tab_congr (g := fun i => c i - (if (i : Int) ∈ a.take (m + 1) then 1 else 0)) (fun k hk => by
      rw [take_succ' _ 0 m hm, hv']
      by_cases e : k = v
      · subst e; simp
      · have : (k : Int) ≠ (v : Int) := by omega
        simp [e, this])]
theorem g4 {w : List Int} {es : List (List Int)} (h8 : In8 w es) (order : List Int) (hd : order.Nodup) (hol : order.length ≤ 8) (hr : ∀ v ∈ order, 0 ≤ v ∧ v < (w.length : Int)) : ∀ (j k : Nat) (out rem h3 : List Int), k + j = order.length → GI es order k out rem h3 →
    ∃ out' rem' h3', q25_L4 loO (tab w.length (atE es es.length), (order.length : Int), (k : Int), out, order, h3) = some out' ∧ GI es order order.length out' rem' h3'
  | 0, k, out, rem, h3, hk, hg => by
    refine ⟨out, rem, h3, ?_, by have : k = order.length := by omega
                                 subst this; exact hg⟩
    simp only [q25_L4, runO]
    rw [loopO_eq]
    simp only [q25_L4_s]
    rw [cF _ _ (by omega)]
  | j + 1, k, out, rem, h3, hk, hg => by
    have hmx : maxEl ≥ 100000 := by decide
    have hwl := h8.wl
    have hel := h8.el
    have e1 : IntKind.wrap .i64 ((k : Int) + 1) = ((k + 1 : Nat) : Int) := by rw [wr6 (by omega) (by omega)]; omega
    have hv := hr _ (gmem order 0 k (by omega))
    have hni := nodup_take hd k (by omega)
    obtain ⟨v, hv'⟩ : ∃ v : Nat, order.getD k 0 = (v : Int) := ⟨(order.getD k 0).toNat, by omega⟩
    rw [hv'] at hv hni
    have hvl : v < w.length := by omega
    have hno : (v : Int) ∉ out := fun h => hni ((hg.mem _).2 (.inl h))
    have hnr : (v : Int) ∉ rem := fun h => hni ((hg.mem _).2 (.inr h))
    have hal := atE_len es es.length v
    have hdn : ∀ e ∈ es, e.Nodup := fun e he => asc_nodup (h8.ev e he).2.1
    have hol' : out.length ≤ order.length := Nat.le_trans hg.sub.length_le (by rw [List.length_take]; omega)
    have h3l : h3.length = es.length := by rw [hg.hh, tab_len]
    have har : ∀ i ∈ atE es es.length v, 0 ≤ i ∧ i < (h3.length : Int) := fun i hi => by have := (atE_mem _ _ _ _).1 hi; omega
    have hcon := contains_at (atE es es.length v) h3 (by omega) har
    have hmemr : ∀ e ∈ es, ((v : Int) ∈ rest e rem ↔ (v : Int) ∈ e) := fun e he => by
      unfold rest; simp [hnr]
    have tk : ∀ u, u ∈ order.take (k + 1) ↔ u ∈ order.take k ∨ u = (v : Int) := fun u => by
      rw [take_succ' order 0 k (by omega), hv']; simp
    cases hB : (atE es es.length v).any fun i => decide (h3.getD i.toNat 0 = 1) with
    | true =>
      have hg' : GI es order (k + 1) (out ++ [(v : Int)]) rem h3 := by
        refine ⟨fun u => ?_, ?_, hg.hh, hg.ne, fun u hu => ?_⟩
        · rw [tk, hg.mem]; simp only [List.mem_append, List.mem_singleton]
          exact ⟨fun h => by rcases h with (h | h) | h <;> simp [h], fun h => by rcases h with (h | h) | h <;> simp [h]⟩
        · rw [take_succ' order 0 k (by omega), hv']
          exact hg.sub.append (List.Sublist.refl _)
        · rcases List.mem_append.1 hu with hu | hu
          · exact hg.key u hu
          · have : u = (v : Int) := by simpa using hu
            subst this
            obtain ⟨i, hi, h1⟩ := List.any_eq_true.1 hB
            have h1 := of_decide_eq_true h1
            obtain ⟨i1, i2, i3⟩ := (atE_mem _ _ _ _).1 hi
            rw [hg.hh, tab_get _ _ _ _ (by omega)] at h1
            have hme := gmem es [] i.toNat (by omega)
            refine ⟨_, hme, ?_⟩
            have hvm := (hmemr _ hme).2 i3
            obtain ⟨z, hz⟩ := List.length_eq_one_iff.1 (show (rest (es.getD i.toNat []) rem).length = 1 by omega)
            rw [hz] at hvm ⊢
            simp at hvm
            rw [hvm]
      obtain ⟨out', rem', h3', r1, r2⟩ := g4 h8 order hd hol hr j (k + 1) _ rem h3 (by omega) hg'
      refine ⟨out', rem', h3', ?_, r2⟩
      simp only [q25_L4, runO] at *
      rw [loopO_eq]
      simp only [q25_L4_s, Int.toNat_natCast, e1, hv', tab_len]
      rw [cT _ _ (by omega), chkT _ (by omega), chkT _ (by omega), tab_get _ _ _ _ hvl, hcon]
      simp only [bindS, hB, cond_true]
      rw [chkT _ trivial, chkT _ (by simp only [List.length_cons, List.length_nil]; omega)]
      exact r1
    | false =>
      have hne1 : ∀ e ∈ es, (v : Int) ∈ e → (rest e rem).length ≠ 1 := by
        intro e he hve h1
        obtain ⟨i, hi, rfl⟩ := List.mem_iff_getElem.1 he
        have hgi : es.getD i [] = es[i] := by rw [List.getD_eq_getElem?_getD, List.getElem?_eq_getElem hi]; rfl
        have := List.any_eq_false.1 hB (i : Int) ((atE_mem _ _ _ _).2 ⟨by omega, by omega, by rw [Int.toNat_natCast, hgi]; exact hve⟩)
        apply this
        rw [Int.toNat_natCast, hg.hh, tab_get _ _ _ _ hi, hgi, h1]
        rfl
      have hg' : GI es order (k + 1) out ((v : Int) :: rem) (tab es.length fun i => ((rest (es.getD i []) rem).length : Int) - (if (i : Int) ∈ atE es es.length v then 1 else 0)) := by
        refine ⟨fun u => ?_, ?_, ?_, fun e he => ?_, fun u hu => ?_⟩
        · rw [tk, hg.mem]; simp only [List.mem_cons]
          exact ⟨fun h => by rcases h with (h | h) | h <;> simp [h], fun h => by rcases h with h | h | h <;> simp [h]⟩
        · rw [take_succ' order 0 k (by omega), hv']
          exact hg.sub.trans (List.sublist_append_left _ _)
        · refine tab_congr fun i hi => ?_
          have hme := gmem es [] i hi
          rw [rest_len _ _ _ (hdn _ hme)]
          congr 1
          have : ((i : Int) ∈ atE es es.length v) ↔ (v : Int) ∈ rest (es.getD i []) rem := by
            rw [atE_mem, hmemr _ hme, Int.toNat_natCast]
            exact ⟨fun h => h.2.2, fun h => ⟨by omega, by omega, h⟩⟩
          by_cases h : (i : Int) ∈ atE es es.length v
          · rw [if_pos h, if_pos (this.1 h)]
          · rw [if_neg h, if_neg (fun x => h (this.2 x))]
        · intro h0
          have hl := rest_len e rem (v : Int) (hdn e he)
          rw [h0] at hl
          have := List.length_pos_iff.2 (hg.ne e he)
          by_cases h : (v : Int) ∈ rest e rem
          · have := hne1 e he ((hmemr e he).1 h)
            rw [if_pos h] at hl
            simp at hl; omega
          · rw [if_neg h] at hl
            simp at hl; omega
        · obtain ⟨e, he, h1⟩ := hg.key u hu
          refine ⟨e, he, ?_⟩
          have : u ≠ (v : Int) := fun h => hno (h ▸ hu)
          rw [rest_cons, h1]
          simp [this]
      obtain ⟨out', rem', h3', r1, r2⟩ := g4 h8 order hd hol hr j (k + 1) out _ _ (by omega) hg'
      refine ⟨out', rem', h3', ?_, r2⟩
      have h6 := g6 hel (tab w.length (atE es es.length)) (atE es es.length v) (order.length : Int) (k : Int) out order (fun i => ((rest (es.getD i []) rem).length : Int)) (fun i hi => by
        have h1 := h8.e8 (gmem es [] i hi)
        have h2 : (rest (es.getD i []) rem).length ≤ (es.getD i []).length := List.length_filter_le _ _
        omega) (atE_nodup _ _ _) (by omega) (fun i hi => by have := (atE_mem _ _ _ _).1 hi; omega)
      rw [← hg.hh] at h6
      simp only [q25_L4, runO] at *
      rw [loopO_eq]
      simp only [q25_L4_s, Int.toNat_natCast, e1, hv', tab_len]
      rw [cT _ _ (by omega), chkT _ (by omega), chkT _ (by omega), tab_get _ _ _ _ hvl, hcon]
      simp only [bindS, hB, cond_false]
      rw [chkT _ trivial, chkT _ (by omega), h6]
      simp only [bindS, e1]
      exact r1
theorem sort_nil : q23 loO [] = some [] := (congrArg (q23 · []) (loM_eq 100)).symm.trans (show q23 (loM 100) [] = some [] by kernel_rfl)
theorem sort_eq (l : List Int) (hl : l.length ≤ 1000) : q24 loO l = some (sortI l) := by
  cases l with
  | nil => exact sort_nil
  | cons a r =>
    show (bif Nat.ble (a :: r).length maxEl then some (sortI (a :: r)) else none) = _
    have hmx : maxEl ≥ 100000 := by decide
    have : Nat.ble (a :: r).length maxEl = true := Nat.ble_eq_true_of_le (by omega)
    rw [this]; rfl
theorem sortI_len (l : List Int) : (sortI l).length = l.length := (srtL_perm _ l).length_eq
theorem sortI_mem (l : List Int) (v : Int) : v ∈ sortI l ↔ v ∈ l := (srtL_perm _ l).mem_iff
theorem sortI_asc (l : List Int) (hd : l.Nodup) : (sortI l).Pairwise (· < ·) := by
  have h1 : (sortI l).Pairwise (fun a c => leI a c = true) := srtL_pair leI_tr leI_tot l
  have h2 : (sortI l).Nodup := (srtL_perm leI l).nodup_iff.2 hd
  refine (h1.and h2).imp fun h => ?_
  have := of_decide_eq_true h.1
  have := h.2
  omega
structure GOut (w : List Int) (es : List (List Int)) (l : List Int) : Prop where
  asc : l.Pairwise (· < ·)
  rng : ∀ v ∈ l, 0 ≤ v ∧ v < (w.length : Int)
  hit : hitB es l = true
  min : ∀ n, n < l.length → hitB es (l.take n ++ l.drop (n + 1)) = false
theorem greedy_ok {w : List Int} {es : List (List Int)} (h8 : In8 w es) : ∃ l, q25 loO w es = some (l, 0) ∧ GOut w es l := by
  have hmx : maxEl ≥ 100000 := by decide
  have hwl := h8.wl
  have hel := h8.el
  have ht : ∀ v ∈ tab w.length (fun (v : Nat) => (v : Int)), 0 ≤ v ∧ v < (w.length : Int) := fun v hv => by
    simp only [tab, List.mem_map, List.mem_range] at hv
    obtain ⟨i, hi, rfl⟩ := hv; omega
  have htd : (tab w.length (fun (v : Nat) => (v : Int))).Nodup := by
    unfold tab List.Nodup
    rw [List.pairwise_map]
    exact List.nodup_range.imp (fun h => by omega)
  obtain ⟨order, s1, s2⟩ := stable_ok es hwl (tab w.length (fun (v : Nat) => (v : Int))) (by rw [tab_len]; exact hwl) ht
  have hol : order.length = w.length := by rw [s2.length_eq, tab_len]
  have hod : order.Nodup := s2.nodup_iff.2 htd
  have hor : ∀ v ∈ order, 0 ≤ v ∧ v < (w.length : Int) := fun v hv => ht v (s2.mem_iff.1 hv)
  have hall : ∀ v : Int, 0 ≤ v → v < (w.length : Int) → v ∈ order := fun v h0 h1 => by
    refine s2.mem_iff.2 ?_
    simp only [tab, List.mem_map, List.mem_range]
    exact ⟨v.toNat, by omega, by omega⟩
  have hgi : GI es order 0 [] [] (tab es.length fun i => ((es.getD i []).length : Int)) := by
    refine ⟨by simp, by simp, ?_, fun e he => ?_, by simp⟩
    · refine tab_congr fun i hi => ?_
      rw [rest_nil]
    · rw [rest_nil]; exact (h8.ev e he).1
  obtain ⟨out, rem, h3, r1, r2⟩ := g4 h8 order hod (by omega) hor order.length 0 [] [] _ (by omega) hgi
  have hsub : out.Sublist order := by have := r2.sub; rwa [List.take_length] at this
  have houtd : out.Nodup := hod.sublist hsub
  have hmem : ∀ v, v ∈ order ↔ v ∈ out ∨ v ∈ rem := fun v => by have := r2.mem v; rwa [List.take_length] at this
  have holen := hsub.length_le
  have hse := sort_eq out (by omega)
  have hasc := sortI_asc out houtd
  refine ⟨sortI out, ?_, hasc, fun v hv => hor v (hsub.subset ((sortI_mem _ _).1 hv)), ?_, fun n hn => ?_⟩
  · have r1' : q25_L4 loO (tab w.length (atE es es.length), (order.length : Int), (0 : Int), [], order, tab es.length fun i => ((es.getD i []).length : Int)) = some out := r1
    have g30' := g30 h8
    have g22' := g22 (es := es) hwl (tab w.length (atE es es.length)) (tab es.length fun i => ((es.getD i []).length : Int))
    simp only [q25, gvalid_ok h8, bindS, decide_true, Bool.not_true, cond_false, Int.toNat_natCast]
    rw [chkT _ (by omega), chkT _ (by omega), g30']
    simp only [bindS, List.length_replicate, Int.toNat_natCast]
    rw [chkT _ (by omega), g22']
    simp only [bindS]
    rw [s1]
    simp only [bindS]
    rw [chkT _ (by rw [hol, tab_len]), r1']
    simp only [bindS]
    rw [hse]
    simp only [bindS]
    rw [chkT _ (sortI_len out)]
  · refine List.all_eq_true.2 fun e he => ?_
    obtain ⟨z, hz⟩ := List.exists_mem_of_ne_nil _ (r2.ne e he)
    obtain ⟨z1, z2⟩ := List.mem_filter.1 hz
    have z2 : z ∉ rem := by simpa using z2
    obtain ⟨z3, z4⟩ := (h8.ev e he).2.2 z z1
    refine List.any_eq_true.2 ⟨z, z1, ?_⟩
    rcases (hmem z).1 (hall z z3 z4) with h | h
    · simpa [sortI_mem] using h
    · exact absurd h z2
  · have hv := gmem (sortI out) 0 n hn
    obtain ⟨e, he, h1⟩ := r2.key _ ((sortI_mem _ _).1 hv)
    refine List.all_eq_false.2 ⟨e, he, ?_⟩
    simp only [List.any_eq_true, decide_eq_true_eq, not_exists, not_and]
    intro x hx hxm
    have hxs : x ∈ sortI out := by
      rcases List.mem_append.1 hxm with h | h
      · exact List.mem_of_mem_take h
      · exact List.mem_of_mem_drop h
    have hxo : x ∈ out := (sortI_mem _ _).1 hxs
    have hxr : x ∈ rest e rem := by
      unfold rest
      refine List.mem_filter.2 ⟨hx, ?_⟩
      simp only [decide_eq_true_eq]
      intro hxrem
      obtain ⟨e', he', h2⟩ := r2.key x hxo
      have : x ∈ rest e' rem := by rw [h2]; simp
      unfold rest at this
      have := (List.mem_filter.1 this).2
      simp only [decide_eq_true_eq] at this
      exact this hxrem
    rw [h1] at hxr
    have hxe : x = (sortI out).getD n 0 := by simpa using hxr
    have hnd := asc_nodup hasc
    rcases List.mem_append.1 hxm with h | h
    · rw [hxe] at h; exact nodup_take hnd n hn h
    · have hd2 : ((sortI out).drop n).Nodup := hnd.sublist (List.drop_sublist _ _)
      rw [List.drop_eq_getElem_cons hn, List.nodup_cons] at hd2
      have eg : (sortI out)[n] = (sortI out).getD n 0 := by rw [List.getD_eq_getElem?_getD, List.getElem?_eq_getElem hn]; rfl
      rw [eg, ← hxe] at hd2
      exact hd2.1 h
theorem u8_rng {n : Int} (h : (Lit.int .u8 n).wf = true) : 0 ≤ n ∧ n ≤ 255 := by
  simp only [Lit.wf, Bool.and_eq_true, decide_eq_true_eq] at h
  have h1 : IntKind.u8.min = 0 := rfl
  have h2 : IntKind.u8.max = 255 := rfl
  omega
theorem u16_rng {n : Int} (h : (Lit.int .u16 n).wf = true) : 0 ≤ n ∧ n ≤ 65535 := by
  simp only [Lit.wf, Bool.and_eq_true, decide_eq_true_eq] at h
  have h1 : IntKind.u16.min = 0 := rfl
  have h2 : IntKind.u16.max = 65535 := rfl
  omega
end Go.Abs.G39
namespace Go.Abs.G39
open Go Go.Abs
set_option linter.unusedSimpArgs false
set_option linter.unusedVariables false
set_option maxRecDepth 100000
def hasM (m : List Int) (e : List Int) (k : Int) : Bool := e.any fun v => decide (m.getD v.toNat 0 = k)
def Vts (n : Nat) (e : List Int) : Prop := e.length ≤ 8 ∧ ∀ v ∈ e, 0 ≤ v ∧ v < (n : Int)
theorem In8.vts {w : List Int} {es : List (List Int)} (h : In8 w es) {e : List Int} (he : e ∈ es) : Vts w.length e := ⟨h.e8 he, (h.ev e he).2.2⟩
theorem has_eq1 (w : List Int) (es : List (List Int)) (lf : Int) (m : List Int) (e : List Int) (k : Int) (hv : Vts m.length e) : q34 loO e k w es lf m = some (hasM m e k, w, es, lf, m) := by
  have hel := hv.1
  have hf := loop_find (step := q32_L3_s loO) (fun n => (e, (e.length : Int), (n : Int), k, w, es, lf, m)) e.length (fun n => decide (m.getD (e.getD n 0).toNat 0 = k)) (fun n => .inl ((n : Int), k, w, es, lf, m)) (.inr (k, w, es, lf, m))
    (by simp only [q32_L3_s]; rw [cF _ _ (by omega)])
    (fun n hn => by
      have e1 : IntKind.wrap .i64 ((n : Int) + 1) = ((n + 1 : Nat) : Int) := by rw [wr6 (by omega) (by omega)]; omega
      have hi := hv.2 _ (gmem e 0 n hn)
      have hg : q31 loO (e.getD n 0) k w es lf m = some (decide (m.getD (e.getD n 0).toNat 0 = k), k, w, es, lf, m) := by
        simp only [q31]; rw [chkT _ (by omega)]
      simp only [q32_L3_s, Int.toNat_natCast, e1, hg, bindS]
      rw [cT _ _ (by omega), chkT _ (by omega), chkT _ trivial])
  rw [range_any e 0 (fun i => decide (m.getD i.toNat 0 = k))] at hf
  have e0 : q32_L3 loO (e, (e.length : Int), (0 : Int), k, w, es, lf, m) = loopO (q32_L3_s loO) (e, (e.length : Int), ((0 : Nat) : Int), k, w, es, lf, m) := rfl
  rcases hf with ⟨h1, h2⟩ | ⟨h1, n, hn, h2⟩
  · simp only [q34, q33, q32, e0, h2, bindS, alt2_r, hasM, h1]
    rw [chkT _ trivial]; simp only [bindS]; rw [chkT _ trivial]; rfl
  · simp only [q34, q33, q32, e0, h2, bindS, alt2_l, hasM, h1]
    rw [chkT _ trivial]
    have : decide ((0 : Int) ≤ (n : Int)) = true := by simp
    simp only [bindS]
    rw [chkT _ trivial, this]
theorem has_eq2 (w : List Int) (es : List (List Int)) (lf : Int) (m : List Int) (e : List Int) (k : Int) (hv : Vts m.length e) : q43 loO e k w es lf m = some (hasM m e k, w, es, lf, m) := by
  have hel := hv.1
  have hf := loop_find (step := q41_L3_s loO) (fun n => (e, (e.length : Int), (n : Int), k, w, es, lf, m)) e.length (fun n => decide (m.getD (e.getD n 0).toNat 0 = k)) (fun n => .inl ((n : Int), k, w, es, lf, m)) (.inr (k, w, es, lf, m))
    (by simp only [q41_L3_s]; rw [cF _ _ (by omega)])
    (fun n hn => by
      have e1 : IntKind.wrap .i64 ((n : Int) + 1) = ((n + 1 : Nat) : Int) := by rw [wr6 (by omega) (by omega)]; omega
      have hi := hv.2 _ (gmem e 0 n hn)
      have hg : q40 loO (e.getD n 0) k w es lf m = some (decide (m.getD (e.getD n 0).toNat 0 = k), k, w, es, lf, m) := by
        simp only [q40]; rw [chkT _ (by omega)]
      simp only [q41_L3_s, Int.toNat_natCast, e1, hg, bindS]
      rw [cT _ _ (by omega), chkT _ (by omega), chkT _ trivial])
  rw [range_any e 0 (fun i => decide (m.getD i.toNat 0 = k))] at hf
  have e0 : q41_L3 loO (e, (e.length : Int), (0 : Int), k, w, es, lf, m) = loopO (q41_L3_s loO) (e, (e.length : Int), ((0 : Nat) : Int), k, w, es, lf, m) := rfl
  rcases hf with ⟨h1, h2⟩ | ⟨h1, n, hn, h2⟩
  · simp only [q43, q42, q41, e0, h2, bindS, alt2_r, hasM, h1]
    rw [chkT _ trivial]; simp only [bindS]; rw [chkT _ trivial]; rfl
  · simp only [q43, q42, q41, e0, h2, bindS, alt2_l, hasM, h1]
    rw [chkT _ trivial]
    have : decide ((0 : Int) ≤ (n : Int)) = true := by simp
    simp only [bindS]
    rw [chkT _ trivial, this]
def deadM (m : List Int) (es : List (List Int)) : Bool := es.any fun e => !hasM m e 1 && !hasM m e 0
theorem dead_eq (w : List Int) (es : List (List Int)) (lf : Int) (m : List Int) (hel : es.length ≤ 12) (hv : ∀ e ∈ es, Vts m.length e) : q38 loO w es lf m = some (deadM m es, w, es, lf, m) := by
  have hf := loop_find (step := q36_L3_s loO) (fun n => (es, (es.length : Int), (n : Int), w, es, lf, m)) es.length (fun n => !hasM m (es.getD n []) 1 && !hasM m (es.getD n []) 0) (fun n => .inl ((n : Int), w, es, lf, m)) (.inr (w, es, lf, m))
    (by simp only [q36_L3_s]; rw [cF _ _ (by omega)])
    (fun n hn => by
      have e1 : IntKind.wrap .i64 ((n : Int) + 1) = ((n + 1 : Nat) : Int) := by rw [wr6 (by omega) (by omega)]; omega
      have hi := hv _ (gmem es [] n hn)
      have hg : q35 loO (es.getD n []) w es lf m = some (!hasM m (es.getD n []) 1 && !hasM m (es.getD n []) 0, w, es, lf, m) := by
        simp only [q35, has_eq1 w es lf m _ _ hi, bindS]; rw [chkT _ trivial]
        cases hasM m (es.getD n []) 1 with
        | true => rfl
        | false => simp only [Bool.not_false, cond_true]; rw [chkT _ trivial]; rfl
      simp only [q36_L3_s, Int.toNat_natCast, e1, hg, bindS]
      rw [cT _ _ (by omega), chkT _ (by omega), chkT _ trivial])
  rw [range_any es [] (fun e => !hasM m e 1 && !hasM m e 0)] at hf
  have e0 : q36_L3 loO (es, (es.length : Int), (0 : Int), w, es, lf, m) = loopO (q36_L3_s loO) (es, (es.length : Int), ((0 : Nat) : Int), w, es, lf, m) := rfl
  rcases hf with ⟨h1, h2⟩ | ⟨h1, n, hn, h2⟩
  · simp only [q38, q37, q36, e0, h2, bindS, alt2_r, deadM, h1]
    rw [chkT _ trivial]; simp only [bindS]; rw [chkT _ trivial]; rfl
  · simp only [q38, q37, q36, e0, h2, bindS, alt2_l, deadM, h1]
    rw [chkT _ trivial]
    have : decide ((0 : Int) ≤ (n : Int)) = true := by simp
    simp only [bindS]
    rw [chkT _ trivial, this]
theorem branch_inner (w : List Int) (es : List (List Int)) (lf : Int) (m : List Int) (e : List Int) (hv : Vts m.length e) (x y z : Int) (hz : es = es) : ∀ (j k : Nat) (best : Int) (cnt : List Int), k + j = e.length → cnt.length = m.length → (best = -1 ∨ (0 ≤ best ∧ best < (m.length : Int) ∧ m.getD best.toNat 0 = 0)) →
    ∃ best' cnt', q45_L5 loO (best, es, x, y, e, (e.length : Int), (k : Int), w, es, lf, m, cnt) = some (best', es, x, y, w, es, lf, m, cnt') ∧ cnt'.length = m.length ∧ (best' = -1 ∨ (0 ≤ best' ∧ best' < (m.length : Int) ∧ m.getD best'.toNat 0 = 0)) ∧ (best' = -1 → best = -1 ∧ ∀ v ∈ e.drop k, m.getD v.toNat 0 ≠ 0)
  | 0, k, best, cnt, hk, hc, hb => by
    refine ⟨best, cnt, ?_, hc, hb, fun h => ⟨h, fun v hv => by rw [List.drop_eq_nil_of_le (by omega)] at hv; cases hv⟩⟩
    simp only [q45_L5, runO]
    rw [loopO_eq]
    simp only [q45_L5_s]
    rw [cF _ _ (by omega)]
  | j + 1, k, best, cnt, hk, hc, hb => by
    have hel := hv.1
    have e1 : IntKind.wrap .i64 ((k : Int) + 1) = ((k + 1 : Nat) : Int) := by rw [wr6 (by omega) (by omega)]; omega
    have hi := hv.2 _ (gmem e 0 k (by omega))
    have hd : e.drop k = e.getD k 0 :: e.drop (k + 1) := by
      rw [List.drop_eq_getElem_cons (by omega), List.getD_eq_getElem?_getD, List.getElem?_eq_getElem (by omega)]; rfl
    by_cases h0 : m.getD (e.getD k 0).toNat 0 = 0
    · have ihp : ∀ best1, (0 ≤ best1 ∧ best1 < (m.length : Int) ∧ m.getD best1.toNat 0 = 0) → ∀ cnt1 : List Int, cnt1.length = m.length →
          ∃ best' cnt', q45_L5 loO (best1, es, x, y, e, (e.length : Int), ((k + 1 : Nat) : Int), w, es, lf, m, cnt1) = some (best', es, x, y, w, es, lf, m, cnt') ∧ cnt'.length = m.length ∧ (best' = -1 ∨ (0 ≤ best' ∧ best' < (m.length : Int) ∧ m.getD best'.toNat 0 = 0)) ∧ (best' = -1 → best = -1 ∧ ∀ v ∈ e.drop k, m.getD v.toNat 0 ≠ 0) := by
        intro best1 hb1 cnt1 hc1
        obtain ⟨best', cnt', r1, r2, r3, r4⟩ := branch_inner w es lf m e hv x y z hz j (k + 1) best1 cnt1 (by omega) hc1 (.inr hb1)
        exact ⟨best', cnt', r1, r2, r3, fun h => by have := (r4 h).1; omega⟩
      simp only [q45_L5, runO] at *
      rw [loopO_eq]
      simp only [q45_L5_s, Int.toNat_natCast, e1, h0, decide_true, Bool.not_true, cond_false]
      rw [cT _ _ (by omega), chkT _ (by omega), chkT _ (by omega), chkT _ (by omega), chkT _ (by omega)]
      by_cases hneg : best < 0
      · rw [cT _ _ hneg]
        exact ihp _ ⟨hi.1, hi.2, h0⟩ _ (by rw [List.length_set]; exact hc)
      · rw [cF _ _ hneg, chkT _ (by rw [List.length_set]; omega), chkT _ (by rw [List.length_set]; omega)]
        have hb' : 0 ≤ best ∧ best < (m.length : Int) ∧ m.getD best.toNat 0 = 0 := by
          rcases hb with h | h
          · omega
          · exact h
        cases hcc : decide ((cnt.set (e.getD k 0).toNat (IntKind.wrap .i64 (cnt.getD (e.getD k 0).toNat 0 + 1))).getD best.toNat 0 < (cnt.set (e.getD k 0).toNat (IntKind.wrap .i64 (cnt.getD (e.getD k 0).toNat 0 + 1))).getD (e.getD k 0).toNat 0) with
        | true =>
          simp only [cond_true]
          exact ihp _ ⟨hi.1, hi.2, h0⟩ _ (by rw [List.length_set]; exact hc)
        | false =>
          simp only [cond_false]
          exact ihp _ hb' _ (by rw [List.length_set]; exact hc)
    · obtain ⟨best', cnt', r1, r2, r3, r4⟩ := branch_inner w es lf m e hv x y z hz j (k + 1) best cnt (by omega) hc hb
      refine ⟨best', cnt', ?_, r2, r3, fun h => ⟨(r4 h).1, fun v hv => ?_⟩⟩
      · simp only [q45_L5, runO] at *
        rw [loopO_eq]
        simp only [q45_L5_s, Int.toNat_natCast, e1, h0, decide_false, Bool.not_false, cond_true]
        rw [cT _ _ (by omega), chkT _ (by omega), chkT _ (by omega)]
        exact r1
      · rw [hd] at hv
        rcases List.mem_cons.1 hv with h' | h'
        · rw [h']; exact h0
        · exact (r4 h).2 v h'
end Go.Abs.G39
namespace Go.Abs.G39
open Go Go.Abs
set_option linter.unusedSimpArgs false
set_option linter.unusedVariables false
set_option maxRecDepth 100000
def sg (n : Nat) (f : Nat → Int) : Int := ((List.range n).map f).sum
theorem sg_succ (n : Nat) (f : Nat → Int) : sg (n + 1) f = sg n f + f n := by simp [sg, List.range_succ]
theorem sg_le {f g : Nat → Int} : ∀ {n : Nat}, (∀ i, i < n → f i ≤ g i) → sg n f ≤ sg n g
  | 0, _ => by simp [sg]
  | n + 1, h => by rw [sg_succ, sg_succ]; have := sg_le (n := n) (fun i hi => h i (by omega)); have := h n (by omega); omega
theorem sg_congr {f g : Nat → Int} {n : Nat} (h : ∀ i, i < n → f i = g i) : sg n f = sg n g :=
  Int.le_antisymm (sg_le fun i hi => by have := h i hi; omega) (sg_le fun i hi => by have := h i hi; omega)
theorem sg_add (f g : Nat → Int) : ∀ n, sg n (fun i => f i + g i) = sg n f + sg n g
  | 0 => by simp [sg]
  | n + 1 => by rw [sg_succ, sg_succ, sg_succ, sg_add f g n]; omega
theorem sg_zero : ∀ n, sg n (fun _ => 0) = 0
  | 0 => rfl
  | n + 1 => by rw [sg_succ, sg_zero n]; rfl
theorem sg_one (v : Nat) (a : Int) : ∀ n, v < n → sg n (fun i => if i = v then a else 0) = a
  | 0, h => by omega
  | n + 1, h => by
    rw [sg_succ]
    by_cases e : n = v
    · subst e
      rw [sg_congr (g := fun _ => 0) (fun i hi => if_neg (by omega)), sg_zero, if_pos rfl]; omega
    · rw [sg_one v a n (by omega), if_neg e]; omega
def Hit (es : List (List Int)) (X : Nat → Bool) : Prop := ∀ e ∈ es, ∃ v ∈ e, X v.toNat = true
def Con (n : Nat) (m : List Int) (X : Nat → Bool) : Prop := ∀ v, v < n → (m.getD v 0 = 1 → X v = true) ∧ (m.getD v 0 = 2 → X v = false)
def wt (w : List Int) (X : Nat → Bool) : Int := sg w.length fun v => if X v then w.getD v 0 else 0
structure Mk (n : Nat) (m : List Int) : Prop where
  len : m.length = n
  val : ∀ v, v < n → m.getD v 0 = 0 ∨ m.getD v 0 = 1 ∨ m.getD v 0 = 2
theorem pk16 (w : List Int) (es : List (List Int)) (lf : Int) (m : List Int) (e : List Int) (hv : Vts m.length e) (x y z s : Int) (room : List Int) (out : List (Int × Int)) (hrl : room.length = m.length) : ∀ (j k : Nat) (a : Int), k + j = e.length →
    ∃ a', q44_L16 loO (s, x, e, a, es, y, z, e, (e.length : Int), (k : Int), w, es, lf, m, room, out) = some (s, x, e, a', es, y, z, w, es, lf, m, room, out) ∧ a' ≤ a ∧ (∀ v ∈ e.drop k, m.getD v.toNat 0 = 0 → a' ≤ room.getD v.toNat 0) ∧ (0 ≤ a → (∀ v ∈ e, m.getD v.toNat 0 = 0 → 0 ≤ room.getD v.toNat 0) → 0 ≤ a')
  | 0, k, a, hk => by
    refine ⟨a, ?_, Int.le_refl _, fun v hv => (by rw [List.drop_eq_nil_of_le (by omega)] at hv; cases hv), fun h _ => h⟩
    simp only [q44_L16, runO]
    rw [loopO_eq]
    simp only [q44_L16_s]
    rw [cF _ _ (by omega)]
  | j + 1, k, a, hk => by
    have hel := hv.1
    have e1 : IntKind.wrap .i64 ((k : Int) + 1) = ((k + 1 : Nat) : Int) := by rw [wr6 (by omega) (by omega)]; omega
    have hm := gmem e 0 k (by omega)
    have hi := hv.2 _ hm
    have hd : e.drop k = e.getD k 0 :: e.drop (k + 1) := by
      rw [List.drop_eq_getElem_cons (by omega), List.getD_eq_getElem?_getD, List.getElem?_eq_getElem (by omega)]; rfl
    by_cases h0 : m.getD (e.getD k 0).toNat 0 = 0
    · obtain ⟨a', r1, r2, r3, r4⟩ := pk16 w es lf m e hv x y z s room out hrl j (k + 1) (min a (room.getD (e.getD k 0).toNat 0)) (by omega)
      refine ⟨a', ?_, by omega, fun v hv => ?_, fun h h' => ?_⟩
      · simp only [q44_L16, runO] at *
        rw [loopO_eq]
        simp only [q44_L16_s, Int.toNat_natCast, e1, h0, decide_true, cond_true]
        rw [cT _ _ (by omega), chkT _ (by omega), chkT _ (by omega), chkT _ (by omega)]
        exact r1
      · rw [hd] at hv
        rcases List.mem_cons.1 hv with h' | h'
        · intro _; rw [h']; omega
        · exact r3 v h'
      · have := h' _ hm h0
        exact r4 (by omega) h'
    · obtain ⟨a', r1, r2, r3, r4⟩ := pk16 w es lf m e hv x y z s room out hrl j (k + 1) a (by omega)
      refine ⟨a', ?_, r2, fun v hv => ?_, r4⟩
      · simp only [q44_L16, runO] at *
        rw [loopO_eq]
        simp only [q44_L16_s, Int.toNat_natCast, e1, h0, decide_false, cond_false]
        rw [cT _ _ (by omega), chkT _ (by omega), chkT _ (by omega)]
        exact r1
      · rw [hd] at hv
        rcases List.mem_cons.1 hv with h' | h'
        · rw [h']; intro h; exact absurd h h0
        · exact r3 v h'
theorem pk7 (w : List Int) (es : List (List Int)) (lf : Int) (m : List Int) (n : Nat) (e : List Int) (hv : Vts n e) (hd : e.Nodup) (x y z s a : Int) (ha : 0 ≤ a ∧ a ≤ 1000) (r : Nat → Int) (hr : ∀ v, v < n → -1000 ≤ r v ∧ r v ≤ 1000) (out : List (Int × Int)) :
    q44_L7 loO (s, x, a, es, y, z, e, (e.length : Int), (0 : Int), w, es, lf, m, tab n r, out) = some (s, x, a, es, y, z, w, es, lf, m, tab n (fun v => r v - (if (v : Int) ∈ e then a else 0)), out) := by
  have hel := hv.1
  refine loop_at (step := q44_L7_s loO) (st := fun k => (s, x, a, es, y, z, e, (e.length : Int), (k : Int), w, es, lf, m, tab n (fun v => r v - (if (v : Int) ∈ e.take k then a else 0)), out)) (N := e.length) ?_ ?_ ?_
  · simp
  · simp only [q44_L7_s]
    rw [cF _ _ (by omega), List.take_length]
  · intro k hk
    have e1 : IntKind.wrap .i64 ((k : Int) + 1) = ((k + 1 : Nat) : Int) := by rw [wr6 (by omega) (by omega)]; omega
    have hi := hv.2 _ (gmem e 0 k hk)
    have hni := nodup_take hd k hk
    obtain ⟨v, hv'⟩ : ∃ v : Nat, e.getD k 0 = (v : Int) := ⟨(e.getD k 0).toNat, by omega⟩
    rw [hv'] at hi hni
    have hrv := hr v (by omega)
    simp only [q44_L7_s, Int.toNat_natCast, e1, hv', tab_len]
    rw [cT _ _ (by omega), chkT _ (by omega), chkT _ (by omega), chkT _ (by omega), tab_get _ _ _ _ (by omega), if_neg hni, tab_set, wr6 (by omega) (by omega)]
    rw [tab_congr (g := fun v => r v - (if (v : Int) ∈ e.take (k + 1) then a else 0)) (fun u hu => by
      rw [take_succ' _ 0 k hk, hv']
      by_cases e : u = v
      · subst e; simp
      · have : (u : Int) ≠ (v : Int) := by omega
        simp [e, this])]
def opn (m : List Int) (X : Nat → Bool) (v : Nat) : Bool := X v && decide (m.getD v 0 = 0)
structure PK (w : List Int) (es : List (List Int)) (m : List Int) (i : Nat) (s : Int) (r : Nat → Int) : Prop where
  pos : ∀ v, v < w.length → m.getD v 0 = 0 → 0 ≤ r v
  bd : ∀ v, v < w.length → -(20 * (i : Int)) ≤ r v ∧ r v ≤ 20
  sum : 0 ≤ s ∧ s ≤ 20 * (i : Int)
  key : ∀ X, Con w.length m X → Hit es X → s + sg w.length (fun v => if opn m X v then r v else 0) ≤ sg w.length (fun v => if opn m X v then w.getD v 0 else 0)
theorem pk3 {w : List Int} {es : List (List Int)} (h8 : In8 w es) (lf : Int) {m : List Int} (hm : Mk w.length m) (hnd : deadM m es = false) : ∀ (j i : Nat) (s : Int) (r : Nat → Int) (out : List (Int × Int)), i + j = es.length → out.length ≤ i → PK w es m i s r →
    ∃ s' out', q44_L3 loO (s, es, (es.length : Int), (i : Int), w, es, lf, m, tab w.length r, out) = some (s', w, es, lf, m, out') ∧ ∃ r', PK w es m es.length s' r'
  | 0, i, s, r, out, hi, ho, hp => by
    have : i = es.length := by omega
    subst this
    refine ⟨s, out, ?_, r, hp⟩
    simp only [q44_L3, runO]
    rw [loopO_eq]
    simp only [q44_L3_s]
    rw [cF _ _ (by omega)]
  | j + 1, i, s, r, out, hi, ho, hp => by
    have hmx : maxEl ≥ 100000 := by decide
    have hwl := h8.wl
    have hel := h8.el
    have e1 : IntKind.wrap .i64 ((i : Int) + 1) = ((i + 1 : Nat) : Int) := by rw [wr6 (by omega) (by omega)]; omega
    have hme := gmem es [] i (by omega)
    have hv := h8.vts hme
    have hvm : Vts m.length (es.getD i []) := by rw [hm.len]; exact hv
    have hd := asc_nodup (h8.ev _ hme).2.1
    cases hc : hasM m (es.getD i []) 1 with
    | true =>
      have hp' : PK w es m (i + 1) s r := ⟨hp.pos, fun v hv => by have := hp.bd v hv; omega, by have := hp.sum; omega, hp.key⟩
      obtain ⟨s', out', r1, r2⟩ := pk3 h8 lf hm hnd j (i + 1) s r out (by omega) (by omega) hp'
      refine ⟨s', out', ?_, r2⟩
      simp only [q44_L3, runO] at *
      rw [loopO_eq]
      simp only [q44_L3_s, Int.toNat_natCast, e1, has_eq2 w es lf m _ _ hvm, bindS, hc, cond_true]
      rw [cT _ _ (by omega), chkT _ (by omega), chkT _ trivial]
      exact r1
    | false =>
      obtain ⟨a, q1, q2, q3, q4⟩ := pk16 w es lf m (es.getD i []) hvm (i : Int) (es.length : Int) (i : Int) s (tab w.length r) out (by rw [tab_len, hm.len]) (es.getD i []).length 0 1000000 (by omega)
      have hroom : ∀ v ∈ es.getD i [], (tab w.length r).getD v.toNat 0 = r v.toNat := fun v h => tab_get _ _ _ _ (by have := hv.2 v h; omega)
      have ha0 : 0 ≤ a := q4 (by omega) (fun v h h0 => by rw [hroom v h]; exact hp.pos _ (by have := hv.2 v h; omega) h0)
      have hop : ∃ v ∈ es.getD i [], m.getD v.toNat 0 = 0 := by
        have hx := List.any_eq_false.1 hnd _ hme
        have h0 : hasM m (es.getD i []) 0 = true := by
          rw [hc] at hx
          cases h : hasM m (es.getD i []) 0 with
          | true => rfl
          | false => rw [h] at hx; exact absurd rfl hx
        obtain ⟨v, h1, h2⟩ := List.any_eq_true.1 h0
        exact ⟨v, h1, of_decide_eq_true h2⟩
      have ha1 : a ≤ 20 := by
        obtain ⟨v, h1, h2⟩ := hop
        have := q3 v (by simpa using h1) h2
        rw [hroom v h1] at this
        have := (hp.bd v.toNat (by have := hv.2 v h1; omega)).2
        omega
      by_cases haz : a = 0
      · have hp' : PK w es m (i + 1) s r := ⟨hp.pos, fun v hv => by have := hp.bd v hv; omega, by have := hp.sum; omega, hp.key⟩
        obtain ⟨s', out', r1, r2⟩ := pk3 h8 lf hm hnd j (i + 1) s r out (by omega) (by omega) hp'
        refine ⟨s', out', ?_, r2⟩
        have q1' : q44_L16 loO (s, (i : Int), es.getD i [], 1000000, es, (es.length : Int), (i : Int), es.getD i [], ((es.getD i []).length : Int), (0 : Int), w, es, lf, m, tab w.length r, out) = _ := q1
        simp only [q44_L3, runO] at *
        rw [loopO_eq]
        simp only [q44_L3_s, Int.toNat_natCast, e1, has_eq2 w es lf m _ _ hvm, bindS, hc, cond_false, q1']
        rw [cT _ _ (by omega), chkT _ (by omega), chkT _ trivial, cT _ _ haz]
        exact r1
      · have hsum := hp.sum
        have hp' : PK w es m (i + 1) (s + a) (fun v => r v - (if (v : Int) ∈ es.getD i [] then a else 0)) := by
          refine ⟨fun v hvl h0 => ?_, fun v hvl => ?_, by omega, fun X hX hh => ?_⟩
          · by_cases h : (v : Int) ∈ es.getD i []
            · rw [if_pos h]
              have := q3 (v : Int) (by simpa using h) (by rw [Int.toNat_natCast]; exact h0)
              rw [hroom _ h, Int.toNat_natCast] at this
              omega
            · rw [if_neg h]; have := hp.pos v hvl h0; omega
          · have := hp.bd v hvl
            split <;> omega
          · obtain ⟨v, h1, h2⟩ := hh _ hme
            have hvr := hv.2 v h1
            have hnot : m.getD v.toNat 0 = 0 := by
              rcases hm.val v.toNat (by omega) with h | h | h
              · exact h
              · exfalso
                have : hasM m (es.getD i []) 1 = true := List.any_eq_true.2 ⟨v, h1, by simpa using h⟩
                rw [hc] at this; cases this
              · have := (hX v.toNat (by omega)).2 h
                rw [h2] at this; cases this
            have hov : opn m X v.toNat = true := by
              unfold opn
              rw [h2, hnot]; rfl
            have hle : sg w.length (fun u => (if opn m X u then r u - (if (u : Int) ∈ es.getD i [] then a else 0) else 0) + (if u = v.toNat then a else 0)) ≤ sg w.length (fun u => if opn m X u then r u else 0) := by
              refine sg_le fun u hu => ?_
              by_cases e : u = v.toNat
              · have : (u : Int) ∈ es.getD i [] := by
                  have : (u : Int) = v := by omega
                  rw [this]; exact h1
                rw [if_pos e, if_pos this, e, hov]
                simp
              · rw [if_neg e]
                by_cases ho : opn m X u = true
                · rw [if_pos ho, if_pos ho]
                  split <;> omega
                · rw [if_neg ho, if_neg ho]; omega
            rw [sg_add, sg_one _ _ _ (by omega)] at hle
            have := hp.key X hX hh
            omega
        obtain ⟨s', out', r1, r2⟩ := pk3 h8 lf hm hnd j (i + 1) (s + a) _ (out ++ [((i : Int), a)]) (by omega) (by simp; omega) hp'
        refine ⟨s', out', ?_, r2⟩
        have q1' : q44_L16 loO (s, (i : Int), es.getD i [], 1000000, es, (es.length : Int), (i : Int), es.getD i [], ((es.getD i []).length : Int), (0 : Int), w, es, lf, m, tab w.length r, out) = _ := q1
        have q7 := pk7 w es lf m w.length (es.getD i []) hv hd (i : Int) (es.length : Int) (i : Int) s a ⟨ha0, by omega⟩ r (fun v h => by have := hp.bd v h; omega) out
        have e3 : IntKind.wrap .i64 (s + a) = s + a := wr6 (by omega) (by omega)
        simp only [q44_L3, runO] at *
        rw [loopO_eq]
        simp only [q44_L3_s, Int.toNat_natCast, e1, has_eq2 w es lf m _ _ hvm, bindS, hc, cond_false, q1', q7, e3]
        rw [cT _ _ (by omega), chkT _ (by omega), chkT _ trivial, cF _ _ haz, chkT _ (by simp only [List.length_cons, List.length_nil]; omega)]
        exact r1
theorem packing_ok {w : List Int} {es : List (List Int)} (h8 : In8 w es) (lf : Int) {m : List Int} (hm : Mk w.length m) (hnd : deadM m es = false) : ∃ s out, q44 loO w es lf m = some (s, w, es, lf, m, out) ∧ 0 ≤ s ∧ s ≤ 1000 ∧
    ∀ X, Con w.length m X → Hit es X → s ≤ sg w.length (fun v => if opn m X v then w.getD v 0 else 0) := by
  have hmx : maxEl ≥ 100000 := by decide
  have hwl := h8.wl
  have hel := h8.el
  have hcl : q39 loO w = some w := by
    have : Nat.ble w.length maxEl = true := Nat.ble_eq_true_of_le (by omega)
    simp only [q39, this]
    rfl
  have ht : w = tab w.length (fun v => w.getD v 0) := tab_of w 0
  obtain ⟨s, out, r1, r, r2⟩ := pk3 h8 lf hm hnd es.length 0 0 (fun v => w.getD v 0) [] (by omega) (by simp)
    ⟨fun v hv _ => by have := h8.wv _ (gmem w 0 v hv); omega, fun v hv => by have := h8.wv _ (gmem w 0 v hv); omega, by omega, fun X _ _ => by omega⟩
  refine ⟨s, out, ?_, r2.sum.1, by have := r2.sum.2; omega, fun X hX hh => ?_⟩
  · rw [← ht] at r1
    have r1' : q44_L3 loO (0, es, (es.length : Int), (0 : Int), w, es, lf, m, w, []) = _ := r1
    simp only [q44, hcl, bindS, r1']
  · have h1 := r2.key X hX hh
    have h2 : 0 ≤ sg w.length (fun v => if opn m X v then r v else 0) := by
      have hz : sg w.length (fun _ => 0) ≤ sg w.length (fun v => if opn m X v then r v else 0) := by
       refine sg_le fun v hv => ?_
       by_cases ho : opn m X v = true
       · rw [if_pos ho]
         unfold opn at ho
         rw [Bool.and_eq_true] at ho
         exact r2.pos v hv (of_decide_eq_true ho.2)
       · rw [if_neg ho]; omega
      rw [sg_zero] at hz
      exact hz
    omega
theorem branch_loop {w : List Int} {es : List (List Int)} (h8 : In8 w es) (lf : Int) {m : List Int} (hm : Mk w.length m) (hnd : deadM m es = false) : ∀ (j i : Nat) (best : Int) (cnt : List Int), i + j = es.length → cnt.length = m.length → (best = -1 ∨ (0 ≤ best ∧ best < (m.length : Int) ∧ m.getD best.toNat 0 = 0)) →
    ∃ best', q45_L3 loO (best, es, (es.length : Int), (i : Int), w, es, lf, m, cnt) = some (best', w, es, lf, m) ∧ (best' = -1 ∨ (0 ≤ best' ∧ best' < (m.length : Int) ∧ m.getD best'.toNat 0 = 0)) ∧ (best' = -1 → best = -1 ∧ ∀ e ∈ es.drop i, hasM m e 1 = true)
  | 0, i, best, cnt, hi, hc, hb => by
    refine ⟨best, ?_, hb, fun h => ⟨h, fun e he => by rw [List.drop_eq_nil_of_le (by omega)] at he; cases he⟩⟩
    simp only [q45_L3, runO]
    rw [loopO_eq]
    simp only [q45_L3_s]
    rw [cF _ _ (by omega)]
  | j + 1, i, best, cnt, hi, hc, hb => by
    have hwl := h8.wl
    have hel := h8.el
    have e1 : IntKind.wrap .i64 ((i : Int) + 1) = ((i + 1 : Nat) : Int) := by rw [wr6 (by omega) (by omega)]; omega
    have hme := gmem es [] i (by omega)
    have hvm : Vts m.length (es.getD i []) := by rw [hm.len]; exact h8.vts hme
    have hd : es.drop i = es.getD i [] :: es.drop (i + 1) := by
      rw [List.drop_eq_getElem_cons (by omega), List.getD_eq_getElem?_getD, List.getElem?_eq_getElem (by omega)]; rfl
    cases hcc : hasM m (es.getD i []) 1 with
    | true =>
      obtain ⟨best', r1, r2, r3⟩ := branch_loop h8 lf hm hnd j (i + 1) best cnt (by omega) hc hb
      refine ⟨best', ?_, r2, fun h => ⟨(r3 h).1, fun e he => ?_⟩⟩
      · simp only [q45_L3, runO] at *
        rw [loopO_eq]
        simp only [q45_L3_s, Int.toNat_natCast, e1, has_eq2 w es lf m _ _ hvm, bindS, hcc, cond_true]
        rw [cT _ _ (by omega), chkT _ (by omega), chkT _ trivial]
        exact r1
      · rw [hd] at he
        rcases List.mem_cons.1 he with h' | h'
        · rw [h']; exact hcc
        · exact (r3 h).2 e h'
    | false =>
      obtain ⟨best1, cnt1, q1, q2, q3, q4⟩ := branch_inner w es lf m (es.getD i []) hvm (es.length : Int) (i : Int) 0 rfl (es.getD i []).length 0 best cnt (by omega) hc hb
      obtain ⟨best', r1, r2, r3⟩ := branch_loop h8 lf hm hnd j (i + 1) best1 cnt1 (by omega) q2 q3
      refine ⟨best', ?_, r2, fun h => ?_⟩
      · have q1' : q45_L5 loO (best, es, (es.length : Int), (i : Int), es.getD i [], ((es.getD i []).length : Int), (0 : Int), w, es, lf, m, cnt) = _ := q1
        simp only [q45_L3, runO] at *
        rw [loopO_eq]
        simp only [q45_L3_s, Int.toNat_natCast, e1, has_eq2 w es lf m _ _ hvm, bindS, hcc, cond_false, q1']
        rw [cT _ _ (by omega), chkT _ (by omega), chkT _ trivial]
        exact r1
      · exfalso
        have h1 := (q4 (r3 h).1).2
        have hx := List.any_eq_false.1 hnd _ hme
        rw [hcc] at hx
        have h0 : hasM m (es.getD i []) 0 = true := by
          cases h : hasM m (es.getD i []) 0 with
          | true => rfl
          | false => rw [h] at hx; exact absurd rfl hx
        obtain ⟨v, h2, h3⟩ := List.any_eq_true.1 h0
        exact h1 v (by simpa using h2) (of_decide_eq_true h3)
theorem branch_ok {w : List Int} {es : List (List Int)} (h8 : In8 w es) (lf : Int) {m : List Int} (hm : Mk w.length m) (hnd : deadM m es = false) : ∃ v, q45 loO w es lf m = some (v, w, es, lf, m) ∧ ((v = -1 ∧ ∀ e ∈ es, hasM m e 1 = true) ∨ (0 ≤ v ∧ v < (w.length : Int) ∧ m.getD v.toNat 0 = 0)) := by
  have hmx : maxEl ≥ 100000 := by decide
  have hwl := h8.wl
  have hml := hm.len
  obtain ⟨v, r1, r2, r3⟩ := branch_loop h8 lf hm hnd es.length 0 (-1) (List.replicate m.length 0) (by omega) (by simp) (.inl rfl)
  refine ⟨v, ?_, ?_⟩
  · have r1' : q45_L3 loO (-1, es, (es.length : Int), (0 : Int), w, es, lf, m, List.replicate m.length 0) = _ := r1
    simp only [q45, Int.toNat_natCast, r1', bindS]
    rw [chkT _ (by omega)]
  · rw [hml] at r2
    rcases r2 with h | h
    · exact .inl ⟨h, fun e he => (r3 h).2 e (by simpa using he)⟩
    · exact .inr h
end Go.Abs.G39
namespace Go.Abs.G39
open Go Go.Abs
set_option linter.unusedSimpArgs false
set_option linter.unusedVariables false
set_option maxRecDepth 100000
theorem set_get (m : List Int) (v u : Nat) (a : Int) (hv : v < m.length) : (m.set v a).getD u 0 = if u = v then a else m.getD u 0 := by
  rw [List.getD_eq_getElem?_getD, List.getD_eq_getElem?_getD, List.getElem?_set]
  by_cases h : u = v
  · subst h; simp [hv]
  · simp [h, Ne.symm h]
theorem Mk.set {n : Nat} {m : List Int} (h : Mk n m) (v : Nat) (a : Int) (ha : a = 0 ∨ a = 1 ∨ a = 2) (hv : v < n) : Mk n (m.set v a) :=
  ⟨by rw [List.length_set]; exact h.len, fun u hu => by
    rw [set_get m v u a (by rw [h.len]; exact hv)]
    split
    · exact ha
    · exact h.val u hu⟩
def chsL (m : List Int) (k : Nat) : List Int := ((List.range k).filter fun i => decide (m.getD i 0 = 1)).map fun (i : Nat) => (i : Int)
theorem chsL_succ (m : List Int) (k : Nat) : chsL m (k + 1) = chsL m k ++ (if m.getD k 0 = 1 then [(k : Int)] else []) := by
  unfold chsL
  rw [List.range_succ, List.filter_append, List.map_append]
  by_cases h : m.getD k 0 = 1 <;> simp only [h, List.filter_cons, List.filter_nil, decide_true, decide_false, if_true, if_false, Bool.false_eq_true, List.map_cons, List.map_nil]
theorem chsL_len (m : List Int) (k : Nat) : (chsL m k).length ≤ k := by
  unfold chsL
  rw [List.length_map]
  exact Nat.le_trans (List.length_filter_le _ _) (by simp)
theorem chsL_mem (m : List Int) (k : Nat) (v : Int) : v ∈ chsL m k ↔ 0 ≤ v ∧ v < (k : Int) ∧ m.getD v.toNat 0 = 1 := by
  unfold chsL
  simp only [List.mem_map, List.mem_filter, List.mem_range, decide_eq_true_eq]
  constructor
  · rintro ⟨i, ⟨h1, h2⟩, rfl⟩; rw [Int.toNat_natCast]; exact ⟨by omega, by omega, h2⟩
  · rintro ⟨h1, h2, h3⟩; exact ⟨v.toNat, ⟨by omega, h3⟩, by omega⟩
theorem chsL_asc (m : List Int) (k : Nat) : (chsL m k).Pairwise (· < ·) := by
  unfold chsL
  rw [List.pairwise_map]
  exact (List.pairwise_lt_range.filter _).imp (fun h => by omega)
def cw (w m : List Int) : Int := sg w.length fun v => if m.getD v 0 = 1 then w.getD v 0 else 0
theorem chsL_sum (w m : List Int) : ∀ k, sumw w (chsL m k) = sg k fun v => if m.getD v 0 = 1 then w.getD v 0 else 0
  | 0 => by simp [chsL, sumw, sg]
  | k + 1 => by
    rw [chsL_succ, sumw_app, chsL_sum w m k, sg_succ]
    by_cases h : m.getD k 0 = 1
    · rw [if_pos h, if_pos h]; simp [sumw]
    · rw [if_neg h, if_neg h]; simp [sumw]
theorem subB_sum (w : List Int) (b : Nat) : ∀ k, sumw w (subB b k) = sg k fun v => if b.testBit v then w.getD v 0 else 0
  | 0 => by simp [subB, sumw, sg]
  | k + 1 => by
    rw [subB_succ, sumw_app, subB_sum w b k, sg_succ]
    by_cases h : b.testBit k = true
    · rw [if_pos h, if_pos h]; simp [sumw]
    · rw [if_neg h, if_neg h]; simp [sumw]
theorem min10 (rec : Int × (List Int) × (List ((List Int))) × Int × (List Int) × Int × (List Int) → Option (Bool × (List Int) × (List ((List Int))) × Int × (List Int) × Int × (List Int))) (w : List Int) (es : List (List Int)) (lf W : Int) (m : List Int) (hm : m.length ≤ 8) :
    q46_L10 loO rec ((m.length : Int), (0 : Int), w, es, lf, W, m, []) = some (w, es, lf, W, m, chsL m m.length) := by
  have hmx : maxEl ≥ 100000 := by decide
  refine loop_at (step := q46_L10_s loO rec) (st := fun k => ((m.length : Int), (k : Int), w, es, lf, W, m, chsL m k)) (N := m.length) ?_ ?_ ?_
  · rfl
  · simp only [q46_L10_s]
    rw [cF _ _ (by omega)]
  · intro k hk
    have e1 : IntKind.wrap .i64 ((k : Int) + 1) = ((k + 1 : Nat) : Int) := by rw [wr6 (by omega) (by omega)]; omega
    have hl := chsL_len m k
    simp only [q46_L10_s, Int.toNat_natCast, e1]
    rw [cT _ _ (by omega), chkT _ (by omega), chsL_succ]
    by_cases h : m.getD k 0 = 1
    · rw [cT _ _ h, if_pos h, chkT _ (by simp only [List.length_cons, List.length_nil]; omega)]
    · rw [cF _ _ h, if_neg h, List.append_nil]
structure GL (w : List Int) (es : List (List Int)) (l : List Int) (b : Int) : Prop where
  asc : l.Pairwise (· < ·)
  rng : ∀ v ∈ l, 0 ≤ v ∧ v < (w.length : Int)
  hit : hitB es l = true
  wgt : sumw w l = b
def opc (n : Nat) (m : List Int) : Int := sg n fun v => if m.getD v 0 = 0 then 1 else 0
theorem opc_set {n : Nat} {m : List Int} (hm : Mk n m) (v : Nat) (hv : v < n) (h0 : m.getD v 0 = 0) (a : Int) (ha : a ≠ 0) : opc n (m.set v a) = opc n m - 1 := by
  have e : opc n m = opc n (m.set v a) + 1 := by
    have e1 := sg_one v 1 n hv
    have e2 : sg n (fun u => (if (m.set v a).getD u 0 = 0 then (1 : Int) else 0) + (if u = v then 1 else 0)) = opc n m := by
      refine sg_congr fun u hu => ?_
      rw [set_get m v u a (by rw [hm.len]; exact hv)]
      by_cases e : u = v
      · subst e; rw [if_pos rfl, if_neg ha, if_pos rfl, if_pos h0]; rfl
      · rw [if_neg e, if_neg e]; omega
    rw [sg_add, e1] at e2
    unfold opc at e2 ⊢
    omega
  omega
theorem cw_set1 {w m : List Int} (hm : Mk w.length m) (v : Nat) (hv : v < w.length) (h0 : m.getD v 0 = 0) : cw w (m.set v 1) = cw w m + w.getD v 0 := by
  have e1 := sg_one v (w.getD v 0) w.length hv
  have e2 : sg w.length (fun u => (if m.getD u 0 = 1 then w.getD u 0 else 0) + (if u = v then w.getD v 0 else 0)) = cw w (m.set v 1) := by
    refine sg_congr fun u hu => ?_
    rw [set_get m v u 1 (by rw [hm.len]; exact hv)]
    by_cases e : u = v
    · subst e; rw [if_pos rfl, if_pos rfl, if_pos rfl, h0, if_neg (by decide)]; omega
    · rw [if_neg e, if_neg e]; omega
  rw [sg_add, e1] at e2
  unfold cw at e2 ⊢
  omega
theorem cw_set2 {w m : List Int} (hm : Mk w.length m) (v : Nat) (hv : v < w.length) (h0 : m.getD v 0 = 0) : cw w (m.set v 2) = cw w m := by
  unfold cw
  refine sg_congr fun u hu => ?_
  rw [set_get m v u 2 (by rw [hm.len]; exact hv)]
  by_cases e : u = v
  · subst e; rw [if_pos rfl, h0, if_neg (by decide), if_neg (by decide)]
  · rw [if_neg e]
theorem cw_bd {w m : List Int} (hw : ∀ x ∈ w, 1 ≤ x ∧ x ≤ 20) (hwl : w.length ≤ 8) : 0 ≤ cw w m ∧ cw w m ≤ 160 := by
  unfold cw
  rw [← chsL_sum w m w.length]
  have := sumw_bd hw (chsL m w.length)
  have := chsL_len m w.length
  omega
theorem con_set {n : Nat} {m : List Int} (hm : Mk n m) {X : Nat → Bool} (hX : Con n m X) (v : Nat) (hv : v < n) : (X v = true → Con n (m.set v 1) X) ∧ (X v = false → Con n (m.set v 2) X) := by
  constructor
  · intro h u hu
    rw [set_get m v u 1 (by rw [hm.len]; exact hv)]
    by_cases e : u = v
    · subst e; simp [h]
    · simp only [e, if_false]; exact hX u hu
  · intro h u hu
    rw [set_get m v u 2 (by rw [hm.len]; exact hv)]
    by_cases e : u = v
    · subst e; simp [h]
    · simp only [e, if_false]; exact hX u hu
theorem wt_ge {w m : List Int} (hw : ∀ x ∈ w, 1 ≤ x ∧ x ≤ 20) {X : Nat → Bool} (hX : Con w.length m X) : cw w m + sg w.length (fun v => if opn m X v then w.getD v 0 else 0) ≤ wt w X := by
  unfold cw wt
  rw [← sg_add]
  refine sg_le fun v hv => ?_
  have hp := hw _ (gmem w 0 v hv)
  by_cases h1 : m.getD v 0 = 1
  · have hx := (hX v hv).1 h1
    have : opn m X v = false := by unfold opn; rw [h1]; simp
    rw [if_pos h1, this, hx]; simp
  · rw [if_neg h1]
    by_cases h2 : opn m X v = true
    · have hx : X v = true := by
        unfold opn at h2; rw [Bool.and_eq_true] at h2; exact h2.1
      rw [if_pos h2, if_pos hx]; omega
    · rw [if_neg h2]
      split <;> omega
theorem opn_nonneg {w m : List Int} (hw : ∀ x ∈ w, 1 ≤ x ∧ x ≤ 20) (X : Nat → Bool) : 0 ≤ sg w.length (fun v => if opn m X v then w.getD v 0 else 0) := by
  have : sg w.length (fun _ => 0) ≤ sg w.length (fun v => if opn m X v then w.getD v 0 else 0) := sg_le fun v hv => by
    have hp := hw _ (gmem w 0 v hv)
    split <;> omega
  rwa [sg_zero] at this
theorem dead_none {es : List (List Int)} {n : Nat} {m : List Int} (hm : Mk n m) (hv : ∀ e ∈ es, Vts n e) (hd : deadM m es = true) {X : Nat → Bool} (hX : Con n m X) (hh : Hit es X) : False := by
  obtain ⟨e, he, h⟩ := List.any_eq_true.1 hd
  obtain ⟨v, h1, h2⟩ := hh e he
  have hvr := (hv e he).2 v h1
  rw [Bool.and_eq_true] at h
  have k1 : hasM m e 1 = false := by have := h.1; revert this; cases hasM m e 1 <;> simp
  have k0 : hasM m e 0 = false := by have := h.2; revert this; cases hasM m e 0 <;> simp
  rcases hm.val v.toNat (by omega) with h0 | h0 | h0
  · have := List.any_eq_false.1 k0 v h1; apply this; rw [h0]; rfl
  · have := List.any_eq_false.1 k1 v h1; apply this; rw [h0]; rfl
  · have := (hX v.toNat (by omega)).2 h0
    rw [h2] at this; cases this
theorem min_rec {w : List Int} {es : List (List Int)} (h8 : In8 w es) : ∀ (d f : Nat) (m : List Int) (lf : Int) (bl : List Int) (bw : Int), d < f → Mk w.length m → opc w.length m ≤ (d : Int) → 0 ≤ lf → lf < 9223372036854775808 →
    ∃ ok lf' bl' bw', q46_n loO f (cw w m, w, es, lf, bl, bw, m) = some (ok, w, es, lf', bl', bw', m) ∧ lf' ≤ lf ∧ lf - lf' ≤ 2 ^ (d + 1) - 1 ∧ (ok = false → lf' = -1) ∧ (ok = true → 0 ≤ lf' ∧ bw' ≤ bw ∧ ∀ X, Con w.length m X → Hit es X → bw' ≤ wt w X) ∧ ((bl' = bl ∧ bw' = bw) ∨ GL w es bl' bw')
  | d, f, m, lf, bl, bw, hdf, hm, hop, hl0, hl1 => by
    obtain ⟨f, rfl⟩ : ∃ f', f = f' + 1 := ⟨f - 1, by omega⟩
    have hwl := h8.wl
    have hel := h8.el
    have hml := hm.len
    have hp2 : (1 : Int) ≤ 2 ^ (d + 1) - 1 := by
      have : (2 : Int) ^ (d + 1) = ((2 ^ (d + 1) : Nat) : Int) := by simp
      rw [this]
      have : 2 ^ (d + 1) = 2 * 2 ^ d := by rw [Nat.pow_succ]; omega
      have := Nat.two_pow_pos d
      omega
    have hvt : ∀ e ∈ es, Vts m.length e := fun e he => by rw [hml]; exact h8.vts he
    have e1 : IntKind.wrap .i64 (lf - 1) = lf - 1 := wr6 (by omega) (by omega)
    have hsp : q30 loO w es lf m = some (decide (0 ≤ lf - 1), w, es, lf - 1, m) := by
      simp only [q30, e1]
    show ∃ ok lf' bl' bw', q46_r loO (q46_n loO f) (cw w m) w es lf bl bw m = some (ok, w, es, lf', bl', bw', m) ∧ _
    by_cases hlz : lf = 0
    · refine ⟨false, lf - 1, bl, bw, ?_, by omega, by omega, fun _ => by omega, fun h => by (cases h), .inl ⟨rfl, rfl⟩⟩
      simp only [q46_r, hsp, bindS]
      have : decide (0 ≤ lf - 1) = false := by simp; omega
      rw [chkT _ trivial, this]
      rfl
    have hge : decide (0 ≤ lf - 1) = true := by simp; omega
    cases hdd : deadM m es with
    | true =>
      refine ⟨true, lf - 1, bl, bw, ?_, by omega, by omega, fun h => by (cases h), fun _ => ⟨by omega, by omega, fun X hX hh => (dead_none hm (fun e he => h8.vts he) hdd hX hh).elim⟩, .inl ⟨rfl, rfl⟩⟩
      simp only [q46_r, hsp, bindS, hge, Bool.not_true, cond_false, dead_eq w es (lf - 1) m hel hvt, hdd, cond_true]
      rw [chkT _ trivial, chkT _ trivial]
    | false =>
      obtain ⟨s, out, p1, p2, p3, p4⟩ := packing_ok h8 (lf - 1) hm hdd
      have hcb := cw_bd (m := m) h8.wv hwl
      have e2 : IntKind.wrap .i64 (cw w m + s) = cw w m + s := wr6 (by omega) (by omega)
      by_cases hbd : bw ≤ cw w m + s
      · refine ⟨true, lf - 1, bl, bw, ?_, by omega, by omega, fun h => by (cases h), fun _ => ⟨by omega, by omega, fun X hX hh => ?_⟩, .inl ⟨rfl, rfl⟩⟩
        · simp only [q46_r, hsp, bindS, hge, Bool.not_true, cond_false, dead_eq w es (lf - 1) m hel hvt, hdd, p1, e2]
          rw [chkT _ trivial, chkT _ trivial, chkT _ trivial, cT _ _ hbd]
        · have := wt_ge h8.wv hX
          have := p4 X hX hh
          omega
      · obtain ⟨v, b1, b2⟩ := branch_ok h8 (lf - 1) hm hdd
        rcases b2 with ⟨b2, b3⟩ | ⟨b2, b3, b4⟩
        · subst b2
          have hL10 := min10 (q46_n loO f) w es (lf - 1) (cw w m) m (by omega)
          refine ⟨true, lf - 1, chsL m m.length, cw w m, ?_, by omega, by omega, fun h => by (cases h), fun _ => ⟨by omega, by omega, fun X hX hh => ?_⟩, .inr ?_⟩
          · simp only [q46_r, hsp, bindS, hge, Bool.not_true, cond_false, dead_eq w es (lf - 1) m hel hvt, hdd, p1, e2, b1]
            rw [chkT _ trivial, chkT _ trivial, chkT _ trivial, cF _ _ hbd, chkT _ trivial, cT _ _ (by omega), hL10]
            rfl
          · have := wt_ge h8.wv hX
            have := opn_nonneg (m := m) h8.wv X
            omega
          · refine ⟨chsL_asc _ _, fun v hv => ?_, ?_, ?_⟩
            · have := (chsL_mem _ _ _).1 hv; omega
            · refine List.all_eq_true.2 fun e he => ?_
              obtain ⟨v, h1, h2⟩ := List.any_eq_true.1 (b3 e he)
              have := (hvt e he).2 v h1
              exact List.any_eq_true.2 ⟨v, h1, by simpa [chsL_mem] using ⟨this.1, this.2, of_decide_eq_true h2⟩⟩
            · rw [chsL_sum, hml]; rfl
        · have hvl : v.toNat < w.length := by omega
          have ho1 := opc_set hm v.toNat hvl b4 1 (by omega)
          have ho2 := opc_set hm v.toNat hvl b4 2 (by omega)
          have hopz : 0 ≤ opc w.length (m.set v.toNat 1) := by
            have : sg w.length (fun _ => 0) ≤ opc w.length (m.set v.toNat 1) := sg_le fun u hu => by split <;> omega
            rwa [sg_zero] at this
          have hd0 : d ≠ 0 := by omega
          have hm1 := hm.set v.toNat 1 (by omega) hvl
          have hm2 := hm.set v.toNat 2 (by omega) hvl
          have hwv := h8.wv _ (gmem w 0 v.toNat hvl)
          have e3 : IntKind.wrap .i64 (cw w m + w.getD v.toNat 0) = cw w (m.set v.toNat 1) := by
            rw [cw_set1 hm v.toNat hvl b4, wr6 (by omega) (by omega)]
          have ed : d - 1 + 1 = d := by omega
          have hpp : (2 : Int) ^ (d + 1) = 2 * 2 ^ d := by
            have a1 : (2 : Int) ^ (d + 1) = ((2 ^ (d + 1) : Nat) : Int) := by simp
            have a2 : (2 : Int) ^ d = ((2 ^ d : Nat) : Int) := by simp
            rw [a1, a2, Nat.pow_succ]; omega
          obtain ⟨ok1, lf1, bl1, bw1, r1, r2, r3, r4, r5, r6⟩ := min_rec h8 (d - 1) f (m.set v.toNat 1) (lf - 1) bl bw (by omega) hm1 (by omega) (by omega) (by omega)
          rw [ed] at r3
          have hs0 : (m.set v.toNat 1).set v.toNat 2 = m.set v.toNat 2 := List.set_set ..
          have hs1 : (m.set v.toNat 2).set v.toNat 0 = m := by
            rw [List.set_set]
            apply List.ext_getElem?
            intro k
            rw [List.getElem?_set]
            by_cases e : v.toNat = k
            · subst e
              rw [List.getD_eq_getElem?_getD, List.getElem?_eq_getElem (by omega)] at b4
              simp at b4
              rw [if_pos rfl, if_pos (by omega), List.getElem?_eq_getElem (by omega), b4]
            · rw [if_neg e]
          cases ok1 with
          | false =>
            have hl1 := r4 rfl
            refine ⟨false, lf1, bl1, bw1, ?_, by omega, by omega, fun _ => hl1, fun h => by (cases h), r6⟩
            simp only [q46_r, hsp, bindS, hge, Bool.not_true, cond_false, dead_eq w es (lf - 1) m hel hvt, hdd, p1, e2, b1, e3]
            rw [chkT _ trivial, chkT _ trivial, chkT _ trivial, cF _ _ hbd, chkT _ trivial, cF _ _ (by omega), chkT _ (by omega), chkT _ (by omega), r1]
            simp only [bindS, cond_false, hs0, hs1]
            rw [chkT _ trivial, chkT _ (by rw [List.length_set]; omega), chkT _ (by rw [List.length_set]; omega)]
          | true =>
            obtain ⟨r51, r52, r53⟩ := r5 rfl
            obtain ⟨ok2, lf2, bl2, bw2, t1, t2, t3, t4, t5, t6⟩ := min_rec h8 (d - 1) f (m.set v.toNat 2) lf1 bl1 bw1 (by omega) hm2 (by omega) r51 (by omega)
            rw [ed] at t3
            rw [cw_set2 hm v.toNat hvl b4] at t1
            refine ⟨ok2, lf2, bl2, bw2, ?_, by omega, by omega, t4, fun h => ?_, ?_⟩
            · simp only [q46_r, hsp, bindS, hge, Bool.not_true, cond_false, dead_eq w es (lf - 1) m hel hvt, hdd, p1, e2, b1, e3]
              rw [chkT _ trivial, chkT _ trivial, chkT _ trivial, cF _ _ hbd, chkT _ trivial, cF _ _ (by omega), chkT _ (by omega), chkT _ (by omega), r1]
              simp only [bindS, cond_true, hs0, t1, hs1]
              rw [chkT _ trivial, chkT _ (by rw [List.length_set]; omega), chkT _ trivial, chkT _ (by rw [List.length_set]; omega)]
            · obtain ⟨t51, t52, t53⟩ := t5 h
              refine ⟨t51, by omega, fun X hX hh => ?_⟩
              have hc := con_set hm hX v.toNat hvl
              cases hx : X v.toNat with
              | true => have := r53 X (hc.1 hx) hh; omega
              | false => exact t53 X (hc.2 hx) hh
            · rcases t6 with ⟨h1, h2⟩ | h
              · rw [h1, h2]; exact r6
              · exact .inr h
termination_by d => d
theorem hweight_ok {w : List Int} {es : List (List Int)} (h8 : In8 w es) (l : List Int) (hd : l.Nodup) (hl : l.length ≤ 100) (hr : ∀ v ∈ l, 0 ≤ v ∧ v < (w.length : Int)) : q28 loO w es l = some (sumw w l, 0) := by
  have hwl := h8.wl
  have hcon : ∀ (s : List Int) (v : Int), s.length ≤ 1000 → q27 loO s v = some (decide (v ∈ s)) := by
    intro s v hs
    have hf := loop_find (step := q26_L3_s loO) (fun n => (s, v, (s.length : Int), (n : Int))) s.length (fun n => decide (v = s.getD n 0)) (fun n => .inl (n : Int)) (.inr ())
      (by simp only [q26_L3_s]; rw [cF _ _ (by omega)])
      (fun n hn => by
        have e1 : IntKind.wrap .i64 ((n : Int) + 1) = ((n + 1 : Nat) : Int) := by rw [wr6 (by omega) (by omega)]; omega
        simp only [q26_L3_s, Int.toNat_natCast, e1]
        rw [cT _ _ (by omega), chkT _ (by omega)])
    rw [range_any s 0 (fun x => decide (v = x))] at hf
    have hmem : (s.any fun x => decide (v = x)) = decide (v ∈ s) := by
      by_cases hv : v ∈ s
      · simp only [hv, decide_true]; exact List.any_eq_true.2 ⟨v, hv, by simp⟩
      · simp only [hv, decide_false, List.any_eq_false, decide_eq_true_eq]
        intro x hx e; subst e; exact hv hx
    rw [hmem] at hf
    have e0 : q26_L3 loO (s, v, (s.length : Int), (0 : Int)) = loopO (q26_L3_s loO) (s, v, (s.length : Int), ((0 : Nat) : Int)) := rfl
    rcases hf with ⟨h1, h2⟩ | ⟨h1, n, hn, h2⟩
    · simp only [q27, q26, e0, h2, bindS, alt2_r, h1]; rfl
    · simp only [q27, q26, e0, h2, bindS, alt2_l, h1]
      have : decide ((0 : Int) ≤ (n : Int)) = true := by simp
      rw [this]
  have h1 : q28_L3 loO (l, (0 : Int), l, (l.length : Int), (0 : Int), w, es) = some (.inr (sumw w l)) := loop_at (step := q28_L3_s loO) (st := fun n => (l, sumw w (l.take n), l, (l.length : Int), (n : Int), w, es)) (N := l.length) rfl
    (by simp only [q28_L3_s]; rw [cF _ _ (by omega), List.take_of_length_le (by omega)])
    (fun n hn => by
      have e1 : IntKind.wrap .i64 ((n : Int) + 1) = ((n + 1 : Nat) : Int) := by rw [wr6 (by omega) (by omega)]; omega
      have hv := hr _ (gmem l 0 n hn)
      have hm := nodup_take hd n hn
      have hb := sumw_bd h8.wv (l.take n)
      have hlt : (l.take n).length ≤ n := by simp; omega
      have hx := h8.wv _ (gmem w 0 (l.getD n 0).toNat (by omega))
      have e2 : sumw w (l.take (n + 1)) = IntKind.wrap .i64 (sumw w (l.take n) + w.getD (l.getD n 0).toNat 0) := by
        rw [wr6 (by omega) (by omega), take_succ' l 0 n hn, sumw_app]
        simp [sumw]
      simp only [q28_L3_s, Int.toNat_natCast, e1, List.drop_zero, hcon _ _ (show (l.take n).length ≤ 1000 by omega), bindS, hm, decide_false, cond_false, e2]
      rw [cT _ _ (by omega), chkT _ (by omega), cF _ _ (by omega), cF _ _ (by omega), chkT _ (by omega), chkT _ (by omega)])
  simp only [q28, gvalid_ok h8, h1, bindS, alt2_r, decide_true, Bool.not_true, cond_false]
theorem bindm {A B : Type} {a : Option A} {f g : A → Option B} {y : B} (h : Option.bind a f = some y) (k : ∀ z, f z = some y → g z = some y) : Option.bind a g = some y := by
  cases a with
  | none => cases h
  | some z => exact k z h
theorem bindr {A B : Type} {a a' : Option A} {f g : A → Option B} {y : B} (h : Option.bind a f = some y) (ha : ∀ z, a = some z → a' = some z) (k : ∀ z, f z = some y → g z = some y) : Option.bind a' g = some y := by
  cases a with
  | none => cases h
  | some z => rw [ha z rfl]; exact k z h
theorem chkm {B : Type} {p : Prop} [Decidable p] {a a' : Option B} {y : B} (h : chk p a = some y) (k : a = some y → a' = some y) : chk p a' = some y := by
  by_cases hp : p
  · rw [chkT _ hp] at *; exact k h
  · simp [chk, hp] at h
theorem condm {B : Type} {c : Bool} {a a' x x' : Option B} {y : B} (h : (bif c then a else x) = some y) (k : a = some y → a' = some y) (k' : x = some y → x' = some y) : (bif c then a' else x') = some y := by
  cases c with
  | true => exact k h
  | false => exact k' h
theorem min_mono (lo : Lo) : ∀ n x y, q46_n lo n x = some y → q46_n lo (n + 1) x = some y
  | 0, _, _, h => by cases h
  | n + 1, x, y, h => by
    have ih := min_mono lo n
    have h' : q46_r lo (q46_n lo n) x.1 x.2.1 x.2.2.1 x.2.2.2.1 x.2.2.2.2.1 x.2.2.2.2.2.1 x.2.2.2.2.2.2 = some y := h
    show q46_r lo (q46_n lo (n + 1)) x.1 x.2.1 x.2.2.1 x.2.2.2.1 x.2.2.2.2.1 x.2.2.2.2.2.1 x.2.2.2.2.2.2 = some y
    unfold q46_r at h' ⊢
    exact bindm h' fun _ h => chkm h fun h => condm h (fun h => h) fun h => bindm h fun _ h => chkm h fun h => condm h (fun h => h) fun h => bindm h fun _ h => chkm h fun h => condm h (fun h => h) fun h => bindm h fun _ h => chkm h fun h => condm h (fun h => h) fun h =>
      chkm h fun h => chkm h fun h => bindr h (ih _) fun _ h => chkm h fun h => chkm h fun h => condm h (fun h => bindr h (ih _) fun _ h => h) fun h => h
theorem minimum_law (c d : List Int) (b : Int) (hc : ∀ x ∈ c, 0 ≤ x ∧ x ≤ 255) (hd : ∀ x ∈ d, 0 ≤ x ∧ x ≤ 65535) (hb : b < 9223372036854775808) : q66 loO c d b = some true := by
  obtain ⟨w, es, ok, h1, h2⟩ := of_ok c d hc hd
  cases ok with
  | false => simp only [q66, h1, aw, bindS, Bool.not_true, Bool.not_false, cond_false, cond_true]
  | true =>
    have h8 := h2 rfl
    have hwl := h8.wl
    obtain ⟨l, g1, g2⟩ := greedy_ok h8
    have hll : l.length ≤ w.length := asc_len g2.asc g2.rng
    have hmx : maxEl ≥ 100000 := by decide
    by_cases hb1 : b < 1
    · have hmin : q47 loO w es b = some ([], 0, 1) := by
        simp only [q47, g1, bindS, decide_true, Bool.not_true, cond_false]
        rw [cT _ _ hb1]
      simp only [q66, h1, aw, bindS, Bool.not_true, cond_false, hmin]
      rw [cT _ _ hb1]
      rfl
    · have hm0 : Mk w.length (List.replicate w.length 0) := ⟨by simp, fun v hv => by simp [List.getD_eq_getElem?_getD, hv]⟩
      have hg0 : ∀ v, v < w.length → (List.replicate w.length (0 : Int)).getD v 0 = 0 := fun v hv => by simp [List.getD_eq_getElem?_getD, hv]
      have hcw : cw w (List.replicate w.length 0) = 0 := by
        unfold cw
        rw [sg_congr (g := fun _ => 0) (fun v hv => by rw [hg0 v hv]; rfl), sg_zero]
      have hop : opc w.length (List.replicate w.length 0) ≤ ((w.length : Nat) : Int) := by
        have : ∀ n, sg n (fun _ => 1) = (n : Int) := by
          intro n
          induction n with
          | zero => rfl
          | succ n ih => rw [sg_succ, ih]; omega
        rw [← this w.length]
        exact sg_le fun v hv => by split <;> omega
      obtain ⟨ok, lf', bl', bw', r1, r2, r3, r4, r5, r6⟩ := min_rec h8 w.length (0 + (w.length + 1)) (List.replicate w.length 0) b l (sumw w l) (by omega) hm0 hop (by omega) hb
      rw [hcw] at r1
      have r1' : q46 loO 0 w es b l (sumw w l) (List.replicate w.length 0) = some (ok, w, es, lf', bl', bw', List.replicate w.length 0) := fix_of (min_mono loO) r1
      have hnew : q29 loO w es b = some (w, es, b, List.replicate w.length 0) := by
        simp only [q29, Int.toNat_natCast]
        rw [chkT _ (by omega)]
      have hmin : q47 loO w es b = bif (!ok) then some ([], 0, 13) else some (bl', bw', 0) := by
        simp only [q47, g1, bindS, decide_true, Bool.not_true, cond_false, hweight_ok h8 l (asc_nodup g2.asc) (by omega) g2.rng, hnew, r1']
        rw [cF _ _ hb1, chkT _ trivial]
      cases ok with
      | false =>
        have hl := r4 rfl
        have h512 : (2 : Int) ^ (w.length + 1) ≤ 512 := by
          have a1 : (2 : Int) ^ (w.length + 1) = ((2 ^ (w.length + 1) : Nat) : Int) := by simp
          have a2 : 2 ^ (w.length + 1) ≤ 2 ^ 9 := Nat.pow_le_pow_right (by decide) (by omega)
          rw [a1]
          have a3 : (2 : Nat) ^ 9 = 512 := rfl
          omega
        have hmin : q47 loO w es b = some ([], 0, 13) := hmin
        simp only [q66, h1, aw, bindS, Bool.not_true, cond_false, hmin]
        rw [cF _ _ hb1, cT _ _ trivial, cT _ _ (by omega)]
        rfl
      | true =>
        have hmin : q47 loO w es b = some (bl', bw', 0) := hmin
        obtain ⟨_, _, hbest⟩ := r5 rfl
        have hgl : GL w es bl' bw' := by
          rcases r6 with ⟨e1, e2⟩ | h
          · rw [e1, e2]; exact ⟨g2.asc, g2.rng, g2.hit, rfl⟩
          · exact h
        have hbl : bl'.length ≤ w.length := asc_len hgl.asc hgl.rng
        obtain ⟨m, m1, m2⟩ := least_eq h8
        have m3 := (least_le m2 bl' hgl.asc hgl.rng hgl.hit).2
        have m4 : bw' ≤ m := by
          rcases m2 with ⟨k1, k2⟩ | ⟨k1, ⟨x, k2, k3, k4⟩, _⟩
          · have := (least_le (.inl ⟨k1, k2⟩) bl' hgl.asc hgl.rng hgl.hit).1; omega
          · have hx := hbest (fun v => x.testBit v) (fun v hv => ⟨fun h => (by rw [hg0 v hv] at h; omega), fun h => (by rw [hg0 v hv] at h; omega)⟩) (fun e he => by
              obtain ⟨v, v1, v2⟩ := List.any_eq_true.1 (List.all_eq_true.1 k3 e he)
              exact ⟨v, v1, ((subB_mem _ _ _).1 (of_decide_eq_true v2)).2.2⟩)
            have e : wt w (fun v => x.testBit v) = sumw w (subB x w.length) := (subB_sum w x w.length).symm
            omega
        have m5 : bw' = m := by have := hgl.wgt; omega
        simp only [q66, h1, aw, bindS, Bool.not_true, cond_false, hmin, rweight_ok h8 bl' (asc_nodup hgl.asc) (by omega) hgl.rng, decide_true, cond_true, asc_ok bl' hgl.asc (by omega), hits_eq h8 bl' (by omega), hgl.hit, m1, hgl.wgt]
        rw [cF _ _ hb1, cF _ _ (by decide)]
        simp [m5]
theorem i64_rng {n : Int} (h : (Lit.int .i64 n).wf = true) : -9223372036854775808 ≤ n ∧ n < 9223372036854775808 := by
  simp only [Lit.wf, Bool.and_eq_true, decide_eq_true_eq] at h
  have h1 : IntKind.i64.min = -9223372036854775808 := rfl
  have h2 : IntKind.i64.max = 9223372036854775807 := rfl
  omega
theorem minimum_fin (x : List Int × List Int × Int) (hr : (cs [.l (cs [.i .u8]), .l (cs [.i .u16]), .i .i64]).rng x) : q66 loO x.1 x.2.1 x.2.2 = some true :=
  minimum_law x.1 x.2.1 x.2.2 (fun v hv => u8_rng (hr.1 v hv).1) (fun v hv => u16_rng (hr.2.1 v hv).1) (i64_rng hr.2.2.1).2
end Go.Abs.G39
