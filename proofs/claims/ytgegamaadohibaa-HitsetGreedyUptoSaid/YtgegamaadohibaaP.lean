/- Helpers of the plain laws: loops as states by number, tables, short words. No condition. -/
import Derived.Test.YtgegamaadohibaaB
import Derived.Test.YtgegamaadohibaaG1
set_option linter.unusedVariables false
set_option linter.unusedSimpArgs false
set_option linter.unusedSectionVars false
namespace Go.Abs
set_option linter.unusedSimpArgs false
set_option linter.unusedVariables false
theorem wr6 {n : Int} (h0 : -9223372036854775808 ≤ n) (h1 : n < 9223372036854775808) : IntKind.wrap .i64 n = n := by
  have e : (2 : Int) ^ IntKind.bits .i64 = 18446744073709551616 := rfl
  have e' : (2 : Int) ^ (IntKind.bits .i64 - 1) = 9223372036854775808 := rfl
  have s : IntKind.signed .i64 = true := rfl
  simp only [IntKind.wrap, e, e', s, Bool.true_and, ge_iff_le, decide_eq_true_eq]
  split <;> omega
theorem chkT {β : Type} {p : Prop} [Decidable p] (x : Option β) (h : p) : chk p x = x := by simp [chk, h]
theorem cT {β : Type} {p : Prop} [Decidable p] (x y : β) (h : p) : (bif decide p then x else y) = x := by simp [h]
theorem cF {β : Type} {p : Prop} [Decidable p] (x y : β) (h : ¬ p) : (bif decide p then x else y) = y := by simp [h]
theorem bindS {α β : Type} (a : α) (f : α → Option β) : Option.bind (some a) f = f a := rfl
theorem loop_up {S R : Type} {step : S → Option (S ⊕ R)} (st : Nat → S) (N : Nat) (r : R) (he : step (st N) = some (.inr r)) (hs : ∀ n, n < N → step (st n) = some (.inl (st (n + 1)))) : ∀ k n, n + k = N → loopO step (st n) = some r
  | 0, n, h => by rw [loopO_eq]; simp only [Nat.add_zero] at h; subst h; rw [he]
  | k + 1, n, h => by rw [loopO_eq, hs n (by omega)]; exact loop_up st N r he hs k (n + 1) (by omega)
theorem loop_at {S R : Type} {step : S → Option (S ⊕ R)} {st : Nat → S} {N : Nat} {r : R} {s : S} (hst : s = st 0) (he : step (st N) = some (.inr r)) (hs : ∀ n, n < N → step (st n) = some (.inl (st (n + 1)))) : loopO step s = some r := by
  subst hst; exact loop_up st N r he hs N 0 (by omega)
def tab {α : Type} (n : Nat) (f : Nat → α) : List α := (List.range n).map f
theorem tab_len {α : Type} (n : Nat) (f : Nat → α) : (tab n f).length = n := by simp [tab]
theorem tab_get {α : Type} (n : Nat) (f : Nat → α) (i : Nat) (d : α) (h : i < n) : (tab n f).getD i d = f i := by simp [tab, List.getD_eq_getElem?_getD, h]
theorem tab_set {α : Type} (n : Nat) (f : Nat → α) (i : Nat) (v : α) : (tab n f).set i v = tab n (fun k => if k = i then v else f k) := by
  apply List.ext_getElem?
  intro k
  by_cases h : k < n
  · by_cases e : k = i
    · subst e; simp [tab, List.getElem?_set, h]
    · simp [tab, List.getElem?_set, h, e, Ne.symm e]
  · simp [tab, List.getElem?_set, h, List.getElem?_eq_none]
theorem tab_congr {α : Type} {n : Nat} {f g : Nat → α} (h : ∀ k, k < n → f k = g k) : tab n f = tab n g :=
  List.map_congr_left (fun k hk => h k (by simpa using hk))
theorem tab_rep {α : Type} (n : Nat) (a : α) : List.replicate n a = tab n (fun _ => a) := by
  apply List.ext_getElem (by simp [tab])
  intro k h1 h2
  simp [tab]
theorem tab_of {α : Type} (l : List α) (d : α) : l = tab l.length (fun k => l.getD k d) := by
  apply List.ext_getElem (tab_len _ _).symm
  intro k h1 h2
  simp only [tab, List.getElem_map, List.getElem_range, List.getD_eq_getElem?_getD, List.getElem?_eq_getElem h1, Option.getD_some]
end Go.Abs
namespace Go.Abs.G39
open Go Go.Abs
set_option linter.unusedSimpArgs false
set_option linter.unusedVariables false
set_option maxRecDepth 100000
theorem aw : q55 loO = some true := (congrArg q55 (loM_eq 400)).symm.trans (show q55 (loM 400) = some true by kernel_rfl)
theorem runO {S R : Type} (step : S → Option (S ⊕ R)) (x : S) : loO.run step x = loopO step x := rfl
theorem alt2_l {A B C : Type} (a : A) (f : A → Option C) (g : B → Option C) : alt2 (.inl a : A ⊕ B) f g = f a := rfl
theorem alt2_r {A B C : Type} (b : B) (f : A → Option C) (g : B → Option C) : alt2 (.inr b : A ⊕ B) f g = g b := rfl
theorem range_any {α : Type} (l : List α) (d : α) (q : α → Bool) : (List.range l.length).any (fun i => q (l.getD i d)) = l.any q := by
  have h := tab_of l d
  have : (List.range l.length).any (fun i => q (l.getD i d)) = (tab l.length (fun i => l.getD i d)).any q := by simp [tab, List.any_map, Function.comp_def]
  rw [this, ← h]
theorem loop_any {S R : Type} {step : S → Option (S ⊕ R)} (st : Nat → S) (N : Nat) (p : Nat → Bool) (yes no : R) (he : step (st N) = some (.inr no))
    (hs : ∀ n, n < N → step (st n) = bif p n then some (.inr yes) else some (.inl (st (n + 1)))) : loopO step (st 0) = some (bif (List.range N).any p then yes else no) := by
  have go : ∀ k n, n + k = N → loopO step (st n) = some (bif (List.range' n k).any p then yes else no) := by
    intro k
    induction k with
    | zero => intro n h; rw [loopO_eq]; simp only [Nat.add_zero] at h; subst h; rw [he]; rfl
    | succ k ih =>
      intro n h
      rw [loopO_eq, hs n (by omega)]
      cases hp : p n with
      | true => simp [List.range'_succ, hp]
      | false => simp only [cond_false]; rw [ih (n + 1) (by omega)]; simp [List.range'_succ, hp]
  have := go N 0 (by omega)
  rw [← List.range_eq_range'] at this
  exact this
structure In8 (w : List Int) (es : List (List Int)) : Prop where
  wl : w.length ≤ 8
  wv : ∀ x ∈ w, 1 ≤ x ∧ x ≤ 20
  el : es.length ≤ 12
  ev : ∀ e ∈ es, e ≠ [] ∧ e.Pairwise (· < ·) ∧ ∀ v ∈ e, 0 ≤ v ∧ v < (w.length : Int)
theorem gmem {α : Type} (l : List α) (d : α) (i : Nat) (h : i < l.length) : l.getD i d ∈ l := by
  rw [List.getD_eq_getElem?_getD, List.getElem?_eq_getElem h]; exact List.getElem_mem h
theorem pair_get {l : List Int} (h : l.Pairwise (· < ·)) (i j : Nat) (hij : i < j) (hj : j < l.length) : l.getD i 0 < l.getD j 0 := by
  have := List.pairwise_iff_getElem.1 h i j (by omega) hj hij
  simpa [List.getD_eq_getElem?_getD, List.getElem?_eq_getElem hj, List.getElem?_eq_getElem (show i < l.length by omega)] using this
theorem asc_len' : ∀ (l : List Int) (m n : Nat), l.Pairwise (· < ·) → (∀ v ∈ l, (m : Int) ≤ v ∧ v < (n : Int)) → m ≤ n → l.length + m ≤ n
  | [], m, n, _, _, h => by simpa using h
  | x :: r, m, n, hp, hr, hm => by
    rw [List.pairwise_cons] at hp
    have hx := hr x (by simp)
    have := asc_len' r (x.toNat + 1) n hp.2 (fun v hv => ⟨by have := hp.1 v hv; omega, (hr v (by simp [hv])).2⟩) (by omega)
    simp only [List.length_cons]
    omega
theorem asc_len {n : Nat} {l : List Int} (hd : l.Pairwise (· < ·)) (hr : ∀ v ∈ l, 0 ≤ v ∧ v < (n : Int)) : l.length ≤ n := by
  have := asc_len' l 0 n hd (by simpa using hr) (by omega)
  omega
theorem asc_nodup {l : List Int} (h : l.Pairwise (· < ·)) : l.Nodup := h.imp (fun hab => by omega)
theorem In8.e8 {w : List Int} {es : List (List Int)} (h : In8 w es) {e : List Int} (he : e ∈ es) : e.length ≤ 8 := by
  obtain ⟨_, h1, h2⟩ := h.ev e he
  have := asc_len h1 h2
  have := h.wl
  omega
theorem has_eq (l : List Int) (v : Int) (hl : l.length ≤ 100000) : q60 loO l v = some (decide (v ∈ l)) := by
  have h := loop_any (step := q60_L3_s loO) (fun n => (l, v, (n : Int))) l.length (fun n => decide (l.getD n 0 = v)) (.inl true) (.inr ())
    (by simp only [q60_L3_s]; rw [cF _ _ (by omega)])
    (fun n hn => by
      have e1 : IntKind.wrap .i64 ((n : Int) + 1) = ((n + 1 : Nat) : Int) := by rw [wr6 (by omega) (by omega)]; omega
      simp only [q60_L3_s, Int.toNat_natCast, e1]
      rw [cT _ _ (by omega), chkT _ (by omega)])
  have e : (List.range l.length).any (fun n => decide (l.getD n 0 = v)) = decide (v ∈ l) := by
    rw [range_any l 0 (fun x => decide (x = v))]
    by_cases hv : v ∈ l
    · simp [hv]
    · simp only [hv, decide_false, List.any_eq_false, decide_eq_true_eq]
      intro x hx e; subst e; exact hv hx
  rw [e] at h
  have h' : q60_L3 loO (l, v, (0 : Int)) = some (bif decide (v ∈ l) then .inl true else .inr ()) := h
  simp only [q60, h', bindS]
  cases decide (v ∈ l) <;> rfl
theorem meets_eq (a l : List Int) (ha : a.length ≤ 100000) (hl : l.length ≤ 100000) : q63 loO a l = some (a.any fun x => decide (x ∈ l)) := by
  have h := loop_any (step := q63_L3_s loO) (fun n => (a, l, (n : Int))) a.length (fun n => decide (a.getD n 0 ∈ l)) (.inl true) (.inr ())
    (by simp only [q63_L3_s]; rw [cF _ _ (by omega)])
    (fun n hn => by
      have e1 : IntKind.wrap .i64 ((n : Int) + 1) = ((n + 1 : Nat) : Int) := by rw [wr6 (by omega) (by omega)]; omega
      simp only [q63_L3_s, Int.toNat_natCast, e1, has_eq _ _ hl, bindS]
      rw [cT _ _ (by omega), chkT _ (by omega)])
  rw [range_any a 0 (fun x => decide (x ∈ l))] at h
  have h' : q63_L3 loO (a, l, (0 : Int)) = some (bif (a.any fun x => decide (x ∈ l)) then .inl true else .inr ()) := h
  simp only [q63, h', bindS]
  cases (a.any fun x => decide (x ∈ l)) <;> rfl
def hitB (es : List (List Int)) (l : List Int) : Bool := es.all fun e => e.any fun x => decide (x ∈ l)
theorem hits_eq {w : List Int} {es : List (List Int)} (h8 : In8 w es) (l : List Int) (hl : l.length ≤ 100000) : q64 loO w es l = some (hitB es l) := by
  have hel := h8.el
  have h := loop_any (step := q64_L3_s loO) (fun n => (l, (n : Int), w, es)) es.length (fun n => !((es.getD n []).any fun x => decide (x ∈ l))) (.inl false) (.inr ())
    (by simp only [q64_L3_s]; rw [cF _ _ (by omega)])
    (fun n hn => by
      have e1 : IntKind.wrap .i64 ((n : Int) + 1) = ((n + 1 : Nat) : Int) := by rw [wr6 (by omega) (by omega)]; omega
      have := h8.e8 (gmem es [] n hn)
      simp only [q64_L3_s, Int.toNat_natCast, e1, meets_eq (es.getD n []) l (by omega) hl, bindS]
      rw [cT _ _ (by omega), chkT _ (by omega)])
  rw [range_any es [] (fun e => !(e.any fun x => decide (x ∈ l)))] at h
  have h' : q64_L3 loO (l, (0 : Int), w, es) = some (bif (es.any fun e => !(e.any fun x => decide (x ∈ l))) then .inl false else .inr ()) := h
  have e : hitB es l = !(es.any fun e => !(e.any fun x => decide (x ∈ l))) := by simp [hitB, List.any_eq_not_all_not]
  simp only [q64, h', bindS, e]
  cases (es.any fun e => !(e.any fun x => decide (x ∈ l))) <;> rfl
theorem rvalid_ok {w : List Int} {es : List (List Int)} (h8 : In8 w es) : q56 loO w es = some 0 := by
  have hwl := h8.wl
  have hel := h8.el
  have h1 : q56_L22 loO ((0 : Int), w, es) = some (.inr (w, es)) := loop_at (step := q56_L22_s loO) (st := fun n => ((n : Int), w, es)) (N := w.length) rfl
    (by simp only [q56_L22_s]; rw [cF _ _ (by omega)])
    (fun n hn => by
      have e1 : IntKind.wrap .i64 ((n : Int) + 1) = ((n + 1 : Nat) : Int) := by rw [wr6 (by omega) (by omega)]; omega
      have := h8.wv _ (gmem w 0 n hn)
      simp only [q56_L22_s, Int.toNat_natCast, e1]
      rw [cT _ _ (by omega), chkT _ (by omega), cF _ _ (by omega), chkT _ (by omega), cF _ _ (by omega)])
  have h2 : q56_L3 loO ((0 : Int), w, es) = some (.inr ()) := loop_at (step := q56_L3_s loO) (st := fun n => ((n : Int), w, es)) (N := es.length) rfl
    (by simp only [q56_L3_s]; rw [cF _ _ (by omega)])
    (fun n hn => by
      have e1 : IntKind.wrap .i64 ((n : Int) + 1) = ((n + 1 : Nat) : Int) := by rw [wr6 (by omega) (by omega)]; omega
      obtain ⟨hne, hp, hr⟩ := h8.ev _ (gmem es [] n hn)
      have h8e := h8.e8 (gmem es [] n hn)
      have hpos : 0 < (es.getD n []).length := List.length_pos_iff.2 hne
      have h3 : q56_L8 loO ((n : Int), (-1 : Int), (0 : Int), w, es) = some (.inr ((n : Int), (es.getD n []).getD ((es.getD n []).length - 1) 0, w, es)) := loop_at (step := q56_L8_s loO) (st := fun k => ((n : Int), (if k = 0 then -1 else (es.getD n []).getD (k - 1) 0), (k : Int), w, es)) (N := (es.getD n []).length) rfl
        (by simp only [q56_L8_s, Int.toNat_natCast]; rw [chkT _ (by omega), cF _ _ (by omega), if_neg (by omega)])
        (fun k hk => by
          have e1 : IntKind.wrap .i64 ((k : Int) + 1) = ((k + 1 : Nat) : Int) := by rw [wr6 (by omega) (by omega)]; omega
          have hv := hr _ (gmem _ 0 k hk)
          have hlt : (if k = 0 then -1 else (es.getD n []).getD (k - 1) 0) < (es.getD n []).getD k 0 := by
            split
            · omega
            · exact pair_get hp (k - 1) k (by omega) hk
          simp only [q56_L8_s, Int.toNat_natCast, e1]
          rw [chkT _ (by omega), cT _ _ (by omega), chkT _ (by omega), chkT _ (by omega), cF _ _ (by omega), cF _ _ (by omega)]
          simp)
      have hv := hr _ (gmem _ 0 ((es.getD n []).length - 1) (by omega))
      simp only [q56_L3_s, h3, bindS, alt2_r, e1]
      rw [cT _ _ (by omega), cF _ _ (by omega)])
  simp only [q56, h1, h2, bindS, alt2_r]
  rw [cF _ _ (by omega), cF _ _ (by omega)]
def sumw (w : List Int) (l : List Int) : Int := (l.map fun v => w.getD v.toNat 0).sum
theorem sumw_app (w a c : List Int) : sumw w (a ++ c) = sumw w a + sumw w c := by simp [sumw]
theorem sumw_bd {w : List Int} (hw : ∀ x ∈ w, 1 ≤ x ∧ x ≤ 20) : ∀ l : List Int, 0 ≤ sumw w l ∧ sumw w l ≤ 20 * (l.length : Int)
  | [] => by simp [sumw]
  | v :: r => by
    have ih := sumw_bd hw r
    have : 0 ≤ w.getD v.toNat 0 ∧ w.getD v.toNat 0 ≤ 20 := by
      by_cases h : v.toNat < w.length
      · have := hw _ (gmem w 0 v.toNat h); omega
      · rw [List.getD_eq_getElem?_getD, List.getElem?_eq_none (by omega)]; simp
    have e : sumw w (v :: r) = w.getD v.toNat 0 + sumw w r := by simp [sumw]
    rw [e, List.length_cons]
    omega
theorem take_succ' {α : Type} (l : List α) (d : α) (n : Nat) (h : n < l.length) : l.take (n + 1) = l.take n ++ [l.getD n d] := by
  rw [← List.take_append_getElem h, List.getD_eq_getElem?_getD, List.getElem?_eq_getElem h]; rfl
theorem nodup_take {l : List Int} (h : l.Nodup) (n : Nat) (hn : n < l.length) : l.getD n 0 ∉ l.take n := by
  have h1 : (l.take (n + 1)).Nodup := h.sublist (List.take_sublist _ _)
  rw [take_succ' l 0 n hn, List.nodup_append] at h1
  intro hm
  exact h1.2.2 _ hm _ (by simp) rfl
theorem rweight_ok {w : List Int} {es : List (List Int)} (h8 : In8 w es) (l : List Int) (hd : l.Nodup) (hl : l.length ≤ 100) (hr : ∀ v ∈ l, 0 ≤ v ∧ v < (w.length : Int)) : q61 loO w es l = some (sumw w l, 0) := by
  have hwl := h8.wl
  have h1 : q61_L3 loO (l, (0 : Int), (0 : Int), w, es) = some (.inr (sumw w l)) := loop_at (step := q61_L3_s loO) (st := fun n => (l, sumw w (l.take n), (n : Int), w, es)) (N := l.length) rfl
    (by simp only [q61_L3_s]; rw [cF _ _ (by omega), List.take_of_length_le (by omega)])
    (fun n hn => by
      have e1 : IntKind.wrap .i64 ((n : Int) + 1) = ((n + 1 : Nat) : Int) := by rw [wr6 (by omega) (by omega)]; omega
      have hv := hr _ (gmem l 0 n hn)
      have hm := nodup_take hd n hn
      have hb := sumw_bd h8.wv (l.take n)
      have hlt : (l.take n).length ≤ n := by simp; omega
      have hx := h8.wv _ (gmem w 0 (l.getD n 0).toNat (by omega))
      have e2 : sumw w (l.take (n + 1)) = IntKind.wrap .i64 (sumw w (l.take n) + w.getD (l.getD n 0).toNat 0) := by
        rw [wr6 (by omega) (by omega), take_succ' l 0 n hn, sumw_app]
        simp [sumw]
      simp only [q61_L3_s, Int.toNat_natCast, e1, List.drop_zero, has_eq _ _ (show (l.take n).length ≤ 100000 by omega), bindS, hm, decide_false, cond_false, e2]
      rw [cT _ _ (by omega), chkT _ (by omega), cF _ _ (by omega), chkT _ (by omega), cF _ _ (by omega), chkT _ (by omega), chkT _ (by omega), chkT _ (by omega), chkT _ (by omega)])
  simp only [q61, rvalid_ok h8, h1, bindS, alt2_r, decide_true, Bool.not_true, cond_false]
theorem asc_ok (l : List Int) (hp : l.Pairwise (· < ·)) (hl : l.length ≤ 100) : q62 loO l = some true := by
  have h1 : q62_L3 loO (l, (1 : Int)) = some (.inr ()) := loop_at (step := q62_L3_s loO) (st := fun n => (l, ((n + 1 : Nat) : Int))) (N := l.length - 1) rfl
    (by simp only [q62_L3_s]; rw [cF _ _ (by omega)])
    (fun n hn => by
      have e1 : IntKind.wrap .i64 (((n + 1 : Nat) : Int) + 1) = ((n + 1 + 1 : Nat) : Int) := by rw [wr6 (by omega) (by omega)]; omega
      have e2 : IntKind.wrap .i64 (((n + 1 : Nat) : Int) - 1) = (n : Int) := by rw [wr6 (by omega) (by omega)]; omega
      have := pair_get hp n (n + 1) (by omega) (by omega)
      simp only [q62_L3_s, Int.toNat_natCast, e1, e2]
      rw [cT _ _ (by omega), chkT _ (by omega), chkT _ (by omega), cF _ _ (by omega)])
  simp only [q62, h1, bindS, alt2_r]
theorem minimal_ok {w : List Int} {es : List (List Int)} (h8 : In8 w es) (l : List Int) (hl : l.length ≤ 100) (hh : hitB es l = true) (hm : ∀ n, n < l.length → hitB es (l.take n ++ l.drop (n + 1)) = false) : q65 loO w es l = some true := by
  have hmx : maxEl ≥ 100000 := by decide
  have h1 : q65_L3 loO (l, (0 : Int), w, es) = some (.inr ()) := loop_at (step := q65_L3_s loO) (st := fun n => (l, (n : Int), w, es)) (N := l.length) rfl
    (by simp only [q65_L3_s]; rw [cF _ _ (by omega)])
    (fun n hn => by
      have e1 : IntKind.wrap .i64 ((n : Int) + 1) = ((n + 1 : Nat) : Int) := by rw [wr6 (by omega) (by omega)]; omega
      have l1 : (l.take n).length = n := by rw [List.length_take]; omega
      have l2 : (l.drop (n + 1)).length = l.length - (n + 1) := by rw [List.length_drop]
      have hh' := hits_eq h8 (l.take n ++ l.drop (n + 1)) (by rw [List.length_append, l1, l2]; omega)
      rw [hm n hn] at hh'
      simp only [q65_L3_s, Int.toNat_natCast, e1, List.drop_zero, List.take_length, hh', bindS, cond_false, l1, l2]
      rw [cT _ _ (by omega), chkT _ (by omega), chkT _ (by omega), chkT _ (by omega), chkT _ (by omega)])
  simp only [q65, hits_eq h8 l (by omega), hh, h1, bindS, alt2_r, Bool.not_true, cond_false]
end Go.Abs.G39
namespace Go.Abs.G39
open Go Go.Abs
set_option linter.unusedSimpArgs false
set_option linter.unusedVariables false
set_option maxRecDepth 100000
theorem bit1 (m : Nat) (h : m < 65536) : bits .and .i64 (m : Int) (1 : Int) = ((m % 2 : Nat) : Int) := by
  have hk : IntKind.bits .i64 = 64 := rfl
  have e : (BitVec.ofInt 64 (m : Int) &&& BitVec.ofInt 64 ((1 : Nat) : Int)).toNat = m % 2 := by
    rw [BitVec.toNat_and, BitVec.ofInt_natCast, BitVec.ofInt_natCast, BitVec.toNat_ofNat, BitVec.toNat_ofNat, Nat.mod_eq_of_lt (by omega), Nat.mod_eq_of_lt (by omega), Nat.and_one_is_mod]
  show IntKind.wrap .i64 ((BitVec.ofInt 64 (m : Int) &&& BitVec.ofInt 64 ((1 : Nat) : Int)).toNat : Nat) = _
  rw [e, wr6 (by omega) (by omega)]
theorem bit_cond (b i : Nat) (hb : b < 65536) (hi : i ≤ 60) : (bits .and .i64 ((b : Int).fdiv (2 ^ (min i (IntKind.bits .i64)))) (1 : Int) = 1) ↔ b.testBit i = true := by
  have hk : IntKind.bits .i64 = 64 := rfl
  rw [hk, Nat.min_eq_left (by omega)]
  have e1 : ((2 : Int) ^ i) = ((2 ^ i : Nat) : Int) := by simp
  rw [e1, Int.fdiv_eq_ediv_of_nonneg _ (Int.natCast_nonneg _)]
  have e2 : ((b : Int) / ((2 ^ i : Nat) : Int)) = ((b / 2 ^ i : Nat) : Int) := rfl
  rw [e2, bit1 _ (Nat.lt_of_le_of_lt (Nat.div_le_self _ _) hb), Nat.testBit_eq_decide_div_mod_eq]
  simp only [decide_eq_true_eq]
  omega
def subB (b n : Nat) : List Int := ((List.range n).filter fun i => b.testBit i).map fun (i : Nat) => (i : Int)
theorem subB_succ (b n : Nat) : subB b (n + 1) = subB b n ++ (if b.testBit n then [(n : Int)] else []) := by
  unfold subB
  rw [List.range_succ, List.filter_append, List.map_append]
  cases h : b.testBit n <;> simp [h]
theorem subB_len (b n : Nat) : (subB b n).length ≤ n := by
  unfold subB
  rw [List.length_map]
  exact Nat.le_trans (List.length_filter_le _ _) (by simp)
theorem subB_mem (b n : Nat) (v : Int) : v ∈ subB b n ↔ 0 ≤ v ∧ v < (n : Int) ∧ b.testBit v.toNat = true := by
  unfold subB
  simp only [List.mem_map, List.mem_filter, List.mem_range]
  constructor
  · rintro ⟨i, ⟨h1, h2⟩, rfl⟩; simp; exact ⟨by omega, h2⟩
  · rintro ⟨h1, h2, h3⟩; exact ⟨v.toNat, ⟨by omega, h3⟩, by omega⟩
theorem subB_asc (b n : Nat) : (subB b n).Pairwise (· < ·) := by
  unfold subB
  rw [List.pairwise_map]
  exact (List.pairwise_lt_range.filter _).imp (fun h => by omega)
theorem subset_eq (b n : Nat) (hb : b < 65536) (hn : n ≤ 16) : q58 loO (b : Int) (n : Int) = some (subB b n) := by
  have hmx : maxEl ≥ 100000 := by decide
  have h1 : q58_L3 loO ((b : Int), (n : Int), (0 : Int), []) = some (subB b n) := loop_at (step := q58_L3_s loO) (st := fun k => ((b : Int), (n : Int), (k : Int), subB b k)) (N := n) rfl
    (by simp only [q58_L3_s]; rw [cF _ _ (by omega)])
    (fun k hk => by
      have e1 : IntKind.wrap .i64 ((k : Int) + 1) = ((k + 1 : Nat) : Int) := by rw [wr6 (by omega) (by omega)]; omega
      have hl := subB_len b k
      simp only [q58_L3_s, Int.toNat_natCast, e1]
      rw [cT _ _ (by omega), chkT _ (by omega)]
      by_cases h : b.testBit k = true
      · rw [cT _ _ ((bit_cond b k hb (by omega)).2 h), chkT _ (by simp only [List.length_cons, List.length_nil]; omega), subB_succ, if_pos h]
      · rw [cF _ _ (fun x => h ((bit_cond b k hb (by omega)).1 x)), subB_succ, if_neg h, List.append_nil])
  simp only [q58, h1, bindS]
theorem bits_of (p : Nat → Bool) : ∀ n, ∃ b, b < 2 ^ n ∧ ∀ i, i < n → b.testBit i = p i
  | 0 => ⟨0, by simp, fun i h => by omega⟩
  | n + 1 => by
    obtain ⟨b, hb, h⟩ := bits_of p n
    cases hp : p n with
    | false =>
      refine ⟨b, by rw [Nat.pow_succ]; omega, fun i hi => ?_⟩
      by_cases e : i = n
      · subst e; rw [hp]; exact Nat.testBit_lt_two_pow hb
      · exact h i (by omega)
    | true =>
      refine ⟨2 ^ n + b, by rw [Nat.pow_succ]; omega, fun i hi => ?_⟩
      by_cases e : i = n
      · subst e; rw [Nat.testBit_two_pow_add_eq, hp, Nat.testBit_lt_two_pow hb]; rfl
      · rw [Nat.testBit_two_pow_add_gt (by omega)]; exact h i (by omega)
theorem subB_all (n : Nat) (l : List Int) (ha : l.Pairwise (· < ·)) (hr : ∀ v ∈ l, 0 ≤ v ∧ v < (n : Int)) : ∃ b, b < 2 ^ n ∧ subB b n = l := by
  obtain ⟨b, hb, h⟩ := bits_of (fun i => decide ((i : Int) ∈ l)) n
  refine ⟨b, hb, ?_⟩
  refine List.Perm.eq_of_pairwise (fun a c _ _ (h1 : a < c) (h2 : c < a) => by omega) (subB_asc b n) ha ?_
  refine (List.perm_ext_iff_of_nodup (asc_nodup (subB_asc b n)) (asc_nodup ha)).2 fun v => ?_
  rw [subB_mem]
  constructor
  · rintro ⟨h1, h2, h3⟩
    rw [h v.toNat (by omega)] at h3
    have e : ((v.toNat : Nat) : Int) = v := by omega
    rw [e] at h3
    simpa using h3
  · intro hv
    obtain ⟨h1, h2⟩ := hr v hv
    refine ⟨h1, h2, ?_⟩
    rw [h v.toNat (by omega)]
    have e : ((v.toNat : Nat) : Int) = v := by omega
    rw [e]
    simpa using hv
def LB (w : List Int) (es : List (List Int)) (k : Nat) (m : Int) : Prop :=
  (m = -1 ∧ ∀ b, b < k → hitB es (subB b w.length) = false) ∨
  (0 ≤ m ∧ (∃ b, b < k ∧ hitB es (subB b w.length) = true ∧ m = sumw w (subB b w.length)) ∧ ∀ b, b < k → hitB es (subB b w.length) = true → m ≤ sumw w (subB b w.length))
theorem least_loop {w : List Int} {es : List (List Int)} (h8 : In8 w es) : ∀ (j k : Nat) (m : Int), k + j = 2 ^ w.length → LB w es k m → ∃ r, q66_L3 loO (m, (k : Int), w, es) = some r ∧ LB w es (2 ^ w.length) r := by
  have hwl := h8.wl
  have hp : 2 ^ w.length ≤ 2 ^ 8 := Nat.pow_le_pow_right (by decide) hwl
  have hp : 2 ^ w.length ≤ 256 := hp
  have hk : IntKind.bits .i64 = 64 := rfl
  have hlim : IntKind.wrap .i64 ((1 : Int) * 2 ^ (min (w.length : Int).toNat (IntKind.bits .i64))) = ((2 ^ w.length : Nat) : Int) := by
    rw [hk, Int.toNat_natCast, Nat.min_eq_left (by omega), Int.one_mul]
    have e1 : ((2 : Int) ^ w.length) = ((2 ^ w.length : Nat) : Int) := by simp
    rw [e1]
    revert hp
    generalize 2 ^ w.length = N
    intro hp
    exact wr6 (by omega) (by omega)
  revert hp hlim
  generalize 2 ^ w.length = N
  intro hp hlim j
  induction j with
  | zero =>
    intro k m hj hm
    refine ⟨m, ?_, by have : k = N := by omega
                      rw [this] at hm; exact hm⟩
    simp only [q66_L3, runO]
    rw [loopO_eq]
    simp only [q66_L3_s, hlim]
    rw [chkT _ (by omega), cF _ _ (by omega)]
  | succ j ih =>
    intro k m hj hm
    have e1 : IntKind.wrap .i64 ((k : Int) + 1) = ((k + 1 : Nat) : Int) := by rw [wr6 (by omega) (by omega)]; omega
    have hs := subset_eq k w.length (by omega) (by omega)
    have hsl := subB_len k w.length
    have hw := rweight_ok h8 (subB k w.length) (asc_nodup (subB_asc _ _)) (by omega) (fun v hv => by have := (subB_mem _ _ _).1 hv; omega)
    have hh := hits_eq h8 (subB k w.length) (by omega)
    have hb := sumw_bd h8.wv (subB k w.length)
    have step : ∀ m', LB w es (k + 1) m' → (∃ x, q66_L3_s loO (m, (k : Int), w, es) = some (.inl x) ∧ x = (m', ((k + 1 : Nat) : Int), w, es)) → ∃ r, q66_L3 loO (m, (k : Int), w, es) = some r ∧ LB w es (N) r := by
      rintro m' hm' ⟨x, hx, rfl⟩
      obtain ⟨r, hr, hl⟩ := ih (k + 1) m' (by omega) hm'
      refine ⟨r, ?_, hl⟩
      simp only [q66_L3, runO] at *
      rw [loopO_eq, hx]
      exact hr
    cases hc : hitB es (subB k w.length) with
    | false =>
      refine step m ?_ ⟨_, ?_, rfl⟩
      · rcases hm with ⟨h1, h2⟩ | ⟨h1, ⟨b, hb1, hb2⟩, h3⟩
        · exact .inl ⟨h1, fun b hb => by
            by_cases e : b = k
            · subst e; exact hc
            · exact h2 b (by omega)⟩
        · exact .inr ⟨h1, ⟨b, by omega, hb2⟩, fun b hb h => by
            by_cases e : b = k
            · subst e; rw [hc] at h; cases h
            · exact h3 b (by omega) h⟩
      · simp only [q66_L3_s, hlim, hs, hw, hh, hc, bindS, cond_false, e1]
        rw [chkT _ (by omega), cT _ _ (by omega)]
    | true =>
      by_cases hcond : m < 0 ∨ sumw w (subB k w.length) < m
      · refine step (sumw w (subB k w.length)) ?_ ⟨_, ?_, rfl⟩
        · refine .inr ⟨hb.1, ⟨k, by omega, hc, rfl⟩, fun b hbk h => ?_⟩
          by_cases e : b = k
          · subst e; omega
          · rcases hm with ⟨h1, h2⟩ | ⟨h1, _, h3⟩
            · rw [h2 b (by omega)] at h; cases h
            · have := h3 b (by omega) h; omega
        · simp only [q66_L3_s, hlim, hs, hw, hh, hc, bindS, cond_true, e1]
          rw [chkT _ (by omega), cT _ _ (by omega)]
          by_cases hm0 : m < 0
          · rw [cT _ _ hm0]
          · rw [cF _ _ hm0, cT _ _ (by omega)]
      · refine step m ?_ ⟨_, ?_, rfl⟩
        · rcases hm with ⟨h1, h2⟩ | ⟨h1, ⟨b, hb1, hb2⟩, h3⟩
          · omega
          · exact .inr ⟨h1, ⟨b, by omega, hb2⟩, fun b hb h => by
              by_cases e : b = k
              · subst e; omega
              · exact h3 b (by omega) h⟩
        · simp only [q66_L3_s, hlim, hs, hw, hh, hc, bindS, cond_true, e1]
          rw [chkT _ (by omega), cT _ _ (by omega), cF _ _ (by omega), cF _ _ (by omega)]
theorem least_eq {w : List Int} {es : List (List Int)} (h8 : In8 w es) : ∃ m, q66 loO w es = some m ∧ LB w es (2 ^ w.length) m := by
  obtain ⟨r, hr, hl⟩ := least_loop h8 (2 ^ w.length) 0 (-1) (by omega) (.inl ⟨rfl, fun b h => by omega⟩)
  refine ⟨r, ?_, hl⟩
  have hr' : q66_L3 loO ((-1 : Int), (0 : Int), w, es) = some r := hr
  simp only [q66, hr', bindS]
theorem least_le {w : List Int} {es : List (List Int)} {m : Int} (h : LB w es (2 ^ w.length) m) (l : List Int) (ha : l.Pairwise (· < ·)) (hr : ∀ v ∈ l, 0 ≤ v ∧ v < (w.length : Int)) (hh : hitB es l = true) : 0 ≤ m ∧ m ≤ sumw w l := by
  obtain ⟨b, hb, e⟩ := subB_all w.length l ha hr
  rcases h with ⟨h1, h2⟩ | ⟨h1, _, h3⟩
  · have := h2 b hb; rw [e, hh] at this; cases this
  · have := h3 b hb (by rw [e]; exact hh)
    rw [e] at this
    exact ⟨h1, this⟩
theorem of_ok (c d : List Int) (hc : ∀ x ∈ c, 0 ≤ x ∧ x ≤ 255) (hd : ∀ x ∈ d, 0 ≤ x ∧ x ≤ 65535) : ∃ w es ok, q59 loO c d = some (w, es, ok) ∧ (ok = true → In8 w es) := by
  have hmx : maxEl ≥ 100000 := by decide
  by_cases h1 : 8 < c.length
  · refine ⟨_, _, _, by simp only [q59]; rw [cT _ _ (by omega)], fun h => by cases h⟩
  by_cases h2 : 12 < d.length
  · refine ⟨_, _, _, by simp only [q59]; rw [cF _ _ (by omega), cT _ _ (by omega)], fun h => by cases h⟩
  have hm : ∀ x : Int, 0 ≤ x → x ≤ 255 → IntKind.wrap .i64 ((1 : Int) + (IntKind.wrap .i64 (x.tmod (20 : Int)))) = 1 + x % 20 := by
    intro x h0 h1
    rw [Int.tmod_eq_emod_of_nonneg h0, wr6 (n := x % 20) (by omega) (by omega), wr6 (by omega) (by omega)]
  let f : Int → Int := fun x => 1 + x % 20
  have l1 : q59_L11 loO ((0 : Int), c, d, ([] : List Int), ([] : List ((List Int))), [], []) = some (c, d, [], [], c.map f, []) := loop_at (step := q59_L11_s loO) (st := fun n => ((n : Int), c, d, ([] : List Int), ([] : List ((List Int))), (c.take n).map f, [])) (N := c.length) rfl
    (by simp only [q59_L11_s]; rw [cF _ _ (by omega), List.take_of_length_le (by omega)])
    (fun n hn => by
      have e1 : IntKind.wrap .i64 ((n : Int) + 1) = ((n + 1 : Nat) : Int) := by rw [wr6 (by omega) (by omega)]; omega
      have hx := hc _ (gmem c 0 n hn)
      have ll : ((c.take n).map f).length = n := by rw [List.length_map, List.length_take]; omega
      simp only [q59_L11_s, Int.toNat_natCast, e1, hm _ hx.1 hx.2, ll, List.length_cons, List.length_nil]
      rw [cT _ _ (by omega), chkT _ (by omega), chkT _ (by omega), chkT _ (by omega), take_succ' c 0 n hn, List.map_append]
      rfl)
  let g : Int → List Int := fun x => subB x.toNat c.length
  let q : List Int → Bool := fun e => decide (0 < e.length)
  have l2 : q59_L3 loO ((0 : Int), c, d, ([] : List Int), ([] : List ((List Int))), c.map f, []) = some ([], [], c.map f, (d.map g).filter q) := loop_at (step := q59_L3_s loO) (st := fun n => ((n : Int), c, d, ([] : List Int), ([] : List ((List Int))), c.map f, ((d.take n).map g).filter q)) (N := d.length) rfl
    (by simp only [q59_L3_s]; rw [cF _ _ (by omega), List.take_of_length_le (by omega)])
    (fun n hn => by
      have e1 : IntKind.wrap .i64 ((n : Int) + 1) = ((n + 1 : Nat) : Int) := by rw [wr6 (by omega) (by omega)]; omega
      have hx := hd _ (gmem d 0 n hn)
      have e2 : IntKind.wrap .i64 (d.getD n 0) = (((d.getD n 0).toNat : Nat) : Int) := by rw [wr6 (by omega) (by omega)]; omega
      have ll : (((d.take n).map g).filter q).length ≤ n := Nat.le_trans (List.length_filter_le _ _) (by rw [List.length_map, List.length_take]; omega)
      have e3 : ((d.take (n + 1)).map g).filter q = ((d.take n).map g).filter q ++ (if 0 < (g (d.getD n 0)).length then [g (d.getD n 0)] else []) := by
        rw [take_succ' d 0 n hn, List.map_append, List.filter_append]
        simp only [List.map_cons, List.map_nil, List.filter_cons, List.filter_nil]
        simp [q]
      have hs := subset_eq (d.getD n 0).toNat c.length (by omega) (by omega)
      simp only [q59_L3_s, Int.toNat_natCast, e1, e2, hs, bindS]
      rw [cT _ _ (by omega), chkT _ (by omega), e3]
      by_cases h : 0 < (subB (d.getD n 0).toNat c.length).length
      · rw [cT _ _ (by omega), chkT _ (by simp only [List.length_cons, List.length_nil]; omega), if_pos h]
      · rw [cF _ _ (by omega), if_neg h, List.append_nil])
  refine ⟨c.map f, (d.map g).filter q, true, ?_, fun _ => ?_⟩
  · simp only [q59, l1, l2, bindS]
    rw [cF _ _ (by omega), cF _ _ (by omega)]
  · refine ⟨by rw [List.length_map]; omega, ?_, ?_, ?_⟩
    · intro x hx
      obtain ⟨y, hy, rfl⟩ := List.mem_map.1 hx
      have := hc y hy
      show 1 ≤ 1 + y % 20 ∧ 1 + y % 20 ≤ 20
      omega
    · exact Nat.le_trans (List.length_filter_le _ _) (by rw [List.length_map]; omega)
    · intro e he
      obtain ⟨h3, h4⟩ := List.mem_filter.1 he
      obtain ⟨y, hy, rfl⟩ := List.mem_map.1 h3
      refine ⟨?_, subB_asc _ _, fun v hv => ?_⟩
      · intro h0
        have h4 : decide (0 < (g y).length) = true := h4
        rw [h0] at h4
        cases h4
      · have := (subB_mem _ _ _).1 hv
        rw [List.length_map]; omega
end Go.Abs.G39
namespace Go.Abs.G39
open Go Go.Abs
set_option linter.unusedSimpArgs false
set_option linter.unusedVariables false
set_option maxRecDepth 100000
theorem gvalid_ok {w : List Int} {es : List (List Int)} (h8 : In8 w es) : q1 loO w es = some 0 := by
  have hwl := h8.wl
  have hel := h8.el
  have h1 : q1_L23 loO (w, (w.length : Int), (0 : Int), w, es) = some (.inr (w, es)) := loop_at (step := q1_L23_s loO) (st := fun n => (w, (w.length : Int), (n : Int), w, es)) (N := w.length) rfl
    (by simp only [q1_L23_s]; rw [cF _ _ (by omega)])
    (fun n hn => by
      have e1 : IntKind.wrap .i64 ((n : Int) + 1) = ((n + 1 : Nat) : Int) := by rw [wr6 (by omega) (by omega)]; omega
      have := h8.wv _ (gmem w 0 n hn)
      simp only [q1_L23_s, Int.toNat_natCast, e1]
      rw [cT _ _ (by omega), chkT _ (by omega), cF _ _ (by omega), cF _ _ (by omega)])
  have h2 : q1_L3 loO (es, (es.length : Int), (0 : Int), w, es) = some (.inr ()) := loop_at (step := q1_L3_s loO) (st := fun n => (es, (es.length : Int), (n : Int), w, es)) (N := es.length) rfl
    (by simp only [q1_L3_s]; rw [cF _ _ (by omega)])
    (fun n hn => by
      have e1 : IntKind.wrap .i64 ((n : Int) + 1) = ((n + 1 : Nat) : Int) := by rw [wr6 (by omega) (by omega)]; omega
      obtain ⟨hne, hp, hr⟩ := h8.ev _ (gmem es [] n hn)
      have h8e := h8.e8 (gmem es [] n hn)
      have hpos : 0 < (es.getD n []).length := List.length_pos_iff.2 hne
      have h3 : q1_L8 loO (es.getD n [], (-1 : Int), es, (es.length : Int), (n : Int), es.getD n [], ((es.getD n []).length : Int), (0 : Int), w, es) = some (.inr (es.getD n [], es, (es.length : Int), (n : Int), w, es)) := loop_at (step := q1_L8_s loO) (st := fun k => (es.getD n [], (if k = 0 then -1 else (es.getD n []).getD (k - 1) 0), es, (es.length : Int), (n : Int), es.getD n [], ((es.getD n []).length : Int), (k : Int), w, es)) (N := (es.getD n []).length) rfl
        (by simp only [q1_L8_s, Int.toNat_natCast]; rw [cF _ _ (by omega)])
        (fun k hk => by
          have e1 : IntKind.wrap .i64 ((k : Int) + 1) = ((k + 1 : Nat) : Int) := by rw [wr6 (by omega) (by omega)]; omega
          have hv := hr _ (gmem _ 0 k hk)
          have hlt : (if k = 0 then -1 else (es.getD n []).getD (k - 1) 0) < (es.getD n []).getD k 0 := by
            split
            · omega
            · exact pair_get hp (k - 1) k (by omega) hk
          simp only [q1_L8_s, Int.toNat_natCast, e1]
          rw [cT _ _ (by omega), chkT _ (by omega), cF _ _ (by omega), cF _ _ (by omega)]
          simp)
      simp only [q1_L3_s, Int.toNat_natCast, h3, bindS, alt2_r, e1]
      rw [cT _ _ (by omega), chkT _ (by omega), cF _ _ (by omega)])
  simp only [q1, h1, h2, bindS, alt2_r]
  rw [cF _ _ (by omega), cF _ _ (by omega)]
theorem set_set_perm (l : List Int) (i j : Nat) (hi : i < l.length) (hj : j < l.length) : ((l.set i (l.getD j 0)).set j (l.getD i 0)).Perm l := by
  have e1 : l.getD i 0 = l[i] := by rw [List.getD_eq_getElem?_getD, List.getElem?_eq_getElem hi]; rfl
  have e2 : l.getD j 0 = l[j] := by rw [List.getD_eq_getElem?_getD, List.getElem?_eq_getElem hj]; rfl
  rw [e1, e2]
  exact List.set_set_perm hi hj
theorem isort_inner {w : List Int} (es : List (List Int)) (hwl : w.length ≤ 8) (a b i : Int) : ∀ (j : Nat) (l : List Int), j < l.length → l.length ≤ 100 → (∀ v ∈ l, 0 ≤ v ∧ v < (w.length : Int)) →
    ∃ l', q3_L3 loO (0, b, i, (j : Int), l, w, es) = some (0, b, i, l', w, es) ∧ l'.Perm l
  | 0, l, _, _, _ => by
    refine ⟨l, ?_, List.Perm.refl _⟩
    simp only [q3_L3, runO]
    rw [loopO_eq]
    simp only [q3_L3_s]
    rw [cF _ _ (by omega)]
  | j + 1, l, hj, hl, hr => by
    have e1 : IntKind.wrap .i64 (((j + 1 : Nat) : Int) - 1) = (j : Int) := by rw [wr6 (by omega) (by omega)]; omega
    have hv1 := hr _ (gmem l 0 (j + 1) hj)
    have hv2 := hr _ (gmem l 0 j (by omega))
    have hp := set_set_perm l (j + 1) j hj (by omega)
    have hg : q2 loO (l.getD (j + 1) 0) (l.getD j 0) w es = some (IntKind.wrap .i64 (w.getD (l.getD j 0).toNat 0 - w.getD (l.getD (j + 1) 0).toNat 0), w, es) := by
      simp only [q2]
      rw [chkT _ (by omega), chkT _ (by omega)]
    simp only [q3_L3, runO]
    rw [loopO_eq]
    simp only [q3_L3_s, e1, Int.toNat_natCast, hg, bindS]
    rw [cT _ _ (by omega), chkT _ (by omega), chkT _ (by omega)]
    by_cases hc : IntKind.wrap .i64 (w.getD (l.getD j 0).toNat 0 - w.getD (l.getD (j + 1) 0).toNat 0) < 0
    · obtain ⟨l', h1, h2⟩ := isort_inner es hwl a b i j ((l.set (j + 1) (l.getD j 0)).set j (l.getD (j + 1) 0)) (by simp; omega) (by simpa using hl) (fun v hv => hr v (hp.mem_iff.1 hv))
      refine ⟨l', ?_, h2.trans hp⟩
      rw [cT _ _ hc, chkT _ (by omega), chkT _ (by omega), chkT _ (by omega), chkT _ (by rw [List.length_set]; omega)]
      simp only [q3_L3, runO] at h1
      exact h1
    · rw [cF _ _ hc]
      exact ⟨l, rfl, List.Perm.refl _⟩
theorem isort_outer {w : List Int} (es : List (List Int)) (hwl : w.length ≤ 8) (n : Nat) : ∀ (k i : Nat) (l : List Int), i + k = n → l.length = n → n ≤ 100 → (∀ v ∈ l, 0 ≤ v ∧ v < (w.length : Int)) →
    ∃ l', q3_L1 loO (0, (n : Int), (i : Int), l, w, es) = some (l', w, es) ∧ l'.Perm l
  | 0, i, l, hi, _, _, _ => by
    refine ⟨l, ?_, List.Perm.refl _⟩
    simp only [q3_L1, runO]
    rw [loopO_eq]
    simp only [q3_L1_s]
    rw [cF _ _ (by omega)]
  | k + 1, i, l, hi, hl, hn, hr => by
    have e1 : IntKind.wrap .i64 ((i : Int) + 1) = ((i + 1 : Nat) : Int) := by rw [wr6 (by omega) (by omega)]; omega
    obtain ⟨l1, h1, p1⟩ := isort_inner es hwl 0 (n : Int) (i : Int) i l (by omega) (by omega) hr
    obtain ⟨l2, h2, p2⟩ := isort_outer es hwl n k (i + 1) l1 (by omega) (by rw [p1.length_eq, hl]) hn (fun v hv => hr v (p1.mem_iff.1 hv))
    refine ⟨l2, ?_, p2.trans p1⟩
    simp only [q3_L1, runO] at *
    rw [loopO_eq]
    simp only [q3_L1_s, h1, bindS, e1]
    rw [cT _ _ (by omega)]
    exact h2
theorem stable_ok {w : List Int} (es : List (List Int)) (hwl : w.length ≤ 8) (l : List Int) (hl : l.length ≤ 8) (hr : ∀ v ∈ l, 0 ≤ v ∧ v < (w.length : Int)) : ∃ l', q8 loO l w es = some (l', w, es) ∧ l'.Perm l := by
  have h16 : q7_L16 loO ((l.length : Int), 20, 0, 20, l, w, es) = some ((l.length : Int), 20, 0, l, w, es) := by
    simp only [q7_L16, runO]
    rw [loopO_eq]
    simp only [q7_L16_s]
    rw [cF _ _ (by omega)]
  have e1 : IntKind.wrap .i64 ((0 : Int) + 1) = ((1 : Nat) : Int) := by rw [wr6 (by omega) (by omega)]; rfl
  have hin : ∃ l', q3 loO 0 (l.length : Int) l w es = some (l', w, es) ∧ l'.Perm l := by
    by_cases h0 : l.length = 0
    · refine ⟨l, ?_, List.Perm.refl _⟩
      simp only [q3, q3_L1, runO, e1]
      rw [loopO_eq]
      simp only [q3_L1_s]
      rw [cF _ _ (by omega)]
      rfl
    · obtain ⟨l', h1, h2⟩ := isort_outer es hwl l.length (l.length - 1) 1 l (by omega) rfl (by omega) hr
      refine ⟨l', ?_, h2⟩
      simp only [q3, e1, h1, bindS]
  obtain ⟨l', h1, h2⟩ := hin
  have hL1 : q7_L1 loO ((l.length : Int), 20, l', w, es) = some (l', w, es) := by
    simp only [q7_L1, runO]
    rw [loopO_eq]
    simp only [q7_L1_s]
    rw [cF _ _ (by omega)]
  refine ⟨l', ?_, h2⟩
  simp only [q8, q7, h16, h1, bindS, hL1]
  rw [chkT _ h2.length_eq]
  simp only [bindS]
  rw [chkT _ h2.length_eq]
def atE (es : List (List Int)) (n : Nat) (v : Nat) : List Int := ((List.range n).filter fun i => decide ((v : Int) ∈ es.getD i [])).map fun (i : Nat) => (i : Int)
theorem atE_succ (es : List (List Int)) (n v : Nat) : atE es (n + 1) v = atE es n v ++ (if (v : Int) ∈ es.getD n [] then [(n : Int)] else []) := by
  unfold atE
  rw [List.range_succ, List.filter_append, List.map_append]
  by_cases h : (v : Int) ∈ es.getD n [] <;> simp only [h, List.filter_cons, List.filter_nil, decide_true, decide_false, if_true, if_false, Bool.false_eq_true, List.map_cons, List.map_nil]
theorem atE_len (es : List (List Int)) (n v : Nat) : (atE es n v).length ≤ n := by
  unfold atE
  rw [List.length_map]
  exact Nat.le_trans (List.length_filter_le _ _) (by simp)
theorem atE_mem (es : List (List Int)) (n v : Nat) (i : Int) : i ∈ atE es n v ↔ 0 ≤ i ∧ i < (n : Int) ∧ (v : Int) ∈ es.getD i.toNat [] := by
  unfold atE
  simp only [List.mem_map, List.mem_filter, List.mem_range, decide_eq_true_eq]
  constructor
  · rintro ⟨k, ⟨h1, h2⟩, rfl⟩; simp; exact ⟨by omega, by simpa using h2⟩
  · rintro ⟨h1, h2, h3⟩; exact ⟨i.toNat, ⟨by omega, h3⟩, by omega⟩
theorem atE_nodup (es : List (List Int)) (n v : Nat) : (atE es n v).Nodup := by
  unfold atE List.Nodup
  rw [List.pairwise_map]
  exact (List.nodup_range.filter _).imp (fun h => by omega)
theorem g30 {w : List Int} {es : List (List Int)} (h8 : In8 w es) : q27_L30 loO (es, (es.length : Int), (0 : Int), w, es, List.replicate w.length [], List.replicate es.length 0) = some (w, es, tab w.length (atE es es.length), tab es.length fun i => ((es.getD i []).length : Int)) := by
  have hmx : maxEl ≥ 100000 := by decide
  have hwl := h8.wl
  have hel := h8.el
  refine loop_at (step := q27_L30_s loO) (st := fun n => (es, (es.length : Int), (n : Int), w, es, tab w.length (atE es n), tab es.length fun i => if i < n then ((es.getD i []).length : Int) else 0)) (N := es.length) ?_ ?_ ?_
  · rw [tab_rep, tab_rep, tab_congr (f := fun _ => ([] : List Int)) (g := atE es 0) (fun k _ => by simp [atE])]
    simp
  · simp only [q27_L30_s]
    rw [cF _ _ (by omega)]
    rw [tab_congr (f := fun i => if i < es.length then ((es.getD i []).length : Int) else 0) (g := fun i => ((es.getD i []).length : Int)) (fun k hk => by rw [if_pos hk])]
  · intro n hn
    have e1 : IntKind.wrap .i64 ((n : Int) + 1) = ((n + 1 : Nat) : Int) := by rw [wr6 (by omega) (by omega)]; omega
    obtain ⟨hne, hp, hr⟩ := h8.ev _ (gmem es [] n hn)
    have h8e := h8.e8 (gmem es [] n hn)
    have hin : ∀ h3 : List Int, q27_L32 loO ((n : Int), es, (es.length : Int), (n : Int), es.getD n [], ((es.getD n []).length : Int), (0 : Int), w, es, tab w.length (atE es n), h3) = some (es, (es.length : Int), (n : Int), w, es, tab w.length (atE es (n + 1)), h3) := by
      intro h3
      refine loop_at (step := q27_L32_s loO) (st := fun m => ((n : Int), es, (es.length : Int), (n : Int), es.getD n [], ((es.getD n []).length : Int), (m : Int), w, es, tab w.length (fun v => atE es n v ++ (if (v : Int) ∈ (es.getD n []).take m then [(n : Int)] else [])), h3)) (N := (es.getD n []).length) ?_ ?_ ?_
      · simp
      · simp only [q27_L32_s]
        rw [cF _ _ (by omega), List.take_length]
        rw [tab_congr (fun k hk => (atE_succ es n k).symm)]
      · intro m hm
        have e1 : IntKind.wrap .i64 ((m : Int) + 1) = ((m + 1 : Nat) : Int) := by rw [wr6 (by omega) (by omega)]; omega
        have hv := hr _ (gmem _ 0 m hm)
        have hni := nodup_take (asc_nodup hp) m hm
        obtain ⟨v, hv'⟩ : ∃ v : Nat, (es.getD n []).getD m 0 = (v : Int) := ⟨((es.getD n []).getD m 0).toNat, by omega⟩
        rw [hv'] at hv hni
        have hvl : v < w.length := by omega
        have hal := atE_len es n v
        simp only [q27_L32_s, Int.toNat_natCast, e1, hv', tab_len]
        rw [cT _ _ (by omega), chkT _ (by omega), chkT _ (by omega), tab_get _ _ _ _ hvl, if_neg hni, List.append_nil, chkT _ (by simp only [List.length_cons, List.length_nil]; omega), chkT _ (by omega), chkT _ (by simp), tab_set]
        rw [tab_congr (g := fun v => atE es n v ++ (if (v : Int) ∈ (es.getD n []).take (m + 1) then [(n : Int)] else [])) (fun k hk => by
          rw [take_succ' _ 0 m hm, hv']
          by_cases e : k = v
          · subst e; simp
          · have : (k : Int) ≠ (v : Int) := by omega
            simp [e, this])]
    simp only [q27_L30_s, Int.toNat_natCast, e1, hin, bindS, tab_len]
    rw [cT _ _ (by omega), chkT _ (by omega), chkT _ (by omega), tab_set]
    rw [tab_congr (g := fun i => if i < n + 1 then ((es.getD i []).length : Int) else 0) (fun k hk => by
      by_cases e : k = n
      · subst e; simp
      · by_cases h : k < n
        · simp [e, h, show k < n + 1 by omega]
        · simp [e, h, show ¬ k < n + 1 by omega])]
theorem g22 {w : List Int} {es : List (List Int)} (hwl : w.length ≤ 8) (at6 : List (List Int)) (h4 : List Int) : q27_L22 loO ((w.length : Int), (0 : Int), w, es, at6, List.replicate w.length 0, h4) = some (w, es, at6, tab w.length (fun (v : Nat) => (v : Int)), h4) := by
  refine loop_at (step := q27_L22_s loO) (st := fun n => ((w.length : Int), (n : Int), w, es, at6, tab w.length (fun v => if v < n then (v : Int) else 0), h4)) (N := w.length) ?_ ?_ ?_
  · rw [tab_rep]; simp
  · simp only [q27_L22_s]
    rw [cF _ _ (by omega)]
    rw [tab_congr (g := fun v => (v : Int)) (fun k hk => by rw [if_pos hk])]
  · intro n hn
    have e1 : IntKind.wrap .i64 ((n : Int) + 1) = ((n + 1 : Nat) : Int) := by rw [wr6 (by omega) (by omega)]; omega
    simp only [q27_L22_s, Int.toNat_natCast, e1, tab_len]
    rw [cT _ _ (by omega), chkT _ (by omega), tab_set]
    rw [tab_congr (g := fun v => if v < n + 1 then (v : Int) else 0) (fun k hk => by
      by_cases e : k = n
      · subst e; simp
      · by_cases h : k < n
        · simp [e, h, show k < n + 1 by omega]
        · simp [e, h, show ¬ k < n + 1 by omega])]
end Go.Abs.G39
namespace Go.Abs.G39
open Go Go.Abs
set_option linter.unusedSimpArgs false
set_option linter.unusedVariables false
set_option maxRecDepth 100000
theorem loop_find {S R : Type} {step : S → Option (S ⊕ R)} (st : Nat → S) (N : Nat) (p : Nat → Bool) (yes : Nat → R) (no : R) (he : step (st N) = some (.inr no))
    (hs : ∀ n, n < N → step (st n) = bif p n then some (.inr (yes n)) else some (.inl (st (n + 1)))) : ((List.range N).any p = false ∧ loopO step (st 0) = some no) ∨ ((List.range N).any p = true ∧ ∃ n, n < N ∧ loopO step (st 0) = some (yes n)) := by
  have go : ∀ k n, n + k = N → ((List.range' n k).any p = false ∧ loopO step (st n) = some no) ∨ ((List.range' n k).any p = true ∧ ∃ m, m < N ∧ loopO step (st n) = some (yes m)) := by
    intro k
    induction k with
    | zero => intro n h; rw [loopO_eq]; simp only [Nat.add_zero] at h; subst h; rw [he]; exact .inl ⟨rfl, rfl⟩
    | succ k ih =>
      intro n h
      rw [loopO_eq, hs n (by omega)]
      cases hp : p n with
      | true => exact .inr ⟨by simp [List.range'_succ, hp], n, by omega, rfl⟩
      | false =>
        simp only [cond_false, List.range'_succ, List.any_cons, hp, Bool.false_or]
        exact ih (n + 1) (by omega)
  have := go N 0 (by omega)
  rw [← List.range_eq_range'] at this
  exact this
theorem contains_at (s h : List Int) (hs : s.length ≤ 1000) (hr : ∀ i ∈ s, 0 ≤ i ∧ i < (h.length : Int)) : q11 loO s h = some (s.any fun i => decide (h.getD i.toNat 0 = 1), h) := by
  have hf := loop_find (step := q10_L3_s loO) (fun n => (s, (s.length : Int), (n : Int), h)) s.length (fun n => decide (h.getD (s.getD n 0).toNat 0 = 1)) (fun n => .inl ((n : Int), h)) (.inr h)
    (by simp only [q10_L3_s]; rw [cF _ _ (by omega)])
    (fun n hn => by
      have e1 : IntKind.wrap .i64 ((n : Int) + 1) = ((n + 1 : Nat) : Int) := by rw [wr6 (by omega) (by omega)]; omega
      have hi := hr _ (gmem s 0 n hn)
      have hg : q9 loO (s.getD n 0) h = some (decide (h.getD (s.getD n 0).toNat 0 = 1), h) := by
        simp only [q9]; rw [chkT _ (by omega)]
      simp only [q10_L3_s, Int.toNat_natCast, e1, hg, bindS]
      rw [cT _ _ (by omega), chkT _ (by omega), chkT _ trivial])
  rw [range_any s 0 (fun i => decide (h.getD i.toNat 0 = 1))] at hf
  have e0 : q10_L3 loO (s, (s.length : Int), (0 : Int), h) = loopO (q10_L3_s loO) (s, (s.length : Int), ((0 : Nat) : Int), h) := rfl
  rcases hf with ⟨h1, h2⟩ | ⟨h1, n, hn, h2⟩
  · simp only [q11, q10, e0, h2, bindS, alt2_r, h1]
    rw [chkT _ trivial]; rfl
  · simp only [q11, q10, e0, h2, bindS, alt2_l, h1]
    rw [chkT _ trivial]
    have : decide ((0 : Int) ≤ (n : Int)) = true := by simp
    rw [this]
def rest (e rem : List Int) : List Int := e.filter fun x => decide (x ∉ rem)
theorem rest_nil (e : List Int) : rest e [] = e := List.filter_eq_self.2 (by simp)
theorem rest_cons (e rem : List Int) (v : Int) : rest e (v :: rem) = (rest e rem).filter (· != v) := by
  unfold rest
  rw [List.filter_filter]
  refine List.filter_congr fun x _ => ?_
  by_cases h1 : x = v <;> by_cases h2 : x ∈ rem <;> simp [h1, h2]
theorem rest_len (e rem : List Int) (v : Int) (hd : e.Nodup) : ((rest e (v :: rem)).length : Int) = ((rest e rem).length : Int) - (if v ∈ rest e rem then 1 else 0) := by
  have hd' : (rest e rem).Nodup := hd.sublist List.filter_sublist
  rw [rest_cons, ← hd'.erase_eq_filter, List.length_erase]
  by_cases h : v ∈ rest e rem
  · rw [if_pos h, if_pos h]
    have := List.length_pos_of_mem h
    omega
  · rw [if_neg h, if_neg h]; omega
structure GI (es : List (List Int)) (order : List Int) (k : Nat) (out rem h3 : List Int) : Prop where
  mem : ∀ v, v ∈ order.take k ↔ v ∈ out ∨ v ∈ rem
  sub : out.Sublist (order.take k)
  hh : h3 = tab es.length (fun i => ((rest (es.getD i []) rem).length : Int))
  ne : ∀ e ∈ es, rest e rem ≠ []
  key : ∀ v ∈ out, ∃ e ∈ es, rest e rem = [v]
theorem g6 {es : List (List Int)} (hel : es.length ≤ 12) (at6 : List (List Int)) (a : List Int) (x y : Int) (out ord : List Int) (c : Nat → Int) (hc : ∀ i, i < es.length → 0 ≤ c i ∧ c i ≤ 100) (hd : a.Nodup) (hal : a.length ≤ 12) (hr : ∀ i ∈ a, 0 ≤ i ∧ i < (es.length : Int)) :
    q27_L6 loO (at6, x, y, a, (a.length : Int), (0 : Int), out, ord, tab es.length c) = some (at6, x, y, out, ord, tab es.length fun i => c i - (if (i : Int) ∈ a then 1 else 0)) := by
  refine loop_at (step := q27_L6_s loO) (st := fun m => (at6, x, y, a, (a.length : Int), (m : Int), out, ord, tab es.length fun i => c i - (if (i : Int) ∈ a.take m then 1 else 0))) (N := a.length) ?_ ?_ ?_
  · simp
  · simp only [q27_L6_s]
    rw [cF _ _ (by omega), List.take_length]
  · intro m hm
    have e1 : IntKind.wrap .i64 ((m : Int) + 1) = ((m + 1 : Nat) : Int) := by rw [wr6 (by omega) (by omega)]; omega
    have hv := hr _ (gmem _ 0 m hm)
    have hni := nodup_take hd m hm
    obtain ⟨v, hv'⟩ : ∃ v : Nat, a.getD m 0 = (v : Int) := ⟨(a.getD m 0).toNat, by omega⟩
    rw [hv'] at hv hni
    have hvl : v < es.length := by omega
    have hcv := hc v hvl
    simp only [q27_L6_s, Int.toNat_natCast, e1, hv', tab_len]
    rw [cT _ _ (by omega), chkT _ (by omega), chkT _ (by omega), chkT _ (by omega), tab_get _ _ _ _ hvl, if_neg hni, tab_set, wr6 (by omega) (by omega)]
    rw [tab_congr (g := fun i => c i - (if (i : Int) ∈ a.take (m + 1) then 1 else 0)) (fun k hk => by
      rw [take_succ' _ 0 m hm, hv']
      by_cases e : k = v
      · subst e; simp
      · have : (k : Int) ≠ (v : Int) := by omega
        simp [e, this])]
theorem g4 {w : List Int} {es : List (List Int)} (h8 : In8 w es) (order : List Int) (hd : order.Nodup) (hol : order.length ≤ 8) (hr : ∀ v ∈ order, 0 ≤ v ∧ v < (w.length : Int)) : ∀ (j k : Nat) (out rem h3 : List Int), k + j = order.length → GI es order k out rem h3 →
    ∃ out' rem' h3', q27_L4 loO (tab w.length (atE es es.length), (order.length : Int), (k : Int), out, order, h3) = some out' ∧ GI es order order.length out' rem' h3'
  | 0, k, out, rem, h3, hk, hg => by
    refine ⟨out, rem, h3, ?_, by have : k = order.length := by omega
                                 subst this; exact hg⟩
    simp only [q27_L4, runO]
    rw [loopO_eq]
    simp only [q27_L4_s]
    rw [cF _ _ (by omega)]
  | j + 1, k, out, rem, h3, hk, hg => by
    have hmx : maxEl ≥ 100000 := by decide
    have hwl := h8.wl
    have hel := h8.el
    have e1 : IntKind.wrap .i64 ((k : Int) + 1) = ((k + 1 : Nat) : Int) := by rw [wr6 (by omega) (by omega)]; omega
    have hv := hr _ (gmem order 0 k (by omega))
    have hni := nodup_take hd k (by omega)
    obtain ⟨v, hv'⟩ : ∃ v : Nat, order.getD k 0 = (v : Int) := ⟨(order.getD k 0).toNat, by omega⟩
    rw [hv'] at hv hni
    have hvl : v < w.length := by omega
    have hno : (v : Int) ∉ out := fun h => hni ((hg.mem _).2 (.inl h))
    have hnr : (v : Int) ∉ rem := fun h => hni ((hg.mem _).2 (.inr h))
    have hal := atE_len es es.length v
    have hdn : ∀ e ∈ es, e.Nodup := fun e he => asc_nodup (h8.ev e he).2.1
    have hol' : out.length ≤ order.length := Nat.le_trans hg.sub.length_le (by rw [List.length_take]; omega)
    have h3l : h3.length = es.length := by rw [hg.hh, tab_len]
    have har : ∀ i ∈ atE es es.length v, 0 ≤ i ∧ i < (h3.length : Int) := fun i hi => by have := (atE_mem _ _ _ _).1 hi; omega
    have hcon := contains_at (atE es es.length v) h3 (by omega) har
    have hmemr : ∀ e ∈ es, ((v : Int) ∈ rest e rem ↔ (v : Int) ∈ e) := fun e he => by
      unfold rest; simp [hnr]
    have tk : ∀ u, u ∈ order.take (k + 1) ↔ u ∈ order.take k ∨ u = (v : Int) := fun u => by
      rw [take_succ' order 0 k (by omega), hv']; simp
    cases hB : (atE es es.length v).any fun i => decide (h3.getD i.toNat 0 = 1) with
    | true =>
      have hg' : GI es order (k + 1) (out ++ [(v : Int)]) rem h3 := by
        refine ⟨fun u => ?_, ?_, hg.hh, hg.ne, fun u hu => ?_⟩
        · rw [tk, hg.mem]; simp only [List.mem_append, List.mem_singleton]
          exact ⟨fun h => by rcases h with (h | h) | h <;> simp [h], fun h => by rcases h with (h | h) | h <;> simp [h]⟩
        · rw [take_succ' order 0 k (by omega), hv']
          exact hg.sub.append (List.Sublist.refl _)
        · rcases List.mem_append.1 hu with hu | hu
          · exact hg.key u hu
          · have : u = (v : Int) := by simpa using hu
            subst this
            obtain ⟨i, hi, h1⟩ := List.any_eq_true.1 hB
            have h1 := of_decide_eq_true h1
            obtain ⟨i1, i2, i3⟩ := (atE_mem _ _ _ _).1 hi
            rw [hg.hh, tab_get _ _ _ _ (by omega)] at h1
            have hme := gmem es [] i.toNat (by omega)
            refine ⟨_, hme, ?_⟩
            have hvm := (hmemr _ hme).2 i3
            obtain ⟨z, hz⟩ := List.length_eq_one_iff.1 (show (rest (es.getD i.toNat []) rem).length = 1 by omega)
            rw [hz] at hvm ⊢
            simp at hvm
            rw [hvm]
      obtain ⟨out', rem', h3', r1, r2⟩ := g4 h8 order hd hol hr j (k + 1) _ rem h3 (by omega) hg'
      refine ⟨out', rem', h3', ?_, r2⟩
      simp only [q27_L4, runO] at *
      rw [loopO_eq]
      simp only [q27_L4_s, Int.toNat_natCast, e1, hv', tab_len]
      rw [cT _ _ (by omega), chkT _ (by omega), chkT _ (by omega), tab_get _ _ _ _ hvl, hcon]
      simp only [bindS, hB, cond_true]
      rw [chkT _ trivial, chkT _ (by simp only [List.length_cons, List.length_nil]; omega)]
      exact r1
    | false =>
      have hne1 : ∀ e ∈ es, (v : Int) ∈ e → (rest e rem).length ≠ 1 := by
        intro e he hve h1
        obtain ⟨i, hi, rfl⟩ := List.mem_iff_getElem.1 he
        have hgi : es.getD i [] = es[i] := by rw [List.getD_eq_getElem?_getD, List.getElem?_eq_getElem hi]; rfl
        have := List.any_eq_false.1 hB (i : Int) ((atE_mem _ _ _ _).2 ⟨by omega, by omega, by rw [Int.toNat_natCast, hgi]; exact hve⟩)
        apply this
        rw [Int.toNat_natCast, hg.hh, tab_get _ _ _ _ hi, hgi, h1]
        rfl
      have hg' : GI es order (k + 1) out ((v : Int) :: rem) (tab es.length fun i => ((rest (es.getD i []) rem).length : Int) - (if (i : Int) ∈ atE es es.length v then 1 else 0)) := by
        refine ⟨fun u => ?_, ?_, ?_, fun e he => ?_, fun u hu => ?_⟩
        · rw [tk, hg.mem]; simp only [List.mem_cons]
          exact ⟨fun h => by rcases h with (h | h) | h <;> simp [h], fun h => by rcases h with h | h | h <;> simp [h]⟩
        · rw [take_succ' order 0 k (by omega), hv']
          exact hg.sub.trans (List.sublist_append_left _ _)
        · refine tab_congr fun i hi => ?_
          have hme := gmem es [] i hi
          rw [rest_len _ _ _ (hdn _ hme)]
          congr 1
          have : ((i : Int) ∈ atE es es.length v) ↔ (v : Int) ∈ rest (es.getD i []) rem := by
            rw [atE_mem, hmemr _ hme, Int.toNat_natCast]
            exact ⟨fun h => h.2.2, fun h => ⟨by omega, by omega, h⟩⟩
          by_cases h : (i : Int) ∈ atE es es.length v
          · rw [if_pos h, if_pos (this.1 h)]
          · rw [if_neg h, if_neg (fun x => h (this.2 x))]
        · intro h0
          have hl := rest_len e rem (v : Int) (hdn e he)
          rw [h0] at hl
          have := List.length_pos_iff.2 (hg.ne e he)
          by_cases h : (v : Int) ∈ rest e rem
          · have := hne1 e he ((hmemr e he).1 h)
            rw [if_pos h] at hl
            simp at hl; omega
          · rw [if_neg h] at hl
            simp at hl; omega
        · obtain ⟨e, he, h1⟩ := hg.key u hu
          refine ⟨e, he, ?_⟩
          have : u ≠ (v : Int) := fun h => hno (h ▸ hu)
          rw [rest_cons, h1]
          simp [this]
      obtain ⟨out', rem', h3', r1, r2⟩ := g4 h8 order hd hol hr j (k + 1) out _ _ (by omega) hg'
      refine ⟨out', rem', h3', ?_, r2⟩
      have h6 := g6 hel (tab w.length (atE es es.length)) (atE es es.length v) (order.length : Int) (k : Int) out order (fun i => ((rest (es.getD i []) rem).length : Int)) (fun i hi => by
        have h1 := h8.e8 (gmem es [] i hi)
        have h2 : (rest (es.getD i []) rem).length ≤ (es.getD i []).length := List.length_filter_le _ _
        omega) (atE_nodup _ _ _) (by omega) (fun i hi => by have := (atE_mem _ _ _ _).1 hi; omega)
      rw [← hg.hh] at h6
      simp only [q27_L4, runO] at *
      rw [loopO_eq]
      simp only [q27_L4_s, Int.toNat_natCast, e1, hv', tab_len]
      rw [cT _ _ (by omega), chkT _ (by omega), chkT _ (by omega), tab_get _ _ _ _ hvl, hcon]
      simp only [bindS, hB, cond_false]
      rw [chkT _ trivial, chkT _ (by omega), h6]
      simp only [bindS, e1]
      exact r1
theorem sort_nil : q25 loO [] = some [] := (congrArg (q25 · []) (loM_eq 100)).symm.trans (show q25 (loM 100) [] = some [] by kernel_rfl)
theorem sort_eq (l : List Int) (hl : l.length ≤ 1000) : q26 loO l = some (sortI l) := by
  cases l with
  | nil => exact sort_nil
  | cons a r =>
    show (bif Nat.ble (a :: r).length maxEl then some (sortI (a :: r)) else none) = _
    have hmx : maxEl ≥ 100000 := by decide
    have : Nat.ble (a :: r).length maxEl = true := Nat.ble_eq_true_of_le (by omega)
    rw [this]; rfl
theorem sortI_len (l : List Int) : (sortI l).length = l.length := (srtL_perm _ l).length_eq
theorem sortI_mem (l : List Int) (v : Int) : v ∈ sortI l ↔ v ∈ l := (srtL_perm _ l).mem_iff
theorem sortI_asc (l : List Int) (hd : l.Nodup) : (sortI l).Pairwise (· < ·) := by
  have h1 : (sortI l).Pairwise (fun a c => leI a c = true) := srtL_pair leI_tr leI_tot l
  have h2 : (sortI l).Nodup := (srtL_perm leI l).nodup_iff.2 hd
  refine (h1.and h2).imp fun h => ?_
  have := of_decide_eq_true h.1
  have := h.2
  omega
structure GOut (w : List Int) (es : List (List Int)) (l : List Int) : Prop where
  asc : l.Pairwise (· < ·)
  rng : ∀ v ∈ l, 0 ≤ v ∧ v < (w.length : Int)
  hit : hitB es l = true
  min : ∀ n, n < l.length → hitB es (l.take n ++ l.drop (n + 1)) = false
theorem greedy_ok {w : List Int} {es : List (List Int)} (h8 : In8 w es) : ∃ l, q27 loO w es = some (l, 0) ∧ GOut w es l := by
  have hmx : maxEl ≥ 100000 := by decide
  have hwl := h8.wl
  have hel := h8.el
  have ht : ∀ v ∈ tab w.length (fun (v : Nat) => (v : Int)), 0 ≤ v ∧ v < (w.length : Int) := fun v hv => by
    simp only [tab, List.mem_map, List.mem_range] at hv
    obtain ⟨i, hi, rfl⟩ := hv; omega
  have htd : (tab w.length (fun (v : Nat) => (v : Int))).Nodup := by
    unfold tab List.Nodup
    rw [List.pairwise_map]
    exact List.nodup_range.imp (fun h => by omega)
  obtain ⟨order, s1, s2⟩ := stable_ok es hwl (tab w.length (fun (v : Nat) => (v : Int))) (by rw [tab_len]; exact hwl) ht
  have hol : order.length = w.length := by rw [s2.length_eq, tab_len]
  have hod : order.Nodup := s2.nodup_iff.2 htd
  have hor : ∀ v ∈ order, 0 ≤ v ∧ v < (w.length : Int) := fun v hv => ht v (s2.mem_iff.1 hv)
  have hall : ∀ v : Int, 0 ≤ v → v < (w.length : Int) → v ∈ order := fun v h0 h1 => by
    refine s2.mem_iff.2 ?_
    simp only [tab, List.mem_map, List.mem_range]
    exact ⟨v.toNat, by omega, by omega⟩
  have hgi : GI es order 0 [] [] (tab es.length fun i => ((es.getD i []).length : Int)) := by
    refine ⟨by simp, by simp, ?_, fun e he => ?_, by simp⟩
    · refine tab_congr fun i hi => ?_
      rw [rest_nil]
    · rw [rest_nil]; exact (h8.ev e he).1
  obtain ⟨out, rem, h3, r1, r2⟩ := g4 h8 order hod (by omega) hor order.length 0 [] [] _ (by omega) hgi
  have hsub : out.Sublist order := by have := r2.sub; rwa [List.take_length] at this
  have houtd : out.Nodup := hod.sublist hsub
  have hmem : ∀ v, v ∈ order ↔ v ∈ out ∨ v ∈ rem := fun v => by have := r2.mem v; rwa [List.take_length] at this
  have holen := hsub.length_le
  have hse := sort_eq out (by omega)
  have hasc := sortI_asc out houtd
  refine ⟨sortI out, ?_, hasc, fun v hv => hor v (hsub.subset ((sortI_mem _ _).1 hv)), ?_, fun n hn => ?_⟩
  · have r1' : q27_L4 loO (tab w.length (atE es es.length), (order.length : Int), (0 : Int), [], order, tab es.length fun i => ((es.getD i []).length : Int)) = some out := r1
    have g30' := g30 h8
    have g22' := g22 (es := es) hwl (tab w.length (atE es es.length)) (tab es.length fun i => ((es.getD i []).length : Int))
    simp only [q27, gvalid_ok h8, bindS, decide_true, Bool.not_true, cond_false, Int.toNat_natCast]
    rw [chkT _ (by omega), chkT _ (by omega), g30']
    simp only [bindS, List.length_replicate, Int.toNat_natCast]
    rw [chkT _ (by omega), g22']
    simp only [bindS]
    rw [s1]
    simp only [bindS]
    rw [chkT _ (by rw [hol, tab_len]), r1']
    simp only [bindS]
    rw [hse]
    simp only [bindS]
    rw [chkT _ (sortI_len out)]
  · refine List.all_eq_true.2 fun e he => ?_
    obtain ⟨z, hz⟩ := List.exists_mem_of_ne_nil _ (r2.ne e he)
    obtain ⟨z1, z2⟩ := List.mem_filter.1 hz
    have z2 : z ∉ rem := by simpa using z2
    obtain ⟨z3, z4⟩ := (h8.ev e he).2.2 z z1
    refine List.any_eq_true.2 ⟨z, z1, ?_⟩
    rcases (hmem z).1 (hall z z3 z4) with h | h
    · simpa [sortI_mem] using h
    · exact absurd h z2
  · have hv := gmem (sortI out) 0 n hn
    obtain ⟨e, he, h1⟩ := r2.key _ ((sortI_mem _ _).1 hv)
    refine List.all_eq_false.2 ⟨e, he, ?_⟩
    simp only [List.any_eq_true, decide_eq_true_eq, not_exists, not_and]
    intro x hx hxm
    have hxs : x ∈ sortI out := by
      rcases List.mem_append.1 hxm with h | h
      · exact List.mem_of_mem_take h
      · exact List.mem_of_mem_drop h
    have hxo : x ∈ out := (sortI_mem _ _).1 hxs
    have hxr : x ∈ rest e rem := by
      unfold rest
      refine List.mem_filter.2 ⟨hx, ?_⟩
      simp only [decide_eq_true_eq]
      intro hxrem
      obtain ⟨e', he', h2⟩ := r2.key x hxo
      have : x ∈ rest e' rem := by rw [h2]; simp
      unfold rest at this
      have := (List.mem_filter.1 this).2
      simp only [decide_eq_true_eq] at this
      exact this hxrem
    rw [h1] at hxr
    have hxe : x = (sortI out).getD n 0 := by simpa using hxr
    have hnd := asc_nodup hasc
    rcases List.mem_append.1 hxm with h | h
    · rw [hxe] at h; exact nodup_take hnd n hn h
    · have hd2 : ((sortI out).drop n).Nodup := hnd.sublist (List.drop_sublist _ _)
      rw [List.drop_eq_getElem_cons hn, List.nodup_cons] at hd2
      have eg : (sortI out)[n] = (sortI out).getD n 0 := by rw [List.getD_eq_getElem?_getD, List.getElem?_eq_getElem hn]; rfl
      rw [eg, ← hxe] at hd2
      exact hd2.1 h
theorem greedy_law (c d : List Int) (hc : ∀ x ∈ c, 0 ≤ x ∧ x ≤ 255) (hd : ∀ x ∈ d, 0 ≤ x ∧ x ≤ 65535) : q67 loO c d = some true := by
  obtain ⟨w, es, ok, h1, h2⟩ := of_ok c d hc hd
  cases ok with
  | false => simp only [q67, h1, aw, bindS, Bool.not_true, Bool.not_false, cond_false, cond_true]
  | true =>
    have h8 := h2 rfl
    obtain ⟨l, g1, g2⟩ := greedy_ok h8
    have hll : l.length ≤ w.length := asc_len g2.asc g2.rng
    have hwl := h8.wl
    obtain ⟨m, m1, m2⟩ := least_eq h8
    have m3 := (least_le m2 l g2.asc g2.rng g2.hit).2
    simp only [q67, h1, aw, bindS, Bool.not_true, cond_false, g1, rweight_ok h8 l (asc_nodup g2.asc) (by omega) g2.rng, decide_true, cond_true, asc_ok l g2.asc (by omega), minimal_ok h8 l (by omega) g2.hit g2.min, m1]
    simp [m3]
theorem u8_rng {n : Int} (h : (Lit.int .u8 n).wf = true) : 0 ≤ n ∧ n ≤ 255 := by
  simp only [Lit.wf, Bool.and_eq_true, decide_eq_true_eq] at h
  have h1 : IntKind.u8.min = 0 := rfl
  have h2 : IntKind.u8.max = 255 := rfl
  omega
theorem u16_rng {n : Int} (h : (Lit.int .u16 n).wf = true) : 0 ≤ n ∧ n ≤ 65535 := by
  simp only [Lit.wf, Bool.and_eq_true, decide_eq_true_eq] at h
  have h1 : IntKind.u16.min = 0 := rfl
  have h2 : IntKind.u16.max = 65535 := rfl
  omega
theorem greedy_fin (x : List Int × List Int) (hr : (cs [.l (cs [.i .u8]), .l (cs [.i .u16])]).rng x) : q67 loO x.1 x.2 = some true :=
  greedy_law x.1 x.2 (fun v hv => u8_rng (hr.1 v hv).1) (fun v hv => u16_rng (hr.2.1 v hv).1)
end Go.Abs.G39
