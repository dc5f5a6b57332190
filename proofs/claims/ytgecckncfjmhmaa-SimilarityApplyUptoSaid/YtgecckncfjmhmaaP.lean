/- Plain law: Apply of both texts. No condition. -/
import Derived.Test.YtgecckncfjmhmaaG1
import Derived.Test.YtgecckncfjmhmaaB
set_option linter.unusedVariables false
set_option linter.unusedSimpArgs false
namespace Go.Abs.G52
open Go Go.Abs
set_option linter.unusedSimpArgs false
set_option linter.unusedVariables false
theorem wr64 {n : Int} (h0 : -9223372036854775808 ≤ n) (h1 : n < 9223372036854775808) : IntKind.wrap .i64 n = n := by
  have e : (2 : Int) ^ IntKind.bits .i64 = 18446744073709551616 := rfl
  have e' : (2 : Int) ^ (IntKind.bits .i64 - 1) = 9223372036854775808 := rfl
  have s : IntKind.signed .i64 = true := rfl
  simp only [IntKind.wrap, e, e', s, Bool.true_and, ge_iff_le, decide_eq_true_eq]
  split <;> omega
theorem wr8 {n : Int} (h0 : 0 ≤ n) (h1 : n < 256) : IntKind.wrap .u8 n = n := by
  have e : (2 : Int) ^ IntKind.bits .u8 = 256 := rfl
  have s : IntKind.signed .u8 = false := rfl
  simp only [IntKind.wrap, e, s, Bool.false_and, Bool.false_eq_true, if_false]
  omega
theorem chk_t {β : Type} {p : Prop} [Decidable p] (x : Option β) (h : p) : chk p x = x := by simp [chk, h]
theorem byteI_lt (s : ByteArray) (n : Int) : 0 ≤ byteI s n ∧ byteI s n < 256 := by
  unfold byteI
  have := (s.data.getD n.toNat 0).toNat_lt
  omega
def apStep (a : ByteArray) (off old new : Int) (at' : Int) (out : ByteArray) : Option (Int × ByteArray) :=
  if off < at' ∨ (a.size : Int) < off ∨ old < -1 ∨ new < -1 ∨ 255 < new ∨ (old = -1 ∧ new = -1) ∨ (0 ≤ old ∧ (off = a.size ∨ byteI a off ≠ old)) then none
  else some (if 0 ≤ old then off + 1 else off, if 0 ≤ new then out ++ a.extract at'.toNat off.toNat ++ bytesB [new] else out ++ a.extract at'.toNat off.toNat)
theorem ext_size (a : ByteArray) (i j : Nat) (h : i ≤ j) (hj : j ≤ a.size) : (a.extract i j).size = j - i := by
  rw [ByteArray.size_extract]; omega
theorem bb_size (n : Int) : (bytesB [n]).size = 1 := rfl
theorem inB1 {n : Int} (h0 : 0 ≤ n) (h1 : n < 256) : inB [n] = true := by simp [inB, h0, h1]
theorem ble_of {a b : Nat} (h : a ≤ b) : (Nat.ble a b = true) := Nat.ble_eq_true_of_le h
theorem refStep (a : ByteArray) (l : List (Int × Int × Int)) (out : ByteArray) (at' i off old new : Int) (hi : 0 ≤ i) (hil : i < l.length) (hl : l.length ≤ 1000) (he : l.getD i.toNat (0, 0, 0) = (off, old, new)) (h0 : 0 ≤ at') (h1 : at' ≤ a.size) (ha : a.size ≤ 300) (ho : (out.size : Int) ≤ at' + i) :
    q55_L3_s loO (a, l, out, at', i) = match apStep a off old new at' out with
      | none => some (.inr (.inl (ByteArray.mk #[], 1)))
      | some (b, o) => some (.inl (a, l, o, b, i + 1)) := by
  have hb := byteI_lt a off
  simp only [q55_L3_s, he, hil, decide_true, cond_true, chk_t _ (show 0 ≤ i ∧ i < (l.length : Int) from ⟨hi, hil⟩), apStep, wr64 (show -9223372036854775808 ≤ i + 1 by omega) (by omega), wr64 (n := byteI a off) (by omega) (by omega), bb_size, ByteArray.size_append]
  by_cases c1 : off < at'
  · simp [chk_t _ hi, c1]
  by_cases c2 : (a.size : Int) < off
  · simp [chk_t _ hi, c1, c2]
  have w1 : IntKind.wrap .i64 (off + 1) = off + 1 := wr64 (by omega) (by omega)
  have hs : (a.extract at'.toNat off.toNat).size = off.toNat - at'.toNat := ext_size _ _ _ (by omega) (by omega)
  have k1 : Nat.ble (out.size + (a.extract at'.toNat off.toNat).size) 9223372036854775807 = true := ble_of (by omega)
  have k2 : Nat.ble (out.size + (a.extract at'.toNat off.toNat).size + 1) 9223372036854775807 = true := ble_of (by omega)
  have k3 : 0 ≤ at' ∧ at' ≤ off ∧ off ≤ (a.size : Int) := ⟨h0, by omega, by omega⟩
  simp only [w1, chk_t _ k1, chk_t _ k2, chk_t _ k3]
  by_cases c3 : old < -1
  · simp [chk_t _ hi, c1, c2, c3]
  by_cases c4 : new < -1
  · simp [chk_t _ hi, c1, c2, c3, c4]
  by_cases c5 : 255 < new
  · simp [chk_t _ hi, c1, c2, c3, c4, c5]
  by_cases c8 : 0 ≤ new
  · have w2 : IntKind.wrap .u8 new = new := wr8 c8 (by omega)
    simp only [w2]
    by_cases c6 : old = -1
    · subst c6
      simp [chk_t _ hi, c1, c2, c4, c5, c8, show ¬ new = -1 by omega]
    · have c7 : 0 ≤ old := by omega
      by_cases c9 : off = a.size
      · simp [chk_t _ hi, c1, c2, c3, c4, c5, c6, c7, c8, c9]
      · have k4 : 0 ≤ off ∧ off < (a.size : Int) := ⟨by omega, by omega⟩
        by_cases c10 : byteI a off = old
        · simp [chk_t _ hi, c1, c2, c3, c4, c5, c6, c7, c8, c9, c10, chk_t _ k4]
        · simp [chk_t _ hi, c1, c2, c3, c4, c5, c6, c7, c8, c9, c10, chk_t _ k4]
  · have c8' : new = -1 := by omega
    subst c8'
    by_cases c6 : old = -1
    · subst c6
      simp [chk_t _ hi, c1, c2]
    · have c7 : 0 ≤ old := by omega
      by_cases c9 : off = a.size
      · simp [chk_t _ hi, c1, c2, c3, c6, c7, c9]
      · have k4 : 0 ≤ off ∧ off < (a.size : Int) := ⟨by omega, by omega⟩
        by_cases c10 : byteI a off = old
        · simp [chk_t _ hi, c1, c2, c3, c6, c7, c9, c10, chk_t _ k4]
        · simp [chk_t _ hi, c1, c2, c3, c6, c7, c9, c10, chk_t _ k4]
theorem ws_eq (s h : ByteArray) (hs : h.size + s.size ≤ 1048576) : q39 loO s h = some ((s.size : Int), h ++ s) := by
  simp only [q39, q35, Option.bind_some]
  rw [chk_t _ trivial, chk_t _ (by simp only [maxEl, List.length_cons, List.length_nil]; omega)]
theorem wb_eq (c : Int) (h : ByteArray) (h0 : 0 ≤ c) (h1 : c < 256) (hs : h.size + 1 ≤ 1048576) : q36 loO c h = some (h ++ bytesB [c]) := by
  simp only [q36, q35, Option.bind_some]
  rw [chk_t _ trivial, inB1 h0 h1, cond_true, chk_t _ (by simp only [maxEl, List.length_cons, List.length_nil]; omega)]
theorem simStep (a : ByteArray) (l : List (Int × Int × Int)) (out : ByteArray) (at' i off old new : Int) (hi : 0 ≤ i) (hil : i < l.length) (hl : l.length ≤ 1000) (he : l.getD i.toNat (0, 0, 0) = (off, old, new)) (h0 : 0 ≤ at') (h1 : at' ≤ a.size) (ha : a.size ≤ 300) (ho : (out.size : Int) ≤ at' + i) :
    q40_L3_s loO (a, at', l, l.length, i, out) = match apStep a off old new at' out with
      | none => some (.inr (.inl (ByteArray.mk #[], 1)))
      | some (b, o) => some (.inl (a, b, l, l.length, i + 1, o)) := by
  have hb := byteI_lt a off
  simp only [q40_L3_s, he, hil, decide_true, cond_true, apStep, wr64 (show -9223372036854775808 ≤ i + 1 by omega) (by omega), wr64 (n := byteI a off) (by omega) (by omega)]
  by_cases c1 : off < at'
  · simp [chk_t _ hi, c1]
  by_cases c2 : (a.size : Int) < off
  · simp [chk_t _ hi, c1, c2]
  have w1 : IntKind.wrap .i64 (off + 1) = off + 1 := wr64 (by omega) (by omega)
  have hs : (a.extract at'.toNat off.toNat).size = off.toNat - at'.toNat := ext_size _ _ _ (by omega) (by omega)
  have k3 : 0 ≤ at' ∧ at' ≤ off ∧ off ≤ (a.size : Int) := ⟨h0, by omega, by omega⟩
  have k1 := ws_eq (a.extract at'.toNat off.toNat) out (by omega)
  simp only [w1, chk_t _ k3, k1, Option.bind_some]
  by_cases c4 : new < -1
  · simp [chk_t _ hi, c1, c2, c4]
  by_cases c5 : 255 < new
  · simp [chk_t _ hi, c1, c2, c4, c5]
  by_cases c8 : 0 ≤ new
  · have w2 : IntKind.wrap .u8 new = new := wr8 c8 (by omega)
    have k2 := wb_eq new (out ++ a.extract at'.toNat off.toNat) c8 (by omega) (by rw [ByteArray.size_append]; omega)
    simp only [w2, k2, Option.bind_some]
    by_cases c6 : old = -1
    · subst c6
      simp [chk_t _ hi, c1, c2, c4, c5, c8, show ¬ new = -1 by omega]
    · by_cases c7 : 0 ≤ old
      · by_cases c9 : off = a.size
        · simp [chk_t _ hi, c1, c2, c4, c5, c6, c7, c8, c9]
        · have k4 : 0 ≤ off ∧ off < (a.size : Int) := ⟨by omega, by omega⟩
          by_cases c10 : byteI a off = old
          · simp [chk_t _ hi, c1, c2, c4, c5, c6, c7, c8, c9, c10, chk_t _ k4, show ¬ old < -1 by omega]
          · simp [chk_t _ hi, c1, c2, c4, c5, c6, c7, c8, c9, c10, chk_t _ k4]
      · have c3 : old < -1 := by omega
        simp [chk_t _ hi, c1, c2, c3, c4, c5, c6, c7, c8]
  · have c8' : new = -1 := by omega
    subst c8'
    by_cases c6 : old = -1
    · subst c6
      simp [chk_t _ hi, c1, c2]
    · by_cases c7 : 0 ≤ old
      · by_cases c9 : off = a.size
        · simp [chk_t _ hi, c1, c2, c6, c7, c9]
        · have k4 : 0 ≤ off ∧ off < (a.size : Int) := ⟨by omega, by omega⟩
          by_cases c10 : byteI a off = old
          · simp [chk_t _ hi, c1, c2, c6, c7, c9, c10, chk_t _ k4, show ¬ old < -1 by omega]
          · simp [chk_t _ hi, c1, c2, c6, c7, c9, c10, chk_t _ k4]
      · have c3 : old < -1 := by omega
        simp [chk_t _ hi, c1, c2, c3, c6, c7]
def apRun (a : ByteArray) : List (Int × Int × Int) → Int → ByteArray → Option (Int × ByteArray)
  | [], at', out => some (at', out)
  | (off, old, new) :: r, at', out => match apStep a off old new at' out with
    | none => none
    | some (b, o) => apRun a r b o
theorem apStep_inv {a : ByteArray} {off old new at' : Int} {out : ByteArray} {b : Int} {o : ByteArray} (h : apStep a off old new at' out = some (b, o)) (h0 : 0 ≤ at') (h1 : at' ≤ a.size) {i : Int} (ho : (out.size : Int) ≤ at' + i) :
    0 ≤ b ∧ b ≤ a.size ∧ (o.size : Int) ≤ b + (i + 1) := by
  unfold apStep at h
  split at h
  · cases h
  · rename_i hc
    simp only [not_or, not_and, Int.not_lt] at hc
    obtain ⟨c1, c2, c3, c4, c5, c6, c7⟩ := hc
    have hs : (a.extract at'.toNat off.toNat).size = off.toNat - at'.toNat := ext_size _ _ _ (by omega) (by omega)
    injection h with h; injection h with e1 e2
    have hb : off ≤ b ∧ b ≤ a.size := by
      rw [← e1]; split
      · rename_i h7; have := (c7 h7).1; omega
      · omega
    have hos : o.size ≤ out.size + (off.toNat - at'.toNat) + 1 := by
      rw [← e2]; split
      · rw [ByteArray.size_append, ByteArray.size_append, hs, bb_size]; omega
      · rw [ByteArray.size_append, hs]; omega
    omega
theorem drop_get {l : List (Int × Int × Int)} {i : Nat} (h : i < l.length) : l.drop i = l.getD i (0, 0, 0) :: l.drop (i + 1) := by
  rw [List.drop_eq_getElem_cons h]; simp [List.getD, h]
theorem refLoop (a : ByteArray) (l : List (Int × Int × Int)) (hl : l.length ≤ 1000) (ha : a.size ≤ 300) : ∀ (k i : Nat) (at' : Int) (out : ByteArray), l.length - i = k → i ≤ l.length → 0 ≤ at' → at' ≤ a.size → (out.size : Int) ≤ at' + i →
    loopO (q55_L3_s loO) (a, l, out, at', (i : Int)) = match apRun a (l.drop i) at' out with
      | none => some (.inl (ByteArray.mk #[], 1))
      | some (b, o) => some (.inr (a, o, b))
  | 0, i, at', out, hk, hi, h0, h1, ho => by
    have : i = l.length := by omega
    subst this
    rw [loopO_eq]
    simp only [q55_L3_s, Int.lt_irrefl, decide_false, cond_false, List.drop_length, apRun]
  | k + 1, i, at', out, hk, hi, h0, h1, ho => by
    have hlt : i < l.length := by omega
    rw [loopO_eq, drop_get hlt]
    rcases he : l.getD i (0, 0, 0) with ⟨off, old, new⟩
    rw [refStep a l out at' i off old new (by omega) (by omega) hl (by rw [Int.toNat_natCast]; exact he) h0 h1 ha ho]
    simp only [apRun]
    cases hs : apStep a off old new at' out with
    | none => rfl
    | some p =>
      obtain ⟨b, o⟩ := p
      obtain ⟨g0, g1, g2⟩ := apStep_inv hs h0 h1 ho
      exact refLoop a l hl ha k (i + 1) b o (by omega) (by omega) g0 g1 (by omega)
theorem simLoop (a : ByteArray) (l : List (Int × Int × Int)) (hl : l.length ≤ 1000) (ha : a.size ≤ 300) : ∀ (k i : Nat) (at' : Int) (out : ByteArray), l.length - i = k → i ≤ l.length → 0 ≤ at' → at' ≤ a.size → (out.size : Int) ≤ at' + i →
    loopO (q40_L3_s loO) (a, at', l, (l.length : Int), (i : Int), out) = match apRun a (l.drop i) at' out with
      | none => some (.inl (ByteArray.mk #[], 1))
      | some (b, o) => some (.inr (a, b, o))
  | 0, i, at', out, hk, hi, h0, h1, ho => by
    have : i = l.length := by omega
    subst this
    rw [loopO_eq]
    simp only [q40_L3_s, Int.lt_irrefl, decide_false, cond_false, List.drop_length, apRun]
  | k + 1, i, at', out, hk, hi, h0, h1, ho => by
    have hlt : i < l.length := by omega
    rw [loopO_eq, drop_get hlt]
    rcases he : l.getD i (0, 0, 0) with ⟨off, old, new⟩
    rw [simStep a l out at' i off old new (by omega) (by omega) hl (by rw [Int.toNat_natCast]; exact he) h0 h1 ha ho]
    simp only [apRun]
    cases hs : apStep a off old new at' out with
    | none => rfl
    | some p =>
      obtain ⟨b, o⟩ := p
      obtain ⟨g0, g1, g2⟩ := apStep_inv hs h0 h1 ho
      exact simLoop a l hl ha k (i + 1) b o (by omega) (by omega) g0 g1 (by omega)
end Go.Abs.G52
namespace Go.Abs.G52
open Go Go.Abs
set_option linter.unusedSimpArgs false
set_option linter.unusedVariables false
theorem aw : q51 loO = some true := (congrArg q51 (loM_eq 400)).symm.trans (show q51 (loM 400) = some true by kernel_rfl)
theorem runO {S R : Type} (step : S → Option (S ⊕ R)) (x : S) : loO.run step x = loopO step x := rfl
theorem long1 (a : ByteArray) : q3 loO [a] = some (decide ((200 : Int) < a.size)) := by
  have h : q1 loO [a] = some (if (200 : Int) < a.size then 0 else -1) := by
    simp only [q1, q1_L3, runO]
    rw [loopO_eq]
    simp only [q1_L3_s, q0]
    have e0 : ([a].length : Int) = 1 := rfl
    simp only [e0, show decide ((0 : Int) < 1) = true from rfl, cond_true, Option.bind_some, show (0 : Int).toNat = 0 from rfl, List.getD_cons_zero, chk_t _ (show (0 : Int) ≤ 0 ∧ (0 : Int) < 1 by decide)]
    by_cases h : (200 : Int) < a.size
    · simp [h, alt2]
    · simp only [h, decide_false, cond_false]
      rw [loopO_eq]
      simp [q1_L3_s, wr64, alt2]
  simp only [q3, q2, h, Option.bind_some]
  by_cases h : (200 : Int) < a.size <;> simp [h]
theorem alt2_l {A B C : Type} (a : A) (f : A → Option C) (g : B → Option C) : alt2 (.inl a : A ⊕ B) f g = f a := rfl
theorem alt2_r {A B C : Type} (b : B) (f : A → Option C) (g : B → Option C) : alt2 (.inr b : A ⊕ B) f g = g b := rfl
theorem ap_agree (a : ByteArray) (l : List (Int × Int × Int)) (ha : a.size ≤ 300) : ∃ r, q40 loO a l = some r ∧ q55 loO a l = some r := by
  simp only [q40, q55, long1, q54, Option.bind_some]
  by_cases h : (200 : Int) < a.size
  · simp [h]
  · simp only [h, decide_false, cond_false]
    by_cases h2 : (400 : Int) < l.length
    · simp [h2]
    · simp only [h2, decide_false, cond_false]
      have e1 := simLoop a l (by omega) ha l.length 0 0 (ByteArray.mk #[]) (by omega) (by omega) (by omega) (by omega) (by simp [ByteArray.size])
      have e2 := refLoop a l (by omega) ha l.length 0 0 (ByteArray.mk #[]) (by omega) (by omega) (by omega) (by omega) (by simp [ByteArray.size])
      simp only [q40_L3, q55_L3, runO]
      have z : ((0 : Nat) : Int) = 0 := rfl
      rw [z] at e1 e2
      rw [e1, e2]
      cases hr : apRun a (l.drop 0) 0 (ByteArray.mk #[]) with
      | none => simp only [Option.bind_some, alt2_l]; exact ⟨_, rfl, rfl⟩
      | some p =>
        obtain ⟨b, o⟩ := p
        simp only [Option.bind_some, alt2_r, q37]
        have : ∀ (l : List (Int × Int × Int)) (at' : Int) (out : ByteArray) (i : Int), apRun a l at' out = some (b, o) → 0 ≤ at' → at' ≤ a.size → (out.size : Int) ≤ at' + i → 0 ≤ b ∧ b ≤ a.size ∧ (o.size : Int) ≤ b + (i + l.length) := by
          intro l
          induction l with
          | nil => intro at' out i h h0 h1 h2; simp only [apRun] at h; injection h with h; injection h with e1 e2; subst e1; subst e2; simp; omega
          | cons e r ih =>
            intro at' out i h h0 h1 h2
            obtain ⟨off, old, new⟩ := e
            simp only [apRun] at h
            cases hs : apStep a off old new at' out with
            | none => rw [hs] at h; cases h
            | some q =>
              obtain ⟨b', o'⟩ := q
              rw [hs] at h
              obtain ⟨g0, g1, g2⟩ := apStep_inv hs h0 h1 h2
              have := ih b' o' (i + 1) h g0 g1 g2
              simp only [List.length_cons]
              omega
        obtain ⟨g0, g1, g2⟩ := this _ _ _ 0 hr (by omega) (by omega) (by simp [ByteArray.size])
        have hlen : (l.drop 0).length = l.length := by simp
        rw [hlen] at g2
        have hs : (a.extract b.toNat (a.size : Int).toNat).size = a.size - b.toNat := ext_size _ _ _ (by omega) (by omega)
        rw [chk_t _ (show 0 ≤ b ∧ b ≤ (a.size : Int) ∧ (a.size : Int) ≤ (a.size : Int) from ⟨g0, g1, Int.le_refl _⟩), chk_t _ (ble_of (by omega))]
        exact ⟨_, rfl, rfl⟩
theorem apply_law (a : ByteArray) (l : List (Int × Int × Int)) : q56 loO a l = some true := by
  simp only [q56, aw, Option.bind_some, q53, Bool.not_true, cond_false]
  have key : a.size ≤ 300 → (Option.bind (q40 loO a l) fun y210 => Option.bind (q55 loO a l) fun y215 => bif (decide (y210.1 = y215.1)) then (some (decide (y210.2 = y215.2))) else (some false)) = some true := by
    intro ha
    obtain ⟨r, h1, h2⟩ := ap_agree a l ha
    simp [h1, h2]
  by_cases h1 : (30 : Int) < a.size
  · by_cases h2 : (200 : Int) < a.size
    · by_cases h3 : (300 : Int) < a.size
      · simp [h1, h2, h3]
      · by_cases h4 : (500 : Int) < l.length
        · simp [h1, h2, h3, h4]
        · simp only [h1, h2, h3, h4, decide_true, decide_false, cond_true, cond_false, Bool.not_true]; exact key (by omega)
    · simp [h1, h2]
  · by_cases h3 : (300 : Int) < a.size
    · omega
    · by_cases h4 : (500 : Int) < l.length
      · simp [h1, h3, h4]
      · simp only [h1, h3, h4, decide_false, cond_false]; exact key (by omega)
end Go.Abs.G52
