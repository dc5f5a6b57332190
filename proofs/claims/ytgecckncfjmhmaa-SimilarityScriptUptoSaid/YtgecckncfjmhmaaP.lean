/- Plain law: Apply of both texts. No condition. -/
import Derived.Test.YtgecckncfjmhmaaG1
import Derived.Test.YtgecckncfjmhmaaB
import Derived.RowKit
set_option linter.unusedVariables false
set_option linter.unusedSimpArgs false
set_option linter.unusedSectionVars false
namespace Go.Abs.G52
open Go Go.Abs
set_option linter.unusedSimpArgs false
set_option linter.unusedVariables false
theorem wr64 {n : Int} (h0 : -9223372036854775808 ≤ n) (h1 : n < 9223372036854775808) : IntKind.wrap .i64 n = n := by
  have e : (2 : Int) ^ IntKind.bits .i64 = 18446744073709551616 := rfl
  have e' : (2 : Int) ^ (IntKind.bits .i64 - 1) = 9223372036854775808 := rfl
  have s : IntKind.signed .i64 = true := rfl
  simp only [IntKind.wrap, e, e', s, Bool.true_and, ge_iff_le, decide_eq_true_eq]
  split <;> omega
theorem wr8 {n : Int} (h0 : 0 ≤ n) (h1 : n < 256) : IntKind.wrap .u8 n = n := by
  have e : (2 : Int) ^ IntKind.bits .u8 = 256 := rfl
  have s : IntKind.signed .u8 = false := rfl
  simp only [IntKind.wrap, e, s, Bool.false_and, Bool.false_eq_true, if_false]
  omega
theorem chk_t {β : Type} {p : Prop} [Decidable p] (x : Option β) (h : p) : chk p x = x := by simp [chk, h]
theorem byteI_lt (s : ByteArray) (n : Int) : 0 ≤ byteI s n ∧ byteI s n < 256 := by
  unfold byteI
  have := (s.data.getD n.toNat 0).toNat_lt
  omega
def apStep (a : ByteArray) (off old new : Int) (at' : Int) (out : ByteArray) : Option (Int × ByteArray) :=
  if off < at' ∨ (a.size : Int) < off ∨ old < -1 ∨ new < -1 ∨ 255 < new ∨ (old = -1 ∧ new = -1) ∨ (0 ≤ old ∧ (off = a.size ∨ byteI a off ≠ old)) then none
  else some (if 0 ≤ old then off + 1 else off, if 0 ≤ new then out ++ a.extract at'.toNat off.toNat ++ bytesB [new] else out ++ a.extract at'.toNat off.toNat)
theorem ext_size (a : ByteArray) (i j : Nat) (h : i ≤ j) (hj : j ≤ a.size) : (a.extract i j).size = j - i := by
  rw [ByteArray.size_extract]; omega
theorem bb_size (n : Int) : (bytesB [n]).size = 1 := rfl
theorem inB1 {n : Int} (h0 : 0 ≤ n) (h1 : n < 256) : inB [n] = true := by simp [inB, h0, h1]
theorem ble_of {a b : Nat} (h : a ≤ b) : (Nat.ble a b = true) := Nat.ble_eq_true_of_le h
theorem refStep (a : ByteArray) (l : List (Int × Int × Int)) (out : ByteArray) (at' i off old new : Int) (hi : 0 ≤ i) (hil : i < l.length) (hl : l.length ≤ 1000) (he : l.getD i.toNat (0, 0, 0) = (off, old, new)) (h0 : 0 ≤ at') (h1 : at' ≤ a.size) (ha : a.size ≤ 300) (ho : (out.size : Int) ≤ at' + i) :
    q55_L3_s loO (a, l, out, at', i) = match apStep a off old new at' out with
      | none => some (.inr (.inl (ByteArray.mk #[], 1)))
      | some (b, o) => some (.inl (a, l, o, b, i + 1)) := by
  have hb := byteI_lt a off
  simp only [q55_L3_s, he, hil, decide_true, cond_true, chk_t _ (show 0 ≤ i ∧ i < (l.length : Int) from ⟨hi, hil⟩), apStep, wr64 (show -9223372036854775808 ≤ i + 1 by omega) (by omega), wr64 (n := byteI a off) (by omega) (by omega), bb_size, ByteArray.size_append]
  by_cases c1 : off < at'
  · simp [chk_t _ hi, c1]
  by_cases c2 : (a.size : Int) < off
  · simp [chk_t _ hi, c1, c2]
  have w1 : IntKind.wrap .i64 (off + 1) = off + 1 := wr64 (by omega) (by omega)
  have hs : (a.extract at'.toNat off.toNat).size = off.toNat - at'.toNat := ext_size _ _ _ (by omega) (by omega)
  have k1 : Nat.ble (out.size + (a.extract at'.toNat off.toNat).size) 9223372036854775807 = true := ble_of (by omega)
  have k2 : Nat.ble (out.size + (a.extract at'.toNat off.toNat).size + 1) 9223372036854775807 = true := ble_of (by omega)
  have k3 : 0 ≤ at' ∧ at' ≤ off ∧ off ≤ (a.size : Int) := ⟨h0, by omega, by omega⟩
  simp only [w1, chk_t _ k1, chk_t _ k2, chk_t _ k3]
  by_cases c3 : old < -1
  · simp [chk_t _ hi, c1, c2, c3]
  by_cases c4 : new < -1
  · simp [chk_t _ hi, c1, c2, c3, c4]
  by_cases c5 : 255 < new
  · simp [chk_t _ hi, c1, c2, c3, c4, c5]
  by_cases c8 : 0 ≤ new
  · have w2 : IntKind.wrap .u8 new = new := wr8 c8 (by omega)
    simp only [w2]
    by_cases c6 : old = -1
    · subst c6
      simp [chk_t _ hi, c1, c2, c4, c5, c8, show ¬ new = -1 by omega]
    · have c7 : 0 ≤ old := by omega
      by_cases c9 : off = a.size
      · simp [chk_t _ hi, c1, c2, c3, c4, c5, c6, c7, c8, c9]
      · have k4 : 0 ≤ off ∧ off < (a.size : Int) := ⟨by omega, by omega⟩
        by_cases c10 : byteI a off = old
        · simp [chk_t _ hi, c1, c2, c3, c4, c5, c6, c7, c8, c9, c10, chk_t _ k4]
        · simp [chk_t _ hi, c1, c2, c3, c4, c5, c6, c7, c8, c9, c10, chk_t _ k4]
  · have c8' : new = -1 := by omega
    subst c8'
    by_cases c6 : old = -1
    · subst c6
      simp [chk_t _ hi, c1, c2]
    · have c7 : 0 ≤ old := by omega
      by_cases c9 : off = a.size
      · simp [chk_t _ hi, c1, c2, c3, c6, c7, c9]
      · have k4 : 0 ≤ off ∧ off < (a.size : Int) := ⟨by omega, by omega⟩
        by_cases c10 : byteI a off = old
        · simp [chk_t _ hi, c1, c2, c3, c6, c7, c9, c10, chk_t _ k4]
        · simp [chk_t _ hi, c1, c2, c3, c6, c7, c9, c10, chk_t _ k4]
theorem ws_eq (s h : ByteArray) (hs : h.size + s.size ≤ 1048576) : q39 loO s h = some ((s.size : Int), h ++ s) := by
  simp only [q39, q35, Option.bind_some]
  rw [chk_t _ trivial, chk_t _ (by simp only [maxEl, List.length_cons, List.length_nil]; omega)]
theorem wb_eq (c : Int) (h : ByteArray) (h0 : 0 ≤ c) (h1 : c < 256) (hs : h.size + 1 ≤ 1048576) : q36 loO c h = some (h ++ bytesB [c]) := by
  simp only [q36, q35, Option.bind_some]
  rw [chk_t _ trivial, inB1 h0 h1, cond_true, chk_t _ (by simp only [maxEl, List.length_cons, List.length_nil]; omega)]
theorem simStep (a : ByteArray) (l : List (Int × Int × Int)) (out : ByteArray) (at' i off old new : Int) (hi : 0 ≤ i) (hil : i < l.length) (hl : l.length ≤ 1000) (he : l.getD i.toNat (0, 0, 0) = (off, old, new)) (h0 : 0 ≤ at') (h1 : at' ≤ a.size) (ha : a.size ≤ 300) (ho : (out.size : Int) ≤ at' + i) :
    q40_L3_s loO (a, at', l, l.length, i, out) = match apStep a off old new at' out with
      | none => some (.inr (.inl (ByteArray.mk #[], 1)))
      | some (b, o) => some (.inl (a, b, l, l.length, i + 1, o)) := by
  have hb := byteI_lt a off
  simp only [q40_L3_s, he, hil, decide_true, cond_true, apStep, wr64 (show -9223372036854775808 ≤ i + 1 by omega) (by omega), wr64 (n := byteI a off) (by omega) (by omega)]
  by_cases c1 : off < at'
  · simp [chk_t _ hi, c1]
  by_cases c2 : (a.size : Int) < off
  · simp [chk_t _ hi, c1, c2]
  have w1 : IntKind.wrap .i64 (off + 1) = off + 1 := wr64 (by omega) (by omega)
  have hs : (a.extract at'.toNat off.toNat).size = off.toNat - at'.toNat := ext_size _ _ _ (by omega) (by omega)
  have k3 : 0 ≤ at' ∧ at' ≤ off ∧ off ≤ (a.size : Int) := ⟨h0, by omega, by omega⟩
  have k1 := ws_eq (a.extract at'.toNat off.toNat) out (by omega)
  simp only [w1, chk_t _ k3, k1, Option.bind_some]
  by_cases c4 : new < -1
  · simp [chk_t _ hi, c1, c2, c4]
  by_cases c5 : 255 < new
  · simp [chk_t _ hi, c1, c2, c4, c5]
  by_cases c8 : 0 ≤ new
  · have w2 : IntKind.wrap .u8 new = new := wr8 c8 (by omega)
    have k2 := wb_eq new (out ++ a.extract at'.toNat off.toNat) c8 (by omega) (by rw [ByteArray.size_append]; omega)
    simp only [w2, k2, Option.bind_some]
    by_cases c6 : old = -1
    · subst c6
      simp [chk_t _ hi, c1, c2, c4, c5, c8, show ¬ new = -1 by omega]
    · by_cases c7 : 0 ≤ old
      · by_cases c9 : off = a.size
        · simp [chk_t _ hi, c1, c2, c4, c5, c6, c7, c8, c9]
        · have k4 : 0 ≤ off ∧ off < (a.size : Int) := ⟨by omega, by omega⟩
          by_cases c10 : byteI a off = old
          · simp [chk_t _ hi, c1, c2, c4, c5, c6, c7, c8, c9, c10, chk_t _ k4, show ¬ old < -1 by omega]
          · simp [chk_t _ hi, c1, c2, c4, c5, c6, c7, c8, c9, c10, chk_t _ k4]
      · have c3 : old < -1 := by omega
        simp [chk_t _ hi, c1, c2, c3, c4, c5, c6, c7, c8]
  · have c8' : new = -1 := by omega
    subst c8'
    by_cases c6 : old = -1
    · subst c6
      simp [chk_t _ hi, c1, c2]
    · by_cases c7 : 0 ≤ old
      · by_cases c9 : off = a.size
        · simp [chk_t _ hi, c1, c2, c6, c7, c9]
        · have k4 : 0 ≤ off ∧ off < (a.size : Int) := ⟨by omega, by omega⟩
          by_cases c10 : byteI a off = old
          · simp [chk_t _ hi, c1, c2, c6, c7, c9, c10, chk_t _ k4, show ¬ old < -1 by omega]
          · simp [chk_t _ hi, c1, c2, c6, c7, c9, c10, chk_t _ k4]
      · have c3 : old < -1 := by omega
        simp [chk_t _ hi, c1, c2, c3, c6, c7]
def apRun (a : ByteArray) : List (Int × Int × Int) → Int → ByteArray → Option (Int × ByteArray)
  | [], at', out => some (at', out)
  | (off, old, new) :: r, at', out => match apStep a off old new at' out with
    | none => none
    | some (b, o) => apRun a r b o
theorem apStep_inv {a : ByteArray} {off old new at' : Int} {out : ByteArray} {b : Int} {o : ByteArray} (h : apStep a off old new at' out = some (b, o)) (h0 : 0 ≤ at') (h1 : at' ≤ a.size) {i : Int} (ho : (out.size : Int) ≤ at' + i) :
    0 ≤ b ∧ b ≤ a.size ∧ (o.size : Int) ≤ b + (i + 1) := by
  unfold apStep at h
  split at h
  · cases h
  · rename_i hc
    simp only [not_or, not_and, Int.not_lt] at hc
    obtain ⟨c1, c2, c3, c4, c5, c6, c7⟩ := hc
    have hs : (a.extract at'.toNat off.toNat).size = off.toNat - at'.toNat := ext_size _ _ _ (by omega) (by omega)
    injection h with h; injection h with e1 e2
    have hb : off ≤ b ∧ b ≤ a.size := by
      rw [← e1]; split
      · rename_i h7; have := (c7 h7).1; omega
      · omega
    have hos : o.size ≤ out.size + (off.toNat - at'.toNat) + 1 := by
      rw [← e2]; split
      · rw [ByteArray.size_append, ByteArray.size_append, hs, bb_size]; omega
      · rw [ByteArray.size_append, hs]; omega
    omega
theorem drop_get {l : List (Int × Int × Int)} {i : Nat} (h : i < l.length) : l.drop i = l.getD i (0, 0, 0) :: l.drop (i + 1) := by
  rw [List.drop_eq_getElem_cons h]; simp [List.getD, h]
theorem refLoop (a : ByteArray) (l : List (Int × Int × Int)) (hl : l.length ≤ 1000) (ha : a.size ≤ 300) : ∀ (k i : Nat) (at' : Int) (out : ByteArray), l.length - i = k → i ≤ l.length → 0 ≤ at' → at' ≤ a.size → (out.size : Int) ≤ at' + i →
    loopO (q55_L3_s loO) (a, l, out, at', (i : Int)) = match apRun a (l.drop i) at' out with
      | none => some (.inl (ByteArray.mk #[], 1))
      | some (b, o) => some (.inr (a, o, b))
  | 0, i, at', out, hk, hi, h0, h1, ho => by
    have : i = l.length := by omega
    subst this
    rw [loopO_eq]
    simp only [q55_L3_s, Int.lt_irrefl, decide_false, cond_false, List.drop_length, apRun]
  | k + 1, i, at', out, hk, hi, h0, h1, ho => by
    have hlt : i < l.length := by omega
    rw [loopO_eq, drop_get hlt]
    rcases he : l.getD i (0, 0, 0) with ⟨off, old, new⟩
    rw [refStep a l out at' i off old new (by omega) (by omega) hl (by rw [Int.toNat_natCast]; exact he) h0 h1 ha ho]
    simp only [apRun]
    cases hs : apStep a off old new at' out with
    | none => rfl
    | some p =>
      obtain ⟨b, o⟩ := p
      obtain ⟨g0, g1, g2⟩ := apStep_inv hs h0 h1 ho
      exact refLoop a l hl ha k (i + 1) b o (by omega) (by omega) g0 g1 (by omega)
theorem simLoop (a : ByteArray) (l : List (Int × Int × Int)) (hl : l.length ≤ 1000) (ha : a.size ≤ 300) : ∀ (k i : Nat) (at' : Int) (out : ByteArray), l.length - i = k → i ≤ l.length → 0 ≤ at' → at' ≤ a.size → (out.size : Int) ≤ at' + i →
    loopO (q40_L3_s loO) (a, at', l, (l.length : Int), (i : Int), out) = match apRun a (l.drop i) at' out with
      | none => some (.inl (ByteArray.mk #[], 1))
      | some (b, o) => some (.inr (a, b, o))
  | 0, i, at', out, hk, hi, h0, h1, ho => by
    have : i = l.length := by omega
    subst this
    rw [loopO_eq]
    simp only [q40_L3_s, Int.lt_irrefl, decide_false, cond_false, List.drop_length, apRun]
  | k + 1, i, at', out, hk, hi, h0, h1, ho => by
    have hlt : i < l.length := by omega
    rw [loopO_eq, drop_get hlt]
    rcases he : l.getD i (0, 0, 0) with ⟨off, old, new⟩
    rw [simStep a l out at' i off old new (by omega) (by omega) hl (by rw [Int.toNat_natCast]; exact he) h0 h1 ha ho]
    simp only [apRun]
    cases hs : apStep a off old new at' out with
    | none => rfl
    | some p =>
      obtain ⟨b, o⟩ := p
      obtain ⟨g0, g1, g2⟩ := apStep_inv hs h0 h1 ho
      exact simLoop a l hl ha k (i + 1) b o (by omega) (by omega) g0 g1 (by omega)
end Go.Abs.G52
namespace Go.Abs.G52
open Go Go.Abs
set_option linter.unusedSimpArgs false
set_option linter.unusedVariables false
theorem aw : q51 loO = some true := (congrArg q51 (loM_eq 400)).symm.trans (show q51 (loM 400) = some true by kernel_rfl)
theorem runO {S R : Type} (step : S → Option (S ⊕ R)) (x : S) : loO.run step x = loopO step x := rfl
theorem long1 (a : ByteArray) : q3 loO [a] = some (decide ((200 : Int) < a.size)) := by
  have h : q1 loO [a] = some (if (200 : Int) < a.size then 0 else -1) := by
    simp only [q1, q1_L3, runO]
    rw [loopO_eq]
    simp only [q1_L3_s, q0]
    have e0 : ([a].length : Int) = 1 := rfl
    simp only [e0, show decide ((0 : Int) < 1) = true from rfl, cond_true, Option.bind_some, show (0 : Int).toNat = 0 from rfl, List.getD_cons_zero, chk_t _ (show (0 : Int) ≤ 0 ∧ (0 : Int) < 1 by decide)]
    by_cases h : (200 : Int) < a.size
    · simp [h, alt2]
    · simp only [h, decide_false, cond_false]
      rw [loopO_eq]
      simp [q1_L3_s, wr64, alt2]
  simp only [q3, q2, h, Option.bind_some]
  by_cases h : (200 : Int) < a.size <;> simp [h]
theorem alt2_r {A B C : Type} (b : B) (f : A → Option C) (g : B → Option C) : alt2 (.inr b : A ⊕ B) f g = g b := rfl
end Go.Abs.G52
namespace Go.Abs
set_option linter.unusedVariables false
inductive Al {α : Type} : List α → List α → Nat → Prop
  | nil : Al [] [] 0
  | mt {a b n} (x) : Al a b n → Al (x :: a) (x :: b) n
  | sb {a b n} (x y) : Al a b n → Al (x :: a) (y :: b) (n + 1)
  | dl {a b n} (x) : Al a b n → Al (x :: a) b (n + 1)
  | is {a b n} (y) : Al a b n → Al a (y :: b) (n + 1)
  | up {a b n} : Al a b n → Al a b (n + 1)
variable {α : Type}
theorem Al.ups {a b : List α} {n m : Nat} (h : Al a b n) (hle : n ≤ m) : Al a b m := by
  obtain ⟨k, rfl⟩ := Nat.exists_eq_add_of_le hle
  clear hle
  induction k with
  | zero => exact h
  | succ k ih => exact ih.up
theorem Al.sym {a b : List α} {n : Nat} (h : Al a b n) : Al b a n := by
  induction h with
  | nil => exact .nil
  | mt x _ ih => exact .mt x ih
  | sb x y _ ih => exact .sb y x ih
  | dl x _ ih => exact .is x ih
  | is y _ ih => exact .dl y ih
  | up _ ih => exact .up ih
theorem Al.len {a b : List α} {n : Nat} (h : Al a b n) : a.length ≤ b.length + n := by
  induction h with
  | nil => exact Nat.le_refl _
  | mt x _ ih => simp only [List.length_cons] at *; omega
  | sb x y _ ih => simp only [List.length_cons] at *; omega
  | dl x _ ih => simp only [List.length_cons] at *; omega
  | is y _ ih => simp only [List.length_cons] at *; omega
  | up _ ih => omega
theorem Al.app {a b : List α} {n : Nat} (h : Al a b n) : ∀ {u v : List α} {m : Nat}, Al u v m → Al (a ++ u) (b ++ v) (n + m) := by
  induction h with
  | nil => intro u v m k; simpa using k
  | mt x _ ih => intro u v m k; exact .mt x (ih k)
  | sb x y _ ih => intro u v m k; have := Al.sb x y (ih k); rw [Nat.add_right_comm] at this; exact this
  | dl x _ ih => intro u v m k; have := Al.dl x (ih k); rw [Nat.add_right_comm] at this; exact this
  | is x _ ih => intro u v m k; have := Al.is x (ih k); rw [Nat.add_right_comm] at this; exact this
  | up _ ih => intro u v m k; have := Al.up (ih k); rw [Nat.add_right_comm] at this; exact this
theorem Al.rev {a b : List α} {n : Nat} (h : Al a b n) : Al a.reverse b.reverse n := by
  induction h with
  | nil => exact .nil
  | mt x _ ih => simp only [List.reverse_cons]; exact ih.app (.mt x .nil)
  | sb x y _ ih => simp only [List.reverse_cons]; exact ih.app (.sb x y .nil)
  | dl x _ ih => simp only [List.reverse_cons]; have := ih.app (.dl x .nil); rw [List.append_nil] at this; exact this
  | is x _ ih => simp only [List.reverse_cons]; have := ih.app (.is x .nil); rw [List.append_nil] at this; exact this
  | up _ ih => exact .up ih
theorem Al.tl1 {x : α} : ∀ {c b : List α} {n : Nat}, Al c b n → ∀ {a}, c = x :: a → Al a b (n + 1) := by
  intro c b n h
  induction h with
  | nil => intro a e; cases e
  | mt y h _ => intro a e; cases e; exact .is _ h
  | sb y z h _ => intro a e; cases e; exact .up (.is _ h)
  | dl y h _ => intro a e; cases e; exact .up (.up h)
  | is y h ih => intro a e; exact .is y (ih e)
  | up h ih => intro a e; exact .up (ih e)
theorem Al.tl {x : α} {a b : List α} {n : Nat} (h : Al (x :: a) b n) : Al a b (n + 1) := h.tl1 rfl
theorem Al.tr {x : α} {a b : List α} {n : Nat} (h : Al a (x :: b) n) : Al a b (n + 1) := h.sym.tl.sym
theorem Al.cut1 {x : α} : ∀ {c d : List α} {n : Nat}, Al c d n → ∀ {a b}, c = x :: a → d = x :: b → Al a b n := by
  intro c d n h
  induction h with
  | nil => intro a b e; cases e
  | mt y h _ => intro a b e f; cases e; cases f; exact h
  | sb y z h _ => intro a b e f; cases e; cases f; exact .up h
  | dl y h _ => intro a b e f; cases e; subst f; exact h.tr
  | is y h _ => intro a b e f; cases f; subst e; exact h.tl
  | up h ih => intro a b e f; exact .up (ih e f)
theorem Al.cut {x : α} {a b : List α} {n : Nat} (h : Al (x :: a) (x :: b) n) : Al a b n := h.cut1 rfl rfl
theorem Al.ne1 {x y : α} (hne : x ≠ y) : ∀ {c d : List α} {n : Nat}, Al c d n → ∀ {a b}, c = x :: a → d = y :: b → ∃ m, n = m + 1 ∧ (Al a b m ∨ Al a (y :: b) m ∨ Al (x :: a) b m) := by
  intro c d n h
  induction h with
  | nil => intro a b e; cases e
  | mt z h _ => intro a b e f; cases e; cases f; exact absurd rfl hne
  | @sb _ _ n u v h _ => intro a b e f; cases e; cases f; exact ⟨n, rfl, .inl h⟩
  | @dl _ _ n u h _ => intro a b e f; cases e; subst f; exact ⟨n, rfl, .inr (.inl h)⟩
  | @is _ _ n u h _ => intro a b e f; cases f; subst e; exact ⟨n, rfl, .inr (.inr h)⟩
  | @up _ _ n h ih =>
    intro a b e f
    obtain ⟨m, rfl, k⟩ := ih e f
    exact ⟨m + 1, rfl, k.imp Al.up (Or.imp Al.up Al.up)⟩
theorem Al.ne {x y : α} (hne : x ≠ y) {a b : List α} {n : Nat} (h : Al (x :: a) (y :: b) n) : ∃ m, n = m + 1 ∧ (Al a b m ∨ Al a (y :: b) m ∨ Al (x :: a) b m) := h.ne1 hne rfl rfl
theorem Al.trans {a b : List α} {n : Nat} (h : Al a b n) : ∀ {c : List α} {m : Nat}, Al b c m → Al a c (n + m) := by
  induction h with
  | nil => intro c m k; simpa using k
  | @mt a b n x h ih =>
    intro c m k
    have : ∀ {d c : List α} {m : Nat}, Al d c m → d = x :: b → Al (x :: a) c (n + m) := by
      intro d c m k
      induction k with
      | nil => intro e; cases e
      | mt z k _ => intro e; cases e; exact .mt _ (ih k)
      | sb z w k _ => intro e; cases e; exact .sb _ _ (ih k)
      | dl z k _ => intro e; cases e; exact .dl _ (ih k)
      | is z k ih2 => intro e; exact .is _ (ih2 e)
      | up k ih2 => intro e; exact .up (ih2 e)
    exact this k rfl
  | @sb a b n x y h ih =>
    intro c m k
    have : ∀ {d c : List α} {m : Nat}, Al d c m → d = y :: b → Al (x :: a) c (n + 1 + m) := by
      intro d c m k
      induction k with
      | nil => intro e; cases e
      | mt z k _ => intro e; cases e; exact (Al.sb _ _ (ih k)).ups (by omega)
      | sb z w k _ => intro e; cases e; exact (Al.sb _ _ (ih k)).ups (by omega)
      | dl z k _ => intro e; cases e; exact (Al.dl _ (ih k)).ups (by omega)
      | is z k ih2 => intro e; exact .is _ (ih2 e)
      | up k ih2 => intro e; exact .up (ih2 e)
    exact this k rfl
  | dl x _ ih => intro c m k; exact (Al.dl x (ih k)).ups (by omega)
  | is y _ ih => intro c m k; exact (ih k.tl).ups (by omega)
  | up _ ih => intro c m k; exact (ih k).ups (by omega)
theorem Al.zero {a b : List α} {n : Nat} (h : Al a b n) : n = 0 → a = b := by
  induction h with
  | nil => intro _; rfl
  | mt x _ ih => intro e; rw [ih e]
  | sb x y _ ih | dl x _ ih | is y _ ih | up _ ih => intro e; omega
variable [DecidableEq α]
def ed : List α → List α → Nat
  | [], b => b.length
  | x :: a, [] => a.length + 1
  | x :: a, y :: b => if x = y then ed a b else 1 + min (ed a b) (min (ed a (y :: b)) (ed (x :: a) b))
termination_by a b => a.length + b.length
omit [DecidableEq α] in
theorem al_nil : ∀ b : List α, Al [] b b.length
  | [] => .nil
  | y :: b => .is y (al_nil b)
theorem ed_nil (a : List α) : ed a [] = a.length := by cases a <;> simp [ed]
theorem ed_al : ∀ a b : List α, Al a b (ed a b)
  | [], b => by rw [ed]; exact al_nil b
  | x :: a, [] => by rw [ed]; exact .dl x (ed_nil a ▸ ed_al a [])
  | x :: a, y :: b => by
    rw [ed]
    split
    · rename_i h; subst h; exact .mt x (ed_al a b)
    · have h1 := ed_al a b
      have h2 := ed_al a (y :: b)
      have h3 := ed_al (x :: a) b
      rw [Nat.add_comm]
      rcases Nat.le_total (ed a b) (min (ed a (y :: b)) (ed (x :: a) b)) with h | h
      · rw [Nat.min_eq_left h]; exact .sb x y h1
      · rw [Nat.min_eq_right h]
        rcases Nat.le_total (ed a (y :: b)) (ed (x :: a) b) with h | h
        · rw [Nat.min_eq_left h]; exact .dl x h2
        · rw [Nat.min_eq_right h]; exact .is y h3
termination_by a b => a.length + b.length
theorem ed_le : ∀ (a b : List α) {n : Nat}, Al a b n → ed a b ≤ n
  | [], b, n, h => by rw [ed]; have := h.sym.len; simpa using this
  | x :: a, [], n, h => by rw [ed]; have := h.len; simpa using this
  | x :: a, y :: b, n, h => by
    rw [ed]
    split
    · rename_i e; subst e; exact ed_le a b h.cut
    · rename_i e
      obtain ⟨m, rfl, k⟩ := h.ne e
      rcases k with k | k | k
      · have := ed_le a b k; omega
      · have := ed_le a (y :: b) k; omega
      · have := ed_le (x :: a) b k; omega
termination_by a b => a.length + b.length
theorem ed_max : ∀ a b : List α, ed a b ≤ max a.length b.length
  | [], b => by rw [ed]; simp
  | x :: a, [] => by rw [ed]; simp
  | x :: a, y :: b => by
    have := ed_max a b
    rw [ed]
    simp only [List.length_cons]
    split <;> omega
theorem ed_rev (a b : List α) : ed a.reverse b.reverse = ed a b := by
  refine Nat.le_antisymm (ed_le _ _ (ed_al a b).rev) (ed_le _ _ ?_)
  have := (ed_al a.reverse b.reverse).rev
  simpa using this
theorem ed_step (x y : α) (a b : List α) : ed (x :: a) (y :: b) = min (ed a b + if x = y then 0 else 1) (min (ed a (y :: b) + 1) (ed (x :: a) b + 1)) := by
  have h1 := ed_le a b ((ed_al a (y :: b)).tr)
  have h2 := ed_le a b ((ed_al (x :: a) b).tl)
  rw [ed]
  split <;> omega
theorem ed_snoc (x y : α) (a b : List α) : ed (a ++ [x]) (b ++ [y]) = min (ed a b + if x = y then 0 else 1) (min (ed a (b ++ [y]) + 1) (ed (a ++ [x]) b + 1)) := by
  have := ed_step x y a.reverse b.reverse
  have e : ∀ (l : List α) (z : α), z :: l.reverse = (l ++ [z]).reverse := fun l z => by simp
  rw [e, e, ed_rev, ed_rev, ed_rev, ed_rev] at this
  exact this
end Go.Abs
namespace Go.Abs
set_option linter.unusedSimpArgs false
set_option linter.unusedVariables false
theorem wr6 {n : Int} (h0 : -9223372036854775808 ≤ n) (h1 : n < 9223372036854775808) : IntKind.wrap .i64 n = n := by
  have e : (2 : Int) ^ IntKind.bits .i64 = 18446744073709551616 := rfl
  have e' : (2 : Int) ^ (IntKind.bits .i64 - 1) = 9223372036854775808 := rfl
  have s : IntKind.signed .i64 = true := rfl
  simp only [IntKind.wrap, e, e', s, Bool.true_and, ge_iff_le, decide_eq_true_eq]
  split <;> omega
theorem chkT {β : Type} {p : Prop} [Decidable p] (x : Option β) (h : p) : chk p x = x := by simp [chk, h]
theorem cT {β : Type} {p : Prop} [Decidable p] (x y : β) (h : p) : (bif decide p then x else y) = x := by simp [h]
theorem cF {β : Type} {p : Prop} [Decidable p] (x y : β) (h : ¬ p) : (bif decide p then x else y) = y := by simp [h]
theorem bindS {α β : Type} (a : α) (f : α → Option β) : Option.bind (some a) f = f a := rfl
theorem loop_up {S R : Type} {step : S → Option (S ⊕ R)} (st : Nat → S) (N : Nat) (r : R) (he : step (st N) = some (.inr r)) (hs : ∀ n, n < N → step (st n) = some (.inl (st (n + 1)))) : ∀ k n, n + k = N → loopO step (st n) = some r
  | 0, n, h => by rw [loopO_eq]; simp only [Nat.add_zero] at h; subst h; rw [he]
  | k + 1, n, h => by rw [loopO_eq, hs n (by omega)]; exact loop_up st N r he hs k (n + 1) (by omega)
theorem loop_dn {S R : Type} {step : S → Option (S ⊕ R)} (st : Nat → S) (N : Nat) (r : R) (he : step (st 0) = some (.inr r)) (hs : ∀ n, n < N → step (st (n + 1)) = some (.inl (st n))) : ∀ n, n ≤ N → loopO step (st n) = some r
  | 0, h => by rw [loopO_eq, he]
  | n + 1, h => by rw [loopO_eq, hs n (by omega)]; exact loop_dn st N r he hs n (by omega)
theorem loop_at {S R : Type} {step : S → Option (S ⊕ R)} {st : Nat → S} {N : Nat} {r : R} {s : S} (hst : s = st 0) (he : step (st N) = some (.inr r)) (hs : ∀ n, n < N → step (st n) = some (.inl (st (n + 1)))) : loopO step s = some r := by
  subst hst; exact loop_up st N r he hs N 0 (by omega)
theorem loop_down {S R : Type} {step : S → Option (S ⊕ R)} {st : Nat → S} {N : Nat} {r : R} {s : S} (hst : s = st N) (he : step (st 0) = some (.inr r)) (hs : ∀ n, n < N → step (st (n + 1)) = some (.inl (st n))) : loopO step s = some r := by
  subst hst; exact loop_dn st N r he hs N (Nat.le_refl _)
def tab {α : Type} (n : Nat) (f : Nat → α) : List α := (List.range n).map f
theorem tab_len {α : Type} (n : Nat) (f : Nat → α) : (tab n f).length = n := by simp [tab]
theorem tab_get {α : Type} (n : Nat) (f : Nat → α) (i : Nat) (d : α) (h : i < n) : (tab n f).getD i d = f i := by simp [tab, List.getD_eq_getElem?_getD, h]
theorem tab_set {α : Type} (n : Nat) (f : Nat → α) (i : Nat) (v : α) : (tab n f).set i v = tab n (fun k => if k = i then v else f k) := by
  apply List.ext_getElem?
  intro k
  by_cases h : k < n
  · by_cases e : k = i
    · subst e; simp [tab, List.getElem?_set, h]
    · simp [tab, List.getElem?_set, h, e, Ne.symm e]
  · simp [tab, List.getElem?_set, h, List.getElem?_eq_none]
theorem tab_congr {α : Type} {n : Nat} {f g : Nat → α} (h : ∀ k, k < n → f k = g k) : tab n f = tab n g :=
  List.map_congr_left (fun k hk => h k (by simpa using hk))
theorem tab_rep {α : Type} (n : Nat) (a : α) : List.replicate n a = tab n (fun _ => a) := by
  apply List.ext_getElem (by simp [tab])
  intro k h1 h2
  simp [tab]
theorem tab_snoc {α : Type} (n : Nat) (f : Nat → α) : tab n f ++ [f n] = tab (n + 1) f := by simp [tab, List.range_succ]
def bl (s : ByteArray) : List UInt8 := s.data.toList
theorem bl_len (s : ByteArray) : (bl s).length = s.size := Array.length_toList
theorem bl_get (s : ByteArray) (i : Nat) (h : i < s.size) : (bl s).drop i = s.data.getD i 0 :: (bl s).drop (i + 1) := by
  have h' : i < (bl s).length := by rw [bl_len]; exact h
  rw [List.drop_eq_getElem_cons h']
  congr 1
  have h2 : i < s.data.size := h
  simp [bl, Array.getD, h2]
  intro hh; omega
theorem bl_take (s : ByteArray) (i : Nat) (h : i < s.size) : (bl s).take (i + 1) = (bl s).take i ++ [s.data.getD i 0] := by
  have h' : i < (bl s).length := by rw [bl_len]; exact h
  have h2 : i < s.data.size := h
  rw [← List.take_append_getElem h']
  congr 2
  simp [bl, Array.getD, h2]
  intro hh; omega
theorem byteI_eq (a b : ByteArray) (i j : Nat) : (byteI a i = byteI b j) ↔ a.data.getD i 0 = b.data.getD j 0 := by
  simp only [byteI, Int.toNat_natCast]
  constructor
  · intro h
    have : (a.data.getD i 0).toNat = (b.data.getD j 0).toNat := by omega
    exact UInt8.toNat_inj.1 this
  · intro h; rw [h]
theorem bl_inj {a b : ByteArray} (h : bl a = bl b) : a = b := by
  have : a.data = b.data := by simpa [bl] using h
  cases a; cases b; simp_all
end Go.Abs
namespace Go.Abs.G52
open Go Go.Abs
set_option linter.unusedSimpArgs false
set_option linter.unusedVariables false
def eA (a b : ByteArray) (i j : Nat) : Int := (ed ((bl a).drop i) ((bl b).drop j) : Nat)
theorem eA_end1 (a b : ByteArray) (j : Nat) (hj : j ≤ b.size) : eA a b a.size j = (b.size : Int) - j := by
  have : (bl a).drop a.size = [] := List.drop_eq_nil_of_le (by rw [bl_len]; exact Nat.le_refl _)
  rw [eA, this, ed, List.length_drop, bl_len]; omega
theorem eA_end2 (a b : ByteArray) (i : Nat) (hi : i ≤ a.size) : eA a b i b.size = (a.size : Int) - i := by
  have : (bl b).drop b.size = [] := List.drop_eq_nil_of_le (by rw [bl_len]; exact Nat.le_refl _)
  rw [eA, this, ed_nil, List.length_drop, bl_len]; omega
theorem eA_eq (a b : ByteArray) (i j : Nat) (hi : i < a.size) (hj : j < b.size) (h : byteI a i = byteI b j) : eA a b i j = eA a b (i + 1) (j + 1) := by
  rw [eA, bl_get a i hi, bl_get b j hj, ed, if_pos ((byteI_eq a b i j).1 h)]; rfl
theorem eA_ne (a b : ByteArray) (i j : Nat) (hi : i < a.size) (hj : j < b.size) (h : ¬ byteI a i = byteI b j) : eA a b i j = 1 + min (min (eA a b (i + 1) (j + 1)) (eA a b (i + 1) j)) (eA a b i (j + 1)) := by
  have h' : ¬ a.data.getD i 0 = b.data.getD j 0 := fun e => h ((byteI_eq a b i j).2 e)
  have e1 : eA a b i j = ((1 + min (ed ((bl a).drop (i + 1)) ((bl b).drop (j + 1))) (min (ed ((bl a).drop (i + 1)) ((bl b).drop j)) (ed ((bl a).drop i) ((bl b).drop (j + 1)))) : Nat) : Int) := by
    rw [bl_get a i hi, bl_get b j hj, eA, bl_get a i hi, bl_get b j hj, ed, if_neg h']
  rw [e1]; simp only [eA]; omega
theorem eA_le (a b : ByteArray) (i j : Nat) : 0 ≤ eA a b i j ∧ eA a b i j ≤ a.size + b.size := by
  have := ed_max ((bl a).drop i) ((bl b).drop j)
  simp only [List.length_drop, bl_len] at this
  simp only [eA]; omega
def dTab (a b : ByteArray) (f : Nat → Nat → Int) : List (List Int) := tab (a.size + 1) fun r => tab (b.size + 1) fun c => f r c
def dF (a b : ByteArray) (i n r c : Nat) : Int := if i + 1 ≤ r ∨ (r = i ∧ n ≤ c) then eA a b r c else 0
theorem dRow (a b : ByteArray) (ha : a.size ≤ 1000) (hb : b.size ≤ 1000) (i : Nat) (hi : i ≤ a.size) :
    q4_L5 loO (a, b, (i : Int), (b.size : Int), dTab a b (fun r c => if i + 1 ≤ r then eA a b r c else 0)) = some (a, b, (i : Int), dTab a b (fun r c => if i ≤ r then eA a b r c else 0)) := by
  simp only [q4_L5, runO]
  refine loop_down (N := b.size + 1) (st := fun n => (a, b, (i : Int), (n : Int) - 1, dTab a b (dF a b i n))) ?_ ?_ ?_
  · have e1 : ((b.size + 1 : Nat) : Int) - 1 = b.size := by omega
    simp only [e1]
    refine congrArg (fun d => (a, b, (i : Int), (b.size : Int), d)) ?_
    refine tab_congr fun r hr => tab_congr fun c hc => ?_
    have : (i + 1 ≤ r ∨ r = i ∧ b.size + 1 ≤ c) ↔ i + 1 ≤ r := by omega
    simp only [dF, this]
  · simp only [q4_L5_s]
    rw [cF _ _ (by omega)]
    refine congrArg (fun d => some (Sum.inr (a, b, (i : Int), d))) ?_
    refine tab_congr fun r hr => tab_congr fun c hc => ?_
    have : (i + 1 ≤ r ∨ r = i ∧ 0 ≤ c) ↔ i ≤ r := by omega
    simp only [dF, this]
  · intro n hn
    have e1 : ((n + 1 : Nat) : Int) - 1 = (n : Int) := by omega
    have e2 : IntKind.wrap .i64 ((n : Int) - 1) = (n : Int) - 1 := wr6 (by omega) (by omega)
    have e3 : IntKind.wrap .i64 ((i : Int) + 1) = ((i + 1 : Nat) : Int) := by rw [wr6 (by omega) (by omega)]; omega
    have e4 : IntKind.wrap .i64 ((n : Int) + 1) = ((n + 1 : Nat) : Int) := by rw [wr6 (by omega) (by omega)]; omega
    have L1 : ∀ f, (dTab a b f).length = a.size + 1 := fun f => tab_len _ _
    have L2 : ∀ (f : Nat → Nat → Int) (r : Nat), r ≤ a.size → (dTab a b f).getD r [] = tab (b.size + 1) (f r) := fun f r hr => tab_get _ _ _ _ (by omega)
    have fin : ∀ (v : Int), v = eA a b i n → (dTab a b (dF a b i (n + 1))).set i ((tab (b.size + 1) (dF a b i (n + 1) i)).set n v) = dTab a b (dF a b i n) := by
      intro v hv
      simp only [dTab, tab_set]
      refine tab_congr fun r hr => ?_
      by_cases h : r = i
      · subst h
        rw [if_pos rfl]
        refine tab_congr fun c hc => ?_
        by_cases h2 : c = n
        · subst h2; rw [if_pos rfl, dF, if_pos (Or.inr ⟨rfl, Nat.le_refl _⟩), hv]
        · rw [if_neg h2]
          have : (r + 1 ≤ r ∨ r = r ∧ n + 1 ≤ c) ↔ (r + 1 ≤ r ∨ r = r ∧ n ≤ c) := by omega
          unfold dF
          by_cases h3 : r + 1 ≤ r ∨ r = r ∧ n ≤ c
          · rw [if_pos h3, if_pos (this.2 h3)]
          · rw [if_neg h3, if_neg (fun h => h3 (this.1 h))]
      · rw [if_neg h]
        refine tab_congr fun c hc => ?_
        have : (i + 1 ≤ r ∨ r = i ∧ n + 1 ≤ c) ↔ (i + 1 ≤ r ∨ r = i ∧ n ≤ c) := by omega
        simp only [dF, this]
    simp only [q4_L5_s, e1, e2]
    rw [cT _ _ (by omega)]
    simp only [L1, Int.toNat_natCast, L2 _ _ hi, tab_len]
    by_cases h1 : i = a.size
    · rw [cT _ _ (by omega), chkT _ (by omega), chkT _ (by omega), fin]
      rw [wr6 (by omega) (by omega)]
      subst h1; rw [eA_end1 a b n (by omega)]
    · rw [cF _ _ (by omega)]
      by_cases h2 : n = b.size
      · rw [cT _ _ (by omega), chkT _ (by omega), chkT _ (by omega), fin]
        rw [wr6 (by omega) (by omega)]
        subst h2; rw [eA_end2 a b i (by omega)]
      · rw [cF _ _ (by omega), chkT _ (by omega), chkT _ (by omega)]
        simp only [e3, e4, Int.toNat_natCast, L2 _ (i + 1) (by omega), tab_len]
        have g1 : ∀ (c : Nat), c ≤ b.size → (tab (b.size + 1) (dF a b i (n + 1) (i + 1))).getD c 0 = eA a b (i + 1) c := by
          intro c hc
          rw [tab_get _ _ _ _ (by omega), dF, if_pos (Or.inl (Nat.le_refl _))]
        have g2 : (tab (b.size + 1) (dF a b i (n + 1) i)).getD (n + 1) 0 = eA a b i (n + 1) := by
          rw [tab_get _ _ _ _ (by omega), dF, if_pos (Or.inr ⟨rfl, Nat.le_refl _⟩)]
        by_cases h3 : byteI a i = byteI b n
        · rw [cT _ _ h3, chkT _ (by omega), chkT _ (by omega), chkT _ (by omega), chkT _ (by omega), fin]
          rw [g1 _ (by omega), eA_eq a b i n (by omega) (by omega) h3]
        · rw [cF _ _ h3]
          repeat rw [chkT _ (by omega)]
          rw [fin]
          rw [g1 _ (by omega), g1 _ (by omega), g2, eA_ne a b i n (by omega) (by omega) h3]
          have b1 := eA_le a b (i + 1) (n + 1)
          have b2 := eA_le a b (i + 1) n
          have b3 := eA_le a b i (n + 1)
          rw [wr6 (by omega) (by omega)]
theorem dist_tab (a b : ByteArray) (ha : a.size ≤ 1000) (hb : b.size ≤ 1000) : q4 loO a b = some (dTab a b (eA a b)) := by
  have e1 : IntKind.wrap .i64 ((a.size : Int) + 1) = ((a.size + 1 : Nat) : Int) := by rw [wr6 (by omega) (by omega)]; omega
  have e2 : IntKind.wrap .i64 ((b.size : Int) + 1) = ((b.size + 1 : Nat) : Int) := by rw [wr6 (by omega) (by omega)]; omega
  have hm : (maxEl : Int) ≥ 100000 := by decide
  have p1 : q4_L20 loO (a, b, ((a.size + 1 : Nat) : Int), 0, tab (a.size + 1) (fun _ => [])) = some (a, b, dTab a b (fun r c => if a.size + 1 ≤ r then eA a b r c else 0)) := by
    simp only [q4_L20, runO]
    refine loop_at (N := a.size + 1) (st := fun n => (a, b, ((a.size + 1 : Nat) : Int), (n : Int), tab (a.size + 1) (fun r => if r < n then tab (b.size + 1) (fun _ => (0 : Int)) else []))) ?_ ?_ ?_
    · simp
    · simp only [q4_L20_s]
      rw [cF _ _ (by omega)]
      refine congrArg (fun d => some (Sum.inr (a, b, d))) ?_
      refine tab_congr fun r hr => ?_
      rw [if_pos hr]
      refine tab_congr fun c hc => ?_
      simp only []
      rw [if_neg (by omega)]
    · intro n hn
      simp only [q4_L20_s, e2]
      have e3 : IntKind.wrap .i64 ((n : Int) + 1) = ((n + 1 : Nat) : Int) := by rw [wr6 (by omega) (by omega)]; omega
      rw [cT _ _ (by omega), chkT _ (by omega), tab_len, chkT _ (by omega), e3]
      simp only [Int.toNat_natCast, tab_set, tab_rep]
      refine congrArg (fun d => some (Sum.inl (a, b, ((a.size + 1 : Nat) : Int), ((n + 1 : Nat) : Int), d))) ?_
      refine tab_congr fun r hr => ?_
      by_cases h : r = n
      · subst h; simp
      · rw [if_neg h]
        have : r < n ↔ r < n + 1 := by omega
        simp only [this]
  have p2 : q4_L3 loO (a, b, (a.size : Int), dTab a b (fun r c => if a.size + 1 ≤ r then eA a b r c else 0)) = some (dTab a b (eA a b)) := by
    simp only [q4_L3, runO]
    refine loop_down (N := a.size + 1) (st := fun n => (a, b, (n : Int) - 1, dTab a b (fun r c => if n ≤ r then eA a b r c else 0))) ?_ ?_ ?_
    · have : ((a.size + 1 : Nat) : Int) - 1 = a.size := by omega
      simp only [this]
    · simp only [q4_L3_s]
      rw [cF _ _ (by omega)]
      simp
    · intro n hn
      have e1 : ((n + 1 : Nat) : Int) - 1 = (n : Int) := by omega
      have e2 : IntKind.wrap .i64 ((n : Int) - 1) = (n : Int) - 1 := wr6 (by omega) (by omega)
      simp only [q4_L3_s, e1, e2]
      rw [cT _ _ (by omega), dRow a b ha hb n (by omega)]
      simp only [bindS, e2]
  simp only [q4, e1]
  rw [chkT _ (by omega)]
  simp only [Int.toNat_natCast, tab_rep, tab_len, p1, bindS, p2]
theorem long2 (a b : ByteArray) : q3 loO [a, b] = some (decide ((200 : Int) < a.size) || decide ((200 : Int) < b.size)) := by
  have h : q1 loO [a, b] = some (if (200 : Int) < a.size then 0 else if (200 : Int) < b.size then 1 else -1) := by
    simp only [q1, q1_L3, runO]
    rw [loopO_eq]
    simp only [q1_L3_s, q0]
    have e0 : ([a, b].length : Int) = 2 := rfl
    simp only [e0, show decide ((0 : Int) < 2) = true from rfl, cond_true, Option.bind_some, show (0 : Int).toNat = 0 from rfl, List.getD_cons_zero, chk_t _ (show (0 : Int) ≤ 0 ∧ (0 : Int) < 2 by decide)]
    by_cases h : (200 : Int) < a.size
    · simp [h, alt2]
    · simp only [h, decide_false, cond_false]
      rw [loopO_eq]
      have e1 : IntKind.wrap .i64 (0 + 1) = 1 := rfl
      simp only [q1_L3_s, q0, e0, e1]
      simp only [show decide ((1 : Int) < 2) = true from rfl, cond_true, Option.bind_some, show (1 : Int).toNat = 1 from rfl, List.getD_cons_succ, List.getD_cons_zero, chk_t _ (show (0 : Int) ≤ 1 ∧ (1 : Int) < 2 by decide)]
      by_cases h2 : (200 : Int) < b.size
      · simp [h2, alt2]
      · simp only [h2, decide_false, cond_false]
        rw [loopO_eq]
        simp [q1_L3_s, wr64, alt2]
  simp only [q3, q2, h, Option.bind_some]
  by_cases h : (200 : Int) < a.size <;> by_cases h2 : (200 : Int) < b.size <;> simp [h, h2]
end Go.Abs.G52
namespace Go.Abs.G52
open Go Go.Abs
set_option linter.unusedSimpArgs false
set_option linter.unusedVariables false
def pA (a b : ByteArray) (i j : Nat) : Int := (ed ((bl a).take i) ((bl b).take j) : Nat)
theorem pA_0 (a b : ByteArray) (j : Nat) (hj : j ≤ b.size) : pA a b 0 j = j := by
  simp only [pA, List.take_zero]
  rw [ed, List.length_take, bl_len]; omega
theorem pA_i0 (a b : ByteArray) (i : Nat) (hi : i ≤ a.size) : pA a b i 0 = i := by
  simp only [pA, List.take_zero]
  rw [ed_nil, List.length_take, bl_len]; omega
theorem pA_step (a b : ByteArray) (i j : Nat) (hi : i < a.size) (hj : j < b.size) : pA a b (i + 1) (j + 1) = min (min (if byteI a i = byteI b j then pA a b i j else pA a b i j + 1) (pA a b i (j + 1) + 1)) (pA a b (i + 1) j + 1) := by
  have h := byteI_eq a b i j
  have e := ed_snoc (a.data.getD i 0) (b.data.getD j 0) ((bl a).take i) ((bl b).take j)
  rw [← bl_take a i hi, ← bl_take b j hj] at e
  simp only [pA, e]
  by_cases c : byteI a i = byteI b j
  · rw [if_pos c, if_pos (h.1 c)]; omega
  · rw [if_neg c, if_neg (fun x => c (h.2 x))]; omega
theorem pA_le (a b : ByteArray) (i j : Nat) : 0 ≤ pA a b i j ∧ pA a b i j ≤ a.size + b.size := by
  have := ed_max ((bl a).take i) ((bl b).take j)
  simp only [List.length_take, bl_len] at this
  simp only [pA]; omega
theorem refRow (a b : ByteArray) (ha : a.size ≤ 1000) (hb : b.size ≤ 1000) (i : Nat) (hi : i < a.size) :
    q66_L6 loO (a, b, (i : Int), 0, tab (b.size + 1) (pA a b i), [((i + 1 : Nat) : Int)]) = some (a, b, (i : Int), tab (b.size + 1) (pA a b (i + 1))) := by
  have hm : (maxEl : Int) ≥ 100000 := by decide
  simp only [q66_L6, runO]
  refine loop_at (N := b.size) (st := fun n => (a, b, (i : Int), (n : Int), tab (b.size + 1) (pA a b i), tab (n + 1) (pA a b (i + 1)))) ?_ ?_ ?_
  · have : tab 1 (pA a b (i + 1)) = [((i + 1 : Nat) : Int)] := by simp only [tab, List.range_one, List.map_cons, List.map_nil, pA_i0 a b (i + 1) (by omega)]
    simp only [Nat.zero_add, this]; rfl
  · simp only [q66_L6_s]
    rw [cF _ _ (by omega)]
  · intro n hn
    have e1 : IntKind.wrap .i64 ((n : Int) + 1) = ((n + 1 : Nat) : Int) := by rw [wr6 (by omega) (by omega)]; omega
    have b1 := pA_le a b i n
    have b2 := pA_le a b i (n + 1)
    have b3 := pA_le a b (i + 1) n
    have st := pA_step a b i n hi hn
    simp only [q66_L6_s, e1, tab_len, Int.toNat_natCast, q66_J11, List.length_cons, List.length_nil]
    rw [cT _ _ (by omega), chkT _ (by omega), chkT _ (by omega), chkT _ (by omega)]
    have g1 : (tab (b.size + 1) (pA a b i)).getD n 0 = pA a b i n := tab_get _ _ _ _ (by omega)
    have g2 : (tab (b.size + 1) (pA a b i)).getD (n + 1) 0 = pA a b i (n + 1) := tab_get _ _ _ _ (by omega)
    have g3 : (tab (n + 1) (pA a b (i + 1))).getD n 0 = pA a b (i + 1) n := tab_get _ _ _ _ (by omega)
    rw [g1, g2, g3, wr6 (n := pA a b i n + 1) (by omega) (by omega), wr6 (n := pA a b i (n + 1) + 1) (by omega) (by omega), wr6 (n := pA a b (i + 1) n + 1) (by omega) (by omega)]
    by_cases c : byteI a i = byteI b n
    · rw [if_pos c] at st
      simp only [c, decide_true, Bool.not_true, cond_false]
      rw [chkT _ (by omega), chkT _ (by omega), chkT _ (by omega), ← st, tab_snoc]
      simp only [bindS, e1]
    · rw [if_neg c] at st
      simp only [c, decide_false, Bool.not_false, cond_true]
      rw [chkT _ (by omega), chkT _ (by omega), chkT _ (by omega), ← st, tab_snoc]
      simp only [bindS, e1]
theorem refDist (a b : ByteArray) (ha : a.size ≤ 1000) (hb : b.size ≤ 1000) : q66 loO a b = some ((ed (bl a) (bl b) : Nat) : Int) := by
  have hm : (maxEl : Int) ≥ 100000 := by decide
  have p1 : q66_L20 loO (a, b, (0 : Int), []) = some (a, b, tab (b.size + 1) (pA a b 0)) := by
    simp only [q66_L20, runO]
    refine loop_at (N := b.size + 1) (st := fun n => (a, b, (n : Int), tab n (fun k => (k : Int)))) rfl ?_ ?_
    · simp only [q66_L20_s]
      rw [cF _ _ (by omega)]
      refine congrArg (fun d => some (Sum.inr (a, b, d))) (tab_congr fun k hk => ?_)
      rw [pA_0 a b k (by omega)]
    · intro n hn
      have e1 : IntKind.wrap .i64 ((n : Int) + 1) = ((n + 1 : Nat) : Int) := by rw [wr6 (by omega) (by omega)]; omega
      simp only [q66_L20_s, tab_len, List.length_cons, List.length_nil]
      rw [cT _ _ (by omega), chkT _ (by omega), e1]
      exact congrArg (fun d => some (Sum.inl (a, b, ((n + 1 : Nat) : Int), d))) (tab_snoc n (fun k => (k : Int)))
  have p2 : q66_L3 loO (a, b, (0 : Int), tab (b.size + 1) (pA a b 0)) = some (b, tab (b.size + 1) (pA a b a.size)) := by
    simp only [q66_L3, runO]
    refine loop_at (N := a.size) (st := fun n => (a, b, (n : Int), tab (b.size + 1) (pA a b n))) rfl ?_ ?_
    · simp only [q66_L3_s]
      rw [cF _ _ (by omega)]
    · intro n hn
      have e1 : IntKind.wrap .i64 ((n : Int) + 1) = ((n + 1 : Nat) : Int) := by rw [wr6 (by omega) (by omega)]; omega
      simp only [q66_L3_s, e1]
      rw [cT _ _ (by omega), refRow a b ha hb n hn]
      simp only [bindS, e1]
  simp only [q66, p1, p2, bindS, tab_len, Int.toNat_natCast]
  rw [chkT _ (by omega), tab_get _ _ _ _ (by omega)]
  simp only [pA]
  rw [List.take_of_length_le (by rw [bl_len]; exact Nat.le_refl _), List.take_of_length_le (by rw [bl_len]; exact Nat.le_refl _)]
end Go.Abs.G52
namespace Go.Abs.G52
open Go Go.Abs
set_option linter.unusedSimpArgs false
set_option linter.unusedVariables false
theorem bl_app (a b : ByteArray) : bl (a ++ b) = bl a ++ bl b := by simp [bl, ByteArray.data_append]
theorem bl_byte (a : ByteArray) (i : Nat) : bl (bytesB [byteI a i]) = [a.data.getD i 0] := by
  simp only [bl, bytesB, byteI, List.map_cons, List.map_nil, Int.toNat_natCast, UInt8.ofNat_toNat]
end Go.Abs.G52
namespace Go.Abs.G52
open Go Go.Abs
set_option linter.unusedSimpArgs false
set_option linter.unusedVariables false
set_option linter.unusedSectionVars false
theorem tn1 (n : Nat) : ((n : Int) + 1).toNat = n + 1 := by omega
theorem dT_len (a b : ByteArray) (f : Nat → Nat → Int) : (dTab a b f).length = a.size + 1 := tab_len _ _
theorem dT_get (a b : ByteArray) (f : Nat → Nat → Int) (r : Nat) (h : r < a.size + 1) : (dTab a b f).getD r [] = tab (b.size + 1) (f r) := tab_get _ _ _ _ h
section
variable (a b : ByteArray) (ha : a.size ≤ 200) (hb : b.size ≤ 200) (i j : Nat) (hi : i ≤ a.size) (hj : j ≤ b.size) (out : List (Int × Int × Int)) (ho : out.length ≤ 1000)
include ha hb hi hj ho
theorem sc_m (h1 : i < a.size) (h2 : j < b.size) (h3 : byteI a i = byteI b j) : q68_L3_s loO (a, b, dTab a b (eA a b), (i : Int), (j : Int), out) = some (.inl (a, b, dTab a b (eA a b), (i : Int) + 1, (j : Int) + 1, out)) := by
  simp (disch := omega) only [q68_L3_s, cT, cF, chkT, wr6]
theorem sc_i (h2 : j < b.size) (h3 : ¬ (i < a.size ∧ byteI a i = byteI b j)) (h4 : eA a b i j = 1 + eA a b i (j + 1)) : q68_L3_s loO (a, b, dTab a b (eA a b), (i : Int), (j : Int), out) = some (.inl (a, b, dTab a b (eA a b), (i : Int), (j : Int) + 1, out ++ [((i : Int), (-1 : Int), byteI b j)])) := by
  have hm : (maxEl : Int) ≥ 100000 := by decide
  have b1 := byteI_lt b j
  have b2 := eA_le a b i (j + 1)
  by_cases h1 : i < a.size
  · have h3' : ¬ byteI a i = byteI b j := fun e => h3 ⟨h1, e⟩
    simp (disch := omega) only [q68_L3_s, cT, cF, chkT, wr6, dT_len, dT_get, Int.toNat_natCast, tn1, tab_len, tab_get, List.length_cons, List.length_nil]
  · simp (disch := omega) only [q68_L3_s, cT, cF, chkT, wr6, dT_len, dT_get, Int.toNat_natCast, tn1, tab_len, tab_get, List.length_cons, List.length_nil]
theorem sc_s (h1 : i < a.size) (h2 : j < b.size) (h3 : ¬ byteI a i = byteI b j) (h4 : ¬ eA a b i j = 1 + eA a b i (j + 1)) (h5 : eA a b i j = 1 + eA a b (i + 1) (j + 1)) : q68_L3_s loO (a, b, dTab a b (eA a b), (i : Int), (j : Int), out) = some (.inl (a, b, dTab a b (eA a b), (i : Int) + 1, (j : Int) + 1, out ++ [((i : Int), byteI a i, byteI b j)])) := by
  have hm : (maxEl : Int) ≥ 100000 := by decide
  have b0 := byteI_lt a i
  have b1 := byteI_lt b j
  have b2 := eA_le a b i (j + 1)
  have b3 := eA_le a b (i + 1) (j + 1)
  simp (disch := omega) only [q68_L3_s, cT, cF, chkT, wr6, dT_len, dT_get, Int.toNat_natCast, tn1, tab_len, tab_get, List.length_cons, List.length_nil]
theorem sc_d (h1 : i < a.size) (h3 : j < b.size → ¬ byteI a i = byteI b j ∧ ¬ eA a b i j = 1 + eA a b i (j + 1) ∧ ¬ eA a b i j = 1 + eA a b (i + 1) (j + 1)) : q68_L3_s loO (a, b, dTab a b (eA a b), (i : Int), (j : Int), out) = some (.inl (a, b, dTab a b (eA a b), (i : Int) + 1, (j : Int), out ++ [((i : Int), byteI a i, (-1 : Int))])) := by
  have hm : (maxEl : Int) ≥ 100000 := by decide
  have b0 := byteI_lt a i
  have b2 := eA_le a b i (j + 1)
  have b3 := eA_le a b (i + 1) (j + 1)
  by_cases h2 : j < b.size
  · obtain ⟨c1, c2, c3⟩ := h3 h2
    simp (disch := omega) only [q68_L3_s, cT, cF, chkT, wr6, dT_len, dT_get, Int.toNat_natCast, tn1, tab_len, tab_get, List.length_cons, List.length_nil]
  · simp (disch := omega) only [q68_L3_s, cT, cF, chkT, wr6, dT_len, dT_get, Int.toNat_natCast, tn1, tab_len, tab_get, List.length_cons, List.length_nil]
end
theorem sc_e (a b : ByteArray) (i j : Nat) (h1 : ¬ i < a.size) (h2 : ¬ j < b.size) (d : List (List Int)) (out : List (Int × Int × Int)) : q68_L3_s loO (a, b, d, (i : Int), (j : Int), out) = some (.inr out) := by
  simp (disch := omega) only [q68_L3_s, cT, cF]
def seg (a : ByteArray) (i j : Nat) : List UInt8 := ((bl a).drop i).take (j - i)
theorem seg_nil (a : ByteArray) (i : Nat) : seg a i i = [] := by simp [seg]
theorem seg_succ (a : ByteArray) (i j : Nat) (hij : i ≤ j) (hj : j < a.size) : seg a i (j + 1) = seg a i j ++ [a.data.getD j 0] := by
  have e := bl_take a j hj
  have h1 : ∀ k, i ≤ k → seg a i k = ((bl a).take k).drop i := fun k hk => by rw [seg, List.take_drop, show i + (k - i) = k by omega]
  rw [h1 _ (by omega), h1 _ hij, e, List.drop_append_of_le_length (by rw [List.length_take, bl_len]; omega)]
theorem bl_ext (a : ByteArray) (i j : Nat) : bl (a.extract i j) = seg a i j := by
  simp only [bl, seg, ByteArray.data_extract, Array.toList_extract, List.extract_eq_take_drop]
theorem bl_byte2 (a : ByteArray) (i : Nat) : bl (bytesB [byteI a i]) = [a.data.getD i 0] := bl_byte a i
theorem apS_i (a : ByteArray) (at' i : Nat) (n : Int) (out : ByteArray) (h : at' ≤ i) (hi : i ≤ a.size) (hn : 0 ≤ n ∧ n < 256) : apStep a i (-1) n at' out = some ((i : Int), out ++ a.extract at' i ++ bytesB [n]) := by
  unfold apStep
  rw [if_neg (by omega), if_neg (by omega), if_pos hn.1, Int.toNat_natCast, Int.toNat_natCast]
theorem apS_s (a : ByteArray) (at' i : Nat) (n : Int) (out : ByteArray) (h : at' ≤ i) (hi : i < a.size) (hn : 0 ≤ n ∧ n < 256) : apStep a i (byteI a i) n at' out = some (((i + 1 : Nat) : Int), out ++ a.extract at' i ++ bytesB [n]) := by
  have b0 := byteI_lt a i
  unfold apStep
  rw [if_neg (by omega), if_pos b0.1, if_pos hn.1, Int.toNat_natCast, Int.toNat_natCast]; rfl
theorem apS_d (a : ByteArray) (at' i : Nat) (out : ByteArray) (h : at' ≤ i) (hi : i < a.size) : apStep a i (byteI a i) (-1) at' out = some (((i + 1 : Nat) : Int), out ++ a.extract at' i) := by
  have b0 := byteI_lt a i
  unfold apStep
  rw [if_neg (by omega), if_pos b0.1, if_neg (by omega), Int.toNat_natCast, Int.toNat_natCast]; rfl
def ScrOK (a b : ByteArray) (i j : Nat) (out : List (Int × Int × Int)) : Prop :=
  ∃ l, q68_L3 loO (a, b, dTab a b (eA a b), (i : Int), (j : Int), out) = some (out ++ l) ∧ (l.length : Int) = eA a b i j ∧
      ∀ (at' : Nat) (o : ByteArray), at' ≤ i → ∃ (e : Nat) (o2 : ByteArray), apRun a l at' o = some ((e : Int), o2) ∧ e ≤ a.size ∧ bl o2 ++ seg a e a.size = bl o ++ seg a at' i ++ (bl b).drop j
theorem scr_walk (a b : ByteArray) (ha : a.size ≤ 200) (hb : b.size ≤ 200) : ∀ (k i j : Nat) (out : List (Int × Int × Int)), (a.size - i) + (b.size - j) = k → i ≤ a.size → j ≤ b.size → out.length ≤ i + j → ScrOK a b i j out
  | k, i, j, out, hk, hi, hj, ho => by
    have unf : ∀ s, q68_L3_s loO (a, b, dTab a b (eA a b), (i : Int), (j : Int), out) = some (.inl s) → q68_L3 loO (a, b, dTab a b (eA a b), (i : Int), (j : Int), out) = q68_L3 loO s := by
      intro s hs
      simp only [q68_L3, runO]
      rw [loopO_eq, hs]
    have go_i : j < b.size → ¬ (i < a.size ∧ byteI a i = byteI b j) → eA a b i j = 1 + eA a b i (j + 1) → ScrOK a b i j out := fun h2 h3 h4 => by
      obtain ⟨l, g1, g2, g3⟩ := scr_walk a b ha hb (k - 1) i (j + 1) (out ++ [((i : Int), (-1 : Int), byteI b j)]) (by omega) (by omega) (by omega) (by simp; omega)
      have g0 : q68_L3 loO (a, b, dTab a b (eA a b), (i : Int), (j : Int), out) = some (out ++ (((i : Int), (-1 : Int), byteI b j) :: l)) := by
        rw [unf _ (sc_i a b ha hb i j hi hj out (by omega) h2 h3 h4)]
        exact g1.trans (by rw [List.append_assoc]; rfl)
      refine ⟨_, g0, by simp only [List.length_cons]; omega, fun at' o hat => ?_⟩
      obtain ⟨e, o2, r1, r2, r3⟩ := g3 i (o ++ a.extract at' i ++ bytesB [byteI b j]) (Nat.le_refl _)
      refine ⟨e, o2, by simp only [apRun, apS_i a at' i _ o hat hi (byteI_lt b j)]; exact r1, r2, ?_⟩
      rw [r3, bl_app, bl_app, bl_ext, bl_byte2, seg_nil, bl_get b j h2]
      simp
    have go_d : i < a.size → (j < b.size → ¬ byteI a i = byteI b j ∧ ¬ eA a b i j = 1 + eA a b i (j + 1) ∧ ¬ eA a b i j = 1 + eA a b (i + 1) (j + 1)) → eA a b i j = 1 + eA a b (i + 1) j → ScrOK a b i j out := fun h1 h3 h4 => by
      obtain ⟨l, g1, g2, g3⟩ := scr_walk a b ha hb (k - 1) (i + 1) j (out ++ [((i : Int), byteI a i, (-1 : Int))]) (by omega) (by omega) (by omega) (by simp; omega)
      have g0 : q68_L3 loO (a, b, dTab a b (eA a b), (i : Int), (j : Int), out) = some (out ++ (((i : Int), byteI a i, (-1 : Int)) :: l)) := by
        rw [unf _ (sc_d a b ha hb i j hi hj out (by omega) h1 h3)]
        exact g1.trans (by rw [List.append_assoc]; rfl)
      refine ⟨_, g0, by simp only [List.length_cons]; omega, fun at' o hat => ?_⟩
      obtain ⟨e, o2, r1, r2, r3⟩ := g3 (i + 1) (o ++ a.extract at' i) (Nat.le_refl _)
      refine ⟨e, o2, by simp only [apRun, apS_d a at' i o hat h1]; exact r1, r2, ?_⟩
      rw [r3, bl_app, bl_ext, seg_nil]
      simp
    by_cases h1 : i < a.size
    · by_cases h2 : j < b.size
      · by_cases h3 : byteI a i = byteI b j
        · obtain ⟨l, g1, g2, g3⟩ := scr_walk a b ha hb (k - 2) (i + 1) (j + 1) out (by omega) (by omega) (by omega) (by omega)
          refine ⟨l, by rw [unf _ (sc_m a b ha hb i j hi hj out (by omega) h1 h2 h3)]; exact g1, by rw [g2, eA_eq a b i j h1 h2 h3], fun at' o hat => ?_⟩
          obtain ⟨e, o2, r1, r2, r3⟩ := g3 at' o (by omega)
          refine ⟨e, o2, r1, r2, ?_⟩
          rw [r3, seg_succ a at' i hat h1, bl_get b j h2, (byteI_eq a b i j).1 h3]
          simp
        · have st := eA_ne a b i j h1 h2 h3
          by_cases h4 : eA a b i j = 1 + eA a b i (j + 1)
          · exact go_i h2 (fun e => h3 e.2) h4
          · by_cases h5 : eA a b i j = 1 + eA a b (i + 1) (j + 1)
            · obtain ⟨l, g1, g2, g3⟩ := scr_walk a b ha hb (k - 2) (i + 1) (j + 1) (out ++ [((i : Int), byteI a i, byteI b j)]) (by omega) (by omega) (by omega) (by simp; omega)
              have g0 : q68_L3 loO (a, b, dTab a b (eA a b), (i : Int), (j : Int), out) = some (out ++ (((i : Int), byteI a i, byteI b j) :: l)) := by
                rw [unf _ (sc_s a b ha hb i j hi hj out (by omega) h1 h2 h3 h4 h5)]
                exact g1.trans (by rw [List.append_assoc]; rfl)
              refine ⟨_, g0, by simp only [List.length_cons]; omega, fun at' o hat => ?_⟩
              obtain ⟨e, o2, r1, r2, r3⟩ := g3 (i + 1) (o ++ a.extract at' i ++ bytesB [byteI b j]) (Nat.le_refl _)
              refine ⟨e, o2, by simp only [apRun, apS_s a at' i _ o hat h1 (byteI_lt b j)]; exact r1, r2, ?_⟩
              rw [r3, bl_app, bl_app, bl_ext, bl_byte2, seg_nil, bl_get b j h2]
              simp
            · exact go_d h1 (fun _ => ⟨h3, h4, h5⟩) (by omega)
      · have : j = b.size := by omega
        refine go_d h1 (fun h => absurd h h2) ?_
        rw [this, eA_end2 a b i hi, eA_end2 a b (i + 1) (by omega)]; omega
    · by_cases h2 : j < b.size
      · have : i = a.size := by omega
        refine go_i h2 (fun h => h1 h.1) ?_
        rw [this, eA_end1 a b j hj, eA_end1 a b (j + 1) (by omega)]; omega
      · have e1 : i = a.size := by omega
        have e2 : j = b.size := by omega
        refine ⟨[], ?_, ?_, fun at' o hat => ⟨at', o, rfl, by omega, ?_⟩⟩
        · simp only [q68_L3, runO]
          rw [loopO_eq, sc_e a b i j h1 h2, List.append_nil]
        · rw [e2, eA_end2 a b i hi]; simp; omega
        · have : (bl b).drop j = [] := List.drop_eq_nil_of_le (by rw [bl_len]; omega)
          rw [this, e1, List.append_nil]
termination_by k => k
decreasing_by all_goals omega
theorem ap_size (a : ByteArray) (b : Int) (o : ByteArray) : ∀ (l : List (Int × Int × Int)) (at' : Int) (out : ByteArray) (i : Int), apRun a l at' out = some (b, o) → 0 ≤ at' → at' ≤ a.size → (out.size : Int) ≤ at' + i → 0 ≤ b ∧ b ≤ a.size ∧ (o.size : Int) ≤ b + (i + l.length) := by
  intro l
  induction l with
  | nil => intro at' out i h h0 h1 h2; simp only [apRun] at h; injection h with h; injection h with e1 e2; subst e1; subst e2; simp; omega
  | cons e r ih =>
    intro at' out i h h0 h1 h2
    obtain ⟨off, old, new⟩ := e
    simp only [apRun] at h
    cases hs : apStep a off old new at' out with
    | none => rw [hs] at h; cases h
    | some q =>
      obtain ⟨b', o'⟩ := q
      rw [hs] at h
      obtain ⟨g0, g1, g2⟩ := apStep_inv hs h0 h1 h2
      have := ih b' o' (i + 1) h g0 g1 g2
      simp only [List.length_cons]
      omega
theorem ap_val (a : ByteArray) (l : List (Int × Int × Int)) (ha : a.size ≤ 200) (hl : l.length ≤ 400) (e : Nat) (o : ByteArray) (hr : apRun a l 0 (ByteArray.mk #[]) = some ((e : Int), o)) :
    q40 loO a l = some (o ++ a.extract e a.size, 0) ∧ q55 loO a l = some (o ++ a.extract e a.size, 0) := by
  have h : ¬ (200 : Int) < a.size := by omega
  have h2 : ¬ (400 : Int) < l.length := by omega
  have e1 := simLoop a l (by omega) (by omega) l.length 0 0 (ByteArray.mk #[]) (by omega) (by omega) (by omega) (by omega) (by simp [ByteArray.size])
  have e2 := refLoop a l (by omega) (by omega) l.length 0 0 (ByteArray.mk #[]) (by omega) (by omega) (by omega) (by omega) (by simp [ByteArray.size])
  have z : ((0 : Nat) : Int) = 0 := rfl
  rw [z, List.drop_zero, hr] at e1 e2
  obtain ⟨g0, g1, g2⟩ := ap_size a _ o l 0 _ 0 hr (by omega) (by omega) (by simp [ByteArray.size])
  have hs : (a.extract e a.size).size = a.size - e := ext_size _ _ _ (by omega) (by omega)
  simp only [q40, q55, long1, q54, Option.bind_some, h, decide_false, cond_false, h2, q40_L3, q55_L3, runO]
  rw [e1, e2]
  simp only [Option.bind_some, alt2_r, q37, Int.toNat_natCast]
  rw [chk_t _ (show (0 : Int) ≤ (e : Int) ∧ (e : Int) ≤ (a.size : Int) ∧ (a.size : Int) ≤ (a.size : Int) from ⟨g0, g1, Int.le_refl _⟩), chk_t _ (ble_of (by omega))]
  exact ⟨rfl, rfl⟩
theorem script_law (a b : ByteArray) : q69 loO a b = some true := by
  simp only [q69, aw, Option.bind_some, Bool.not_true, cond_false]
  by_cases h1 : (30 : Int) < a.size
  · simp [h1]
  by_cases h2 : (30 : Int) < b.size
  · simp [h1, h2]
  rw [cF _ _ h1, cF _ _ h2]
  obtain ⟨l, g1, g2, g3⟩ := scr_walk a b (by omega) (by omega) _ 0 0 [] rfl (by omega) (by omega) (by simp)
  have g1 : q68_L3 loO (a, b, dTab a b (eA a b), (0 : Int), (0 : Int), []) = some l := g1
  obtain ⟨e, o, r1, r2, r3⟩ := g3 0 (ByteArray.mk #[]) (Nat.le_refl _)
  have b1 := eA_le a b 0 0
  obtain ⟨v1, v2⟩ := ap_val a l (by omega) (by omega) e o r1
  have hb : o ++ a.extract e a.size = b := by
    apply bl_inj
    rw [bl_app, bl_ext, r3, seg_nil]
    simp [bl]
  rw [hb] at v1 v2
  have hl : (decide ((200 : Int) < a.size) || decide ((200 : Int) < b.size)) = false := by simp; omega
  have hlen : (l.length : Int) = ((ed (bl a) (bl b) : Nat) : Int) := by rw [g2]; simp [eA]
  simp only [q68, long2, hl, bindS, cond_false, dist_tab a b (by omega) (by omega), g1, v1, v2, refDist a b (by omega) (by omega), decide_true, cond_true, hlen]
end Go.Abs.G52
