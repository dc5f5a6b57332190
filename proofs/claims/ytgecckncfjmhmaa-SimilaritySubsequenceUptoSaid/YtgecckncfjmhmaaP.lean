/- Plain law: Apply of both texts. No condition. -/
import Derived.Test.YtgecckncfjmhmaaG1
import Derived.Test.YtgecckncfjmhmaaB
import Derived.RowKit
set_option linter.unusedVariables false
set_option linter.unusedSimpArgs false
set_option linter.unusedSectionVars false
namespace Go.Abs.G52
open Go Go.Abs
set_option linter.unusedSimpArgs false
set_option linter.unusedVariables false
theorem wr64 {n : Int} (h0 : -9223372036854775808 ≤ n) (h1 : n < 9223372036854775808) : IntKind.wrap .i64 n = n := by
  have e : (2 : Int) ^ IntKind.bits .i64 = 18446744073709551616 := rfl
  have e' : (2 : Int) ^ (IntKind.bits .i64 - 1) = 9223372036854775808 := rfl
  have s : IntKind.signed .i64 = true := rfl
  simp only [IntKind.wrap, e, e', s, Bool.true_and, ge_iff_le, decide_eq_true_eq]
  split <;> omega
theorem chk_t {β : Type} {p : Prop} [Decidable p] (x : Option β) (h : p) : chk p x = x := by simp [chk, h]
theorem byteI_lt (s : ByteArray) (n : Int) : 0 ≤ byteI s n ∧ byteI s n < 256 := by
  unfold byteI
  have := (s.data.getD n.toNat 0).toNat_lt
  omega
theorem bb_size (n : Int) : (bytesB [n]).size = 1 := rfl
theorem inB1 {n : Int} (h0 : 0 ≤ n) (h1 : n < 256) : inB [n] = true := by simp [inB, h0, h1]
theorem wb_eq (c : Int) (h : ByteArray) (h0 : 0 ≤ c) (h1 : c < 256) (hs : h.size + 1 ≤ 1048576) : q36 loO c h = some (h ++ bytesB [c]) := by
  simp only [q36, q35, Option.bind_some]
  rw [chk_t _ trivial, inB1 h0 h1, cond_true, chk_t _ (by simp only [maxEl, List.length_cons, List.length_nil]; omega)]
end Go.Abs.G52
namespace Go.Abs.G52
open Go Go.Abs
set_option linter.unusedSimpArgs false
set_option linter.unusedVariables false
theorem aw : q51 loO = some true := (congrArg q51 (loM_eq 400)).symm.trans (show q51 (loM 400) = some true by kernel_rfl)
theorem runO {S R : Type} (step : S → Option (S ⊕ R)) (x : S) : loO.run step x = loopO step x := rfl
end Go.Abs.G52
namespace Go.Abs
set_option linter.unusedVariables false
inductive Al {α : Type} : List α → List α → Nat → Prop
  | nil : Al [] [] 0
  | mt {a b n} (x) : Al a b n → Al (x :: a) (x :: b) n
  | sb {a b n} (x y) : Al a b n → Al (x :: a) (y :: b) (n + 1)
  | dl {a b n} (x) : Al a b n → Al (x :: a) b (n + 1)
  | is {a b n} (y) : Al a b n → Al a (y :: b) (n + 1)
  | up {a b n} : Al a b n → Al a b (n + 1)
variable {α : Type}
theorem Al.ups {a b : List α} {n m : Nat} (h : Al a b n) (hle : n ≤ m) : Al a b m := by
  obtain ⟨k, rfl⟩ := Nat.exists_eq_add_of_le hle
  clear hle
  induction k with
  | zero => exact h
  | succ k ih => exact ih.up
theorem Al.sym {a b : List α} {n : Nat} (h : Al a b n) : Al b a n := by
  induction h with
  | nil => exact .nil
  | mt x _ ih => exact .mt x ih
  | sb x y _ ih => exact .sb y x ih
  | dl x _ ih => exact .is x ih
  | is y _ ih => exact .dl y ih
  | up _ ih => exact .up ih
theorem Al.len {a b : List α} {n : Nat} (h : Al a b n) : a.length ≤ b.length + n := by
  induction h with
  | nil => exact Nat.le_refl _
  | mt x _ ih => simp only [List.length_cons] at *; omega
  | sb x y _ ih => simp only [List.length_cons] at *; omega
  | dl x _ ih => simp only [List.length_cons] at *; omega
  | is y _ ih => simp only [List.length_cons] at *; omega
  | up _ ih => omega
theorem Al.app {a b : List α} {n : Nat} (h : Al a b n) : ∀ {u v : List α} {m : Nat}, Al u v m → Al (a ++ u) (b ++ v) (n + m) := by
  induction h with
  | nil => intro u v m k; simpa using k
  | mt x _ ih => intro u v m k; exact .mt x (ih k)
  | sb x y _ ih => intro u v m k; have := Al.sb x y (ih k); rw [Nat.add_right_comm] at this; exact this
  | dl x _ ih => intro u v m k; have := Al.dl x (ih k); rw [Nat.add_right_comm] at this; exact this
  | is x _ ih => intro u v m k; have := Al.is x (ih k); rw [Nat.add_right_comm] at this; exact this
  | up _ ih => intro u v m k; have := Al.up (ih k); rw [Nat.add_right_comm] at this; exact this
theorem Al.tl1 {x : α} : ∀ {c b : List α} {n : Nat}, Al c b n → ∀ {a}, c = x :: a → Al a b (n + 1) := by
  intro c b n h
  induction h with
  | nil => intro a e; cases e
  | mt y h _ => intro a e; cases e; exact .is _ h
  | sb y z h _ => intro a e; cases e; exact .up (.is _ h)
  | dl y h _ => intro a e; cases e; exact .up (.up h)
  | is y h ih => intro a e; exact .is y (ih e)
  | up h ih => intro a e; exact .up (ih e)
theorem Al.tl {x : α} {a b : List α} {n : Nat} (h : Al (x :: a) b n) : Al a b (n + 1) := h.tl1 rfl
theorem Al.tr {x : α} {a b : List α} {n : Nat} (h : Al a (x :: b) n) : Al a b (n + 1) := h.sym.tl.sym
theorem Al.cut1 {x : α} : ∀ {c d : List α} {n : Nat}, Al c d n → ∀ {a b}, c = x :: a → d = x :: b → Al a b n := by
  intro c d n h
  induction h with
  | nil => intro a b e; cases e
  | mt y h _ => intro a b e f; cases e; cases f; exact h
  | sb y z h _ => intro a b e f; cases e; cases f; exact .up h
  | dl y h _ => intro a b e f; cases e; subst f; exact h.tr
  | is y h _ => intro a b e f; cases f; subst e; exact h.tl
  | up h ih => intro a b e f; exact .up (ih e f)
theorem Al.cut {x : α} {a b : List α} {n : Nat} (h : Al (x :: a) (x :: b) n) : Al a b n := h.cut1 rfl rfl
theorem Al.ne1 {x y : α} (hne : x ≠ y) : ∀ {c d : List α} {n : Nat}, Al c d n → ∀ {a b}, c = x :: a → d = y :: b → ∃ m, n = m + 1 ∧ (Al a b m ∨ Al a (y :: b) m ∨ Al (x :: a) b m) := by
  intro c d n h
  induction h with
  | nil => intro a b e; cases e
  | mt z h _ => intro a b e f; cases e; cases f; exact absurd rfl hne
  | @sb _ _ n u v h _ => intro a b e f; cases e; cases f; exact ⟨n, rfl, .inl h⟩
  | @dl _ _ n u h _ => intro a b e f; cases e; subst f; exact ⟨n, rfl, .inr (.inl h)⟩
  | @is _ _ n u h _ => intro a b e f; cases f; subst e; exact ⟨n, rfl, .inr (.inr h)⟩
  | @up _ _ n h ih =>
    intro a b e f
    obtain ⟨m, rfl, k⟩ := ih e f
    exact ⟨m + 1, rfl, k.imp Al.up (Or.imp Al.up Al.up)⟩
theorem Al.ne {x y : α} (hne : x ≠ y) {a b : List α} {n : Nat} (h : Al (x :: a) (y :: b) n) : ∃ m, n = m + 1 ∧ (Al a b m ∨ Al a (y :: b) m ∨ Al (x :: a) b m) := h.ne1 hne rfl rfl
theorem Al.trans {a b : List α} {n : Nat} (h : Al a b n) : ∀ {c : List α} {m : Nat}, Al b c m → Al a c (n + m) := by
  induction h with
  | nil => intro c m k; simpa using k
  | @mt a b n x h ih =>
    intro c m k
    have : ∀ {d c : List α} {m : Nat}, Al d c m → d = x :: b → Al (x :: a) c (n + m) := by
      intro d c m k
      induction k with
      | nil => intro e; cases e
      | mt z k _ => intro e; cases e; exact .mt _ (ih k)
      | sb z w k _ => intro e; cases e; exact .sb _ _ (ih k)
      | dl z k _ => intro e; cases e; exact .dl _ (ih k)
      | is z k ih2 => intro e; exact .is _ (ih2 e)
      | up k ih2 => intro e; exact .up (ih2 e)
    exact this k rfl
  | @sb a b n x y h ih =>
    intro c m k
    have : ∀ {d c : List α} {m : Nat}, Al d c m → d = y :: b → Al (x :: a) c (n + 1 + m) := by
      intro d c m k
      induction k with
      | nil => intro e; cases e
      | mt z k _ => intro e; cases e; exact (Al.sb _ _ (ih k)).ups (by omega)
      | sb z w k _ => intro e; cases e; exact (Al.sb _ _ (ih k)).ups (by omega)
      | dl z k _ => intro e; cases e; exact (Al.dl _ (ih k)).ups (by omega)
      | is z k ih2 => intro e; exact .is _ (ih2 e)
      | up k ih2 => intro e; exact .up (ih2 e)
    exact this k rfl
  | dl x _ ih => intro c m k; exact (Al.dl x (ih k)).ups (by omega)
  | is y _ ih => intro c m k; exact (ih k.tl).ups (by omega)
  | up _ ih => intro c m k; exact (ih k).ups (by omega)
theorem Al.zero {a b : List α} {n : Nat} (h : Al a b n) : n = 0 → a = b := by
  induction h with
  | nil => intro _; rfl
  | mt x _ ih => intro e; rw [ih e]
  | sb x y _ ih | dl x _ ih | is y _ ih | up _ ih => intro e; omega
variable [DecidableEq α]
def ed : List α → List α → Nat
  | [], b => b.length
  | x :: a, [] => a.length + 1
  | x :: a, y :: b => if x = y then ed a b else 1 + min (ed a b) (min (ed a (y :: b)) (ed (x :: a) b))
termination_by a b => a.length + b.length
theorem ed_nil (a : List α) : ed a [] = a.length := by cases a <;> simp [ed]
theorem ed_le : ∀ (a b : List α) {n : Nat}, Al a b n → ed a b ≤ n
  | [], b, n, h => by rw [ed]; have := h.sym.len; simpa using this
  | x :: a, [], n, h => by rw [ed]; have := h.len; simpa using this
  | x :: a, y :: b, n, h => by
    rw [ed]
    split
    · rename_i e; subst e; exact ed_le a b h.cut
    · rename_i e
      obtain ⟨m, rfl, k⟩ := h.ne e
      rcases k with k | k | k
      · have := ed_le a b k; omega
      · have := ed_le a (y :: b) k; omega
      · have := ed_le (x :: a) b k; omega
termination_by a b => a.length + b.length
theorem ed_max : ∀ a b : List α, ed a b ≤ max a.length b.length
  | [], b => by rw [ed]; simp
  | x :: a, [] => by rw [ed]; simp
  | x :: a, y :: b => by
    have := ed_max a b
    rw [ed]
    simp only [List.length_cons]
    split <;> omega
def lcs : List α → List α → Nat
  | [], _ => 0
  | _ :: _, [] => 0
  | x :: a, y :: b => if x = y then 1 + lcs a b else max (lcs a (y :: b)) (lcs (x :: a) b)
termination_by a b => a.length + b.length
theorem lcs_nil (a : List α) : lcs a [] = 0 := by cases a <;> simp [lcs]
def sub2 : List α → List α → List α
  | [], _ => []
  | _ :: _, [] => []
  | x :: a, y :: b => if x = y then x :: sub2 a b else if lcs (x :: a) b ≤ lcs a (y :: b) then sub2 a (y :: b) else sub2 (x :: a) b
termination_by a b => a.length + b.length
theorem sub2_l : ∀ a b : List α, (sub2 a b).Sublist a
  | [], b => by rw [sub2]; exact .slnil
  | x :: a, [] => by rw [sub2]; exact List.nil_sublist _
  | x :: a, y :: b => by
    rw [sub2]
    split
    · exact (sub2_l a b).cons_cons x
    · split
      · exact (sub2_l a (y :: b)).cons x
      · exact sub2_l (x :: a) b
termination_by a b => a.length + b.length
theorem sub2_r : ∀ a b : List α, (sub2 a b).Sublist b
  | [], b => by rw [sub2]; exact List.nil_sublist _
  | x :: a, [] => by rw [sub2]; exact .slnil
  | x :: a, y :: b => by
    rw [sub2]
    split
    · rename_i h; subst h; exact (sub2_r a b).cons_cons x
    · split
      · exact sub2_r a (y :: b)
      · exact (sub2_r (x :: a) b).cons y
termination_by a b => a.length + b.length
theorem sub2_len : ∀ a b : List α, (sub2 a b).length = lcs a b
  | [], b => by rw [sub2, lcs]; rfl
  | x :: a, [] => by rw [sub2, lcs]; rfl
  | x :: a, y :: b => by
    rw [sub2, lcs]
    split
    · rw [List.length_cons, sub2_len a b, Nat.add_comm]
    · split
      · rw [sub2_len a (y :: b)]; omega
      · rw [sub2_len (x :: a) b]; omega
termination_by a b => a.length + b.length
omit [DecidableEq α] in
theorem sub_tl {x z : α} {s a : List α} (h : (z :: s).Sublist (x :: a)) : s.Sublist a := by
  cases h with
  | cons _ h => exact (List.sublist_cons_self z s).trans h
  | cons_cons _ h => exact h
theorem lcs_ge : ∀ (a b : List α) {s : List α}, s.Sublist a → s.Sublist b → s.length ≤ lcs a b
  | [], b, s, h, k => by rw [List.sublist_nil.1 h]; exact Nat.zero_le _
  | x :: a, [], s, h, k => by rw [List.sublist_nil.1 k]; exact Nat.zero_le _
  | x :: a, y :: b, s, h, k => by
    rw [lcs]
    split
    · cases s with
      | nil => exact Nat.zero_le _
      | cons z s =>
        have := lcs_ge a b (sub_tl h) (sub_tl k)
        simp only [List.length_cons]; omega
    · rename_i hne
      cases h with
      | cons _ h => have := lcs_ge a (y :: b) h k; omega
      | cons_cons _ h =>
        cases k with
        | cons _ k => have := lcs_ge (x :: a) b (h.cons_cons x) k; omega
        | cons_cons _ k => exact absurd rfl hne
termination_by a b => a.length + b.length
theorem lcs_rev (a b : List α) : lcs a.reverse b.reverse = lcs a b := by
  refine Nat.le_antisymm ?_ ?_
  · have := lcs_ge a b (s := (sub2 a.reverse b.reverse).reverse) (by have := (sub2_l a.reverse b.reverse).reverse; simpa using this) (by have := (sub2_r a.reverse b.reverse).reverse; simpa using this)
    rw [List.length_reverse, sub2_len] at this; exact this
  · have := lcs_ge a.reverse b.reverse (s := (sub2 a b).reverse) (sub2_l a b).reverse (sub2_r a b).reverse
    rw [List.length_reverse, sub2_len] at this; exact this
theorem lcs_step (x y : α) (a b : List α) : lcs (x :: a) (y :: b) = if x = y then max (max (lcs a (y :: b)) (lcs (x :: a) b)) (lcs a b + 1) else max (lcs a (y :: b)) (lcs (x :: a) b) := by
  have e := lcs.eq_3 x a y b
  rw [e]
  split
  · rename_i h
    have h1 : lcs a (y :: b) ≤ 1 + lcs a b := by
      subst h
      have e' : lcs (x :: a) (x :: b) = 1 + lcs a b := by rw [lcs]; simp
      rw [← e', ← sub2_len a (x :: b)]
      exact lcs_ge _ _ ((sub2_l a (x :: b)).cons x) (sub2_r a (x :: b))
    have h2 : lcs (x :: a) b ≤ 1 + lcs a b := by
      clear h1
      subst h
      have e' : lcs (x :: a) (x :: b) = 1 + lcs a b := by rw [lcs]; simp
      rw [← e', ← sub2_len (x :: a) b]
      exact lcs_ge _ _ (sub2_l (x :: a) b) ((sub2_r (x :: a) b).cons x)
    omega
  · rfl
theorem lcs_snoc (x y : α) (a b : List α) : lcs (a ++ [x]) (b ++ [y]) = if x = y then max (max (lcs a (b ++ [y])) (lcs (a ++ [x]) b)) (lcs a b + 1) else max (lcs a (b ++ [y])) (lcs (a ++ [x]) b) := by
  have := lcs_step x y a.reverse b.reverse
  have e : ∀ (l : List α) (z : α), z :: l.reverse = (l ++ [z]).reverse := fun l z => by simp
  rw [e, e, lcs_rev, lcs_rev, lcs_rev, lcs_rev] at this
  exact this
def isSub : List α → List α → Bool
  | [], _ => true
  | _ :: _, [] => false
  | x :: s, y :: a => if x = y then isSub s a else isSub (x :: s) a
theorem isSub_of : ∀ {a s : List α}, s.Sublist a → isSub s a = true
  | [], s, h => by rw [List.sublist_nil.1 h]; rfl
  | y :: a, [], h => rfl
  | y :: a, x :: s, h => by
    rw [isSub]
    split
    · exact isSub_of (sub_tl h)
    · rename_i hne
      cases h with
      | cons _ h => exact isSub_of h
      | cons_cons _ h => exact absurd rfl hne
omit [DecidableEq α] in
theorem al_sub : ∀ {s a : List α}, s.Sublist a → Al a s (a.length - s.length) := by
  intro s a h
  induction h with
  | slnil => exact .nil
  | @cons s a x h ih => have := h.length_le; rw [List.length_cons, Nat.succ_sub this]; exact .dl x ih
  | @cons_cons s a x h ih => rw [List.length_cons, List.length_cons, Nat.succ_sub_succ]; exact .mt x ih
theorem ed_lcs (a b : List α) : ed a b ≤ a.length + b.length - 2 * lcs a b := by
  have h := (al_sub (sub2_l a b)).trans (al_sub (sub2_r a b)).sym
  have h1 := (sub2_l a b).length_le
  have h2 := (sub2_r a b).length_le
  have := ed_le _ _ h
  rw [sub2_len] at *
  omega
end Go.Abs
namespace Go.Abs
set_option linter.unusedSimpArgs false
set_option linter.unusedVariables false
theorem wr6 {n : Int} (h0 : -9223372036854775808 ≤ n) (h1 : n < 9223372036854775808) : IntKind.wrap .i64 n = n := by
  have e : (2 : Int) ^ IntKind.bits .i64 = 18446744073709551616 := rfl
  have e' : (2 : Int) ^ (IntKind.bits .i64 - 1) = 9223372036854775808 := rfl
  have s : IntKind.signed .i64 = true := rfl
  simp only [IntKind.wrap, e, e', s, Bool.true_and, ge_iff_le, decide_eq_true_eq]
  split <;> omega
theorem chkT {β : Type} {p : Prop} [Decidable p] (x : Option β) (h : p) : chk p x = x := by simp [chk, h]
theorem cT {β : Type} {p : Prop} [Decidable p] (x y : β) (h : p) : (bif decide p then x else y) = x := by simp [h]
theorem cF {β : Type} {p : Prop} [Decidable p] (x y : β) (h : ¬ p) : (bif decide p then x else y) = y := by simp [h]
theorem bindS {α β : Type} (a : α) (f : α → Option β) : Option.bind (some a) f = f a := rfl
theorem loop_up {S R : Type} {step : S → Option (S ⊕ R)} (st : Nat → S) (N : Nat) (r : R) (he : step (st N) = some (.inr r)) (hs : ∀ n, n < N → step (st n) = some (.inl (st (n + 1)))) : ∀ k n, n + k = N → loopO step (st n) = some r
  | 0, n, h => by rw [loopO_eq]; simp only [Nat.add_zero] at h; subst h; rw [he]
  | k + 1, n, h => by rw [loopO_eq, hs n (by omega)]; exact loop_up st N r he hs k (n + 1) (by omega)
theorem loop_dn {S R : Type} {step : S → Option (S ⊕ R)} (st : Nat → S) (N : Nat) (r : R) (he : step (st 0) = some (.inr r)) (hs : ∀ n, n < N → step (st (n + 1)) = some (.inl (st n))) : ∀ n, n ≤ N → loopO step (st n) = some r
  | 0, h => by rw [loopO_eq, he]
  | n + 1, h => by rw [loopO_eq, hs n (by omega)]; exact loop_dn st N r he hs n (by omega)
theorem loop_at {S R : Type} {step : S → Option (S ⊕ R)} {st : Nat → S} {N : Nat} {r : R} {s : S} (hst : s = st 0) (he : step (st N) = some (.inr r)) (hs : ∀ n, n < N → step (st n) = some (.inl (st (n + 1)))) : loopO step s = some r := by
  subst hst; exact loop_up st N r he hs N 0 (by omega)
theorem loop_down {S R : Type} {step : S → Option (S ⊕ R)} {st : Nat → S} {N : Nat} {r : R} {s : S} (hst : s = st N) (he : step (st 0) = some (.inr r)) (hs : ∀ n, n < N → step (st (n + 1)) = some (.inl (st n))) : loopO step s = some r := by
  subst hst; exact loop_dn st N r he hs N (Nat.le_refl _)
def tab {α : Type} (n : Nat) (f : Nat → α) : List α := (List.range n).map f
theorem tab_len {α : Type} (n : Nat) (f : Nat → α) : (tab n f).length = n := by simp [tab]
theorem tab_get {α : Type} (n : Nat) (f : Nat → α) (i : Nat) (d : α) (h : i < n) : (tab n f).getD i d = f i := by simp [tab, List.getD_eq_getElem?_getD, h]
theorem tab_set {α : Type} (n : Nat) (f : Nat → α) (i : Nat) (v : α) : (tab n f).set i v = tab n (fun k => if k = i then v else f k) := by
  apply List.ext_getElem?
  intro k
  by_cases h : k < n
  · by_cases e : k = i
    · subst e; simp [tab, List.getElem?_set, h]
    · simp [tab, List.getElem?_set, h, e, Ne.symm e]
  · simp [tab, List.getElem?_set, h, List.getElem?_eq_none]
theorem tab_congr {α : Type} {n : Nat} {f g : Nat → α} (h : ∀ k, k < n → f k = g k) : tab n f = tab n g :=
  List.map_congr_left (fun k hk => h k (by simpa using hk))
theorem tab_rep {α : Type} (n : Nat) (a : α) : List.replicate n a = tab n (fun _ => a) := by
  apply List.ext_getElem (by simp [tab])
  intro k h1 h2
  simp [tab]
theorem tab_snoc {α : Type} (n : Nat) (f : Nat → α) : tab n f ++ [f n] = tab (n + 1) f := by simp [tab, List.range_succ]
def bl (s : ByteArray) : List UInt8 := s.data.toList
theorem bl_len (s : ByteArray) : (bl s).length = s.size := Array.length_toList
theorem bl_get (s : ByteArray) (i : Nat) (h : i < s.size) : (bl s).drop i = s.data.getD i 0 :: (bl s).drop (i + 1) := by
  have h' : i < (bl s).length := by rw [bl_len]; exact h
  rw [List.drop_eq_getElem_cons h']
  congr 1
  have h2 : i < s.data.size := h
  simp [bl, Array.getD, h2]
  intro hh; omega
theorem bl_take (s : ByteArray) (i : Nat) (h : i < s.size) : (bl s).take (i + 1) = (bl s).take i ++ [s.data.getD i 0] := by
  have h' : i < (bl s).length := by rw [bl_len]; exact h
  have h2 : i < s.data.size := h
  rw [← List.take_append_getElem h']
  congr 2
  simp [bl, Array.getD, h2]
  intro hh; omega
theorem byteI_eq (a b : ByteArray) (i j : Nat) : (byteI a i = byteI b j) ↔ a.data.getD i 0 = b.data.getD j 0 := by
  simp only [byteI, Int.toNat_natCast]
  constructor
  · intro h
    have : (a.data.getD i 0).toNat = (b.data.getD j 0).toNat := by omega
    exact UInt8.toNat_inj.1 this
  · intro h; rw [h]
end Go.Abs
namespace Go.Abs.G52
open Go Go.Abs
set_option linter.unusedSimpArgs false
set_option linter.unusedVariables false
def eA (a b : ByteArray) (i j : Nat) : Int := (ed ((bl a).drop i) ((bl b).drop j) : Nat)
theorem eA_end1 (a b : ByteArray) (j : Nat) (hj : j ≤ b.size) : eA a b a.size j = (b.size : Int) - j := by
  have : (bl a).drop a.size = [] := List.drop_eq_nil_of_le (by rw [bl_len]; exact Nat.le_refl _)
  rw [eA, this, ed, List.length_drop, bl_len]; omega
theorem eA_end2 (a b : ByteArray) (i : Nat) (hi : i ≤ a.size) : eA a b i b.size = (a.size : Int) - i := by
  have : (bl b).drop b.size = [] := List.drop_eq_nil_of_le (by rw [bl_len]; exact Nat.le_refl _)
  rw [eA, this, ed_nil, List.length_drop, bl_len]; omega
theorem eA_eq (a b : ByteArray) (i j : Nat) (hi : i < a.size) (hj : j < b.size) (h : byteI a i = byteI b j) : eA a b i j = eA a b (i + 1) (j + 1) := by
  rw [eA, bl_get a i hi, bl_get b j hj, ed, if_pos ((byteI_eq a b i j).1 h)]; rfl
theorem eA_ne (a b : ByteArray) (i j : Nat) (hi : i < a.size) (hj : j < b.size) (h : ¬ byteI a i = byteI b j) : eA a b i j = 1 + min (min (eA a b (i + 1) (j + 1)) (eA a b (i + 1) j)) (eA a b i (j + 1)) := by
  have h' : ¬ a.data.getD i 0 = b.data.getD j 0 := fun e => h ((byteI_eq a b i j).2 e)
  have e1 : eA a b i j = ((1 + min (ed ((bl a).drop (i + 1)) ((bl b).drop (j + 1))) (min (ed ((bl a).drop (i + 1)) ((bl b).drop j)) (ed ((bl a).drop i) ((bl b).drop (j + 1)))) : Nat) : Int) := by
    rw [bl_get a i hi, bl_get b j hj, eA, bl_get a i hi, bl_get b j hj, ed, if_neg h']
  rw [e1]; simp only [eA]; omega
theorem eA_le (a b : ByteArray) (i j : Nat) : 0 ≤ eA a b i j ∧ eA a b i j ≤ a.size + b.size := by
  have := ed_max ((bl a).drop i) ((bl b).drop j)
  simp only [List.length_drop, bl_len] at this
  simp only [eA]; omega
def dTab (a b : ByteArray) (f : Nat → Nat → Int) : List (List Int) := tab (a.size + 1) fun r => tab (b.size + 1) fun c => f r c
def dF (a b : ByteArray) (i n r c : Nat) : Int := if i + 1 ≤ r ∨ (r = i ∧ n ≤ c) then eA a b r c else 0
theorem dRow (a b : ByteArray) (ha : a.size ≤ 1000) (hb : b.size ≤ 1000) (i : Nat) (hi : i ≤ a.size) :
    q4_L5 loO (a, b, (i : Int), (b.size : Int), dTab a b (fun r c => if i + 1 ≤ r then eA a b r c else 0)) = some (a, b, (i : Int), dTab a b (fun r c => if i ≤ r then eA a b r c else 0)) := by
  simp only [q4_L5, runO]
  refine loop_down (N := b.size + 1) (st := fun n => (a, b, (i : Int), (n : Int) - 1, dTab a b (dF a b i n))) ?_ ?_ ?_
  · have e1 : ((b.size + 1 : Nat) : Int) - 1 = b.size := by omega
    simp only [e1]
    refine congrArg (fun d => (a, b, (i : Int), (b.size : Int), d)) ?_
    refine tab_congr fun r hr => tab_congr fun c hc => ?_
    have : (i + 1 ≤ r ∨ r = i ∧ b.size + 1 ≤ c) ↔ i + 1 ≤ r := by omega
    simp only [dF, this]
  · simp only [q4_L5_s]
    rw [cF _ _ (by omega)]
    refine congrArg (fun d => some (Sum.inr (a, b, (i : Int), d))) ?_
    refine tab_congr fun r hr => tab_congr fun c hc => ?_
    have : (i + 1 ≤ r ∨ r = i ∧ 0 ≤ c) ↔ i ≤ r := by omega
    simp only [dF, this]
  · intro n hn
    have e1 : ((n + 1 : Nat) : Int) - 1 = (n : Int) := by omega
    have e2 : IntKind.wrap .i64 ((n : Int) - 1) = (n : Int) - 1 := wr6 (by omega) (by omega)
    have e3 : IntKind.wrap .i64 ((i : Int) + 1) = ((i + 1 : Nat) : Int) := by rw [wr6 (by omega) (by omega)]; omega
    have e4 : IntKind.wrap .i64 ((n : Int) + 1) = ((n + 1 : Nat) : Int) := by rw [wr6 (by omega) (by omega)]; omega
    have L1 : ∀ f, (dTab a b f).length = a.size + 1 := fun f => tab_len _ _
    have L2 : ∀ (f : Nat → Nat → Int) (r : Nat), r ≤ a.size → (dTab a b f).getD r [] = tab (b.size + 1) (f r) := fun f r hr => tab_get _ _ _ _ (by omega)
    have fin : ∀ (v : Int), v = eA a b i n → (dTab a b (dF a b i (n + 1))).set i ((tab (b.size + 1) (dF a b i (n + 1) i)).set n v) = dTab a b (dF a b i n) := by
      intro v hv
      simp only [dTab, tab_set]
      refine tab_congr fun r hr => ?_
      by_cases h : r = i
      · subst h
        rw [if_pos rfl]
        refine tab_congr fun c hc => ?_
        by_cases h2 : c = n
        · subst h2; rw [if_pos rfl, dF, if_pos (Or.inr ⟨rfl, Nat.le_refl _⟩), hv]
        · rw [if_neg h2]
          have : (r + 1 ≤ r ∨ r = r ∧ n + 1 ≤ c) ↔ (r + 1 ≤ r ∨ r = r ∧ n ≤ c) := by omega
          unfold dF
          by_cases h3 : r + 1 ≤ r ∨ r = r ∧ n ≤ c
          · rw [if_pos h3, if_pos (this.2 h3)]
          · rw [if_neg h3, if_neg (fun h => h3 (this.1 h))]
      · rw [if_neg h]
        refine tab_congr fun c hc => ?_
        have : (i + 1 ≤ r ∨ r = i ∧ n + 1 ≤ c) ↔ (i + 1 ≤ r ∨ r = i ∧ n ≤ c) := by omega
        simp only [dF, this]
    simp only [q4_L5_s, e1, e2]
    rw [cT _ _ (by omega)]
    simp only [L1, Int.toNat_natCast, L2 _ _ hi, tab_len]
    by_cases h1 : i = a.size
    · rw [cT _ _ (by omega), chkT _ (by omega), chkT _ (by omega), fin]
      rw [wr6 (by omega) (by omega)]
      subst h1; rw [eA_end1 a b n (by omega)]
    · rw [cF _ _ (by omega)]
      by_cases h2 : n = b.size
      · rw [cT _ _ (by omega), chkT _ (by omega), chkT _ (by omega), fin]
        rw [wr6 (by omega) (by omega)]
        subst h2; rw [eA_end2 a b i (by omega)]
      · rw [cF _ _ (by omega), chkT _ (by omega), chkT _ (by omega)]
        simp only [e3, e4, Int.toNat_natCast, L2 _ (i + 1) (by omega), tab_len]
        have g1 : ∀ (c : Nat), c ≤ b.size → (tab (b.size + 1) (dF a b i (n + 1) (i + 1))).getD c 0 = eA a b (i + 1) c := by
          intro c hc
          rw [tab_get _ _ _ _ (by omega), dF, if_pos (Or.inl (Nat.le_refl _))]
        have g2 : (tab (b.size + 1) (dF a b i (n + 1) i)).getD (n + 1) 0 = eA a b i (n + 1) := by
          rw [tab_get _ _ _ _ (by omega), dF, if_pos (Or.inr ⟨rfl, Nat.le_refl _⟩)]
        by_cases h3 : byteI a i = byteI b n
        · rw [cT _ _ h3, chkT _ (by omega), chkT _ (by omega), chkT _ (by omega), chkT _ (by omega), fin]
          rw [g1 _ (by omega), eA_eq a b i n (by omega) (by omega) h3]
        · rw [cF _ _ h3]
          repeat rw [chkT _ (by omega)]
          rw [fin]
          rw [g1 _ (by omega), g1 _ (by omega), g2, eA_ne a b i n (by omega) (by omega) h3]
          have b1 := eA_le a b (i + 1) (n + 1)
          have b2 := eA_le a b (i + 1) n
          have b3 := eA_le a b i (n + 1)
          rw [wr6 (by omega) (by omega)]
theorem dist_tab (a b : ByteArray) (ha : a.size ≤ 1000) (hb : b.size ≤ 1000) : q4 loO a b = some (dTab a b (eA a b)) := by
  have e1 : IntKind.wrap .i64 ((a.size : Int) + 1) = ((a.size + 1 : Nat) : Int) := by rw [wr6 (by omega) (by omega)]; omega
  have e2 : IntKind.wrap .i64 ((b.size : Int) + 1) = ((b.size + 1 : Nat) : Int) := by rw [wr6 (by omega) (by omega)]; omega
  have hm : (maxEl : Int) ≥ 100000 := by decide
  have p1 : q4_L20 loO (a, b, ((a.size + 1 : Nat) : Int), 0, tab (a.size + 1) (fun _ => [])) = some (a, b, dTab a b (fun r c => if a.size + 1 ≤ r then eA a b r c else 0)) := by
    simp only [q4_L20, runO]
    refine loop_at (N := a.size + 1) (st := fun n => (a, b, ((a.size + 1 : Nat) : Int), (n : Int), tab (a.size + 1) (fun r => if r < n then tab (b.size + 1) (fun _ => (0 : Int)) else []))) ?_ ?_ ?_
    · simp
    · simp only [q4_L20_s]
      rw [cF _ _ (by omega)]
      refine congrArg (fun d => some (Sum.inr (a, b, d))) ?_
      refine tab_congr fun r hr => ?_
      rw [if_pos hr]
      refine tab_congr fun c hc => ?_
      simp only []
      rw [if_neg (by omega)]
    · intro n hn
      simp only [q4_L20_s, e2]
      have e3 : IntKind.wrap .i64 ((n : Int) + 1) = ((n + 1 : Nat) : Int) := by rw [wr6 (by omega) (by omega)]; omega
      rw [cT _ _ (by omega), chkT _ (by omega), tab_len, chkT _ (by omega), e3]
      simp only [Int.toNat_natCast, tab_set, tab_rep]
      refine congrArg (fun d => some (Sum.inl (a, b, ((a.size + 1 : Nat) : Int), ((n + 1 : Nat) : Int), d))) ?_
      refine tab_congr fun r hr => ?_
      by_cases h : r = n
      · subst h; simp
      · rw [if_neg h]
        have : r < n ↔ r < n + 1 := by omega
        simp only [this]
  have p2 : q4_L3 loO (a, b, (a.size : Int), dTab a b (fun r c => if a.size + 1 ≤ r then eA a b r c else 0)) = some (dTab a b (eA a b)) := by
    simp only [q4_L3, runO]
    refine loop_down (N := a.size + 1) (st := fun n => (a, b, (n : Int) - 1, dTab a b (fun r c => if n ≤ r then eA a b r c else 0))) ?_ ?_ ?_
    · have : ((a.size + 1 : Nat) : Int) - 1 = a.size := by omega
      simp only [this]
    · simp only [q4_L3_s]
      rw [cF _ _ (by omega)]
      simp
    · intro n hn
      have e1 : ((n + 1 : Nat) : Int) - 1 = (n : Int) := by omega
      have e2 : IntKind.wrap .i64 ((n : Int) - 1) = (n : Int) - 1 := wr6 (by omega) (by omega)
      simp only [q4_L3_s, e1, e2]
      rw [cT _ _ (by omega), dRow a b ha hb n (by omega)]
      simp only [bindS, e2]
  simp only [q4, e1]
  rw [chkT _ (by omega)]
  simp only [Int.toNat_natCast, tab_rep, tab_len, p1, bindS, p2]
theorem long2 (a b : ByteArray) : q3 loO [a, b] = some (decide ((200 : Int) < a.size) || decide ((200 : Int) < b.size)) := by
  have h : q1 loO [a, b] = some (if (200 : Int) < a.size then 0 else if (200 : Int) < b.size then 1 else -1) := by
    simp only [q1, q1_L3, runO]
    rw [loopO_eq]
    simp only [q1_L3_s, q0]
    have e0 : ([a, b].length : Int) = 2 := rfl
    simp only [e0, show decide ((0 : Int) < 2) = true from rfl, cond_true, Option.bind_some, show (0 : Int).toNat = 0 from rfl, List.getD_cons_zero, chk_t _ (show (0 : Int) ≤ 0 ∧ (0 : Int) < 2 by decide)]
    by_cases h : (200 : Int) < a.size
    · simp [h, alt2]
    · simp only [h, decide_false, cond_false]
      rw [loopO_eq]
      have e1 : IntKind.wrap .i64 (0 + 1) = 1 := rfl
      simp only [q1_L3_s, q0, e0, e1]
      simp only [show decide ((1 : Int) < 2) = true from rfl, cond_true, Option.bind_some, show (1 : Int).toNat = 1 from rfl, List.getD_cons_succ, List.getD_cons_zero, chk_t _ (show (0 : Int) ≤ 1 ∧ (1 : Int) < 2 by decide)]
      by_cases h2 : (200 : Int) < b.size
      · simp [h2, alt2]
      · simp only [h2, decide_false, cond_false]
        rw [loopO_eq]
        simp [q1_L3_s, wr64, alt2]
  simp only [q3, q2, h, Option.bind_some]
  by_cases h : (200 : Int) < a.size <;> by_cases h2 : (200 : Int) < b.size <;> simp [h, h2]
theorem dist_eq (a b : ByteArray) (ha : a.size ≤ 200) (hb : b.size ≤ 200) : q5 loO a b = some (((ed (bl a) (bl b) : Nat) : Int), 0) := by
  have : ∀ f : Nat → Nat → Int, (dTab a b f).getD 0 [] = tab (b.size + 1) (f 0) := fun f => tab_get _ _ _ _ (by omega)
  have h : (decide ((200 : Int) < a.size) || decide ((200 : Int) < b.size)) = false := by simp; omega
  simp only [q5, long2, h, bindS, cond_false, dist_tab a b (by omega) (by omega), this, tab_len, show (dTab a b (eA a b)).length = a.size + 1 from tab_len _ _]
  rw [chkT _ (by omega), chkT _ (by omega), tab_get _ _ _ _ (by omega)]
  simp [eA]
end Go.Abs.G52
namespace Go.Abs.G52
open Go Go.Abs
set_option linter.unusedSimpArgs false
set_option linter.unusedVariables false
theorem bl_app (a b : ByteArray) : bl (a ++ b) = bl a ++ bl b := by simp [bl, ByteArray.data_append]
theorem bl_byte (a : ByteArray) (i : Nat) : bl (bytesB [byteI a i]) = [a.data.getD i 0] := by
  simp only [bl, bytesB, byteI, List.map_cons, List.map_nil, Int.toNat_natCast, UInt8.ofNat_toNat]
theorem wbyte (a h : ByteArray) (i : Nat) (hh : h.size ≤ 1000) : q36 loO (byteI a i) h = some (h ++ bytesB [byteI a i]) := by
  have hb := byteI_lt a i
  exact wb_eq _ _ hb.1 hb.2 (by omega)
def lA (a b : ByteArray) (i j : Nat) : Int := (lcs ((bl a).drop i) ((bl b).drop j) : Nat)
theorem lA_end1 (a b : ByteArray) (j : Nat) : lA a b a.size j = 0 := by
  have : (bl a).drop a.size = [] := List.drop_eq_nil_of_le (by rw [bl_len]; exact Nat.le_refl _)
  rw [lA, this, lcs]; rfl
theorem lA_end2 (a b : ByteArray) (i : Nat) : lA a b i b.size = 0 := by
  have : (bl b).drop b.size = [] := List.drop_eq_nil_of_le (by rw [bl_len]; exact Nat.le_refl _)
  rw [lA, this, lcs_nil]; rfl
theorem lA_eq (a b : ByteArray) (i j : Nat) (hi : i < a.size) (hj : j < b.size) (h : byteI a i = byteI b j) : lA a b i j = 1 + lA a b (i + 1) (j + 1) := by
  rw [lA, bl_get a i hi, bl_get b j hj, lcs, if_pos ((byteI_eq a b i j).1 h), lA]; omega
theorem lA_ne (a b : ByteArray) (i j : Nat) (hi : i < a.size) (hj : j < b.size) (h : ¬ byteI a i = byteI b j) : lA a b i j = max (lA a b (i + 1) j) (lA a b i (j + 1)) := by
  have h' : ¬ a.data.getD i 0 = b.data.getD j 0 := fun e => h ((byteI_eq a b i j).2 e)
  have e1 : lA a b i j = ((max (lcs ((bl a).drop (i + 1)) ((bl b).drop j)) (lcs ((bl a).drop i) ((bl b).drop (j + 1))) : Nat) : Int) := by
    rw [bl_get a i hi, bl_get b j hj, lA, bl_get a i hi, bl_get b j hj, lcs, if_neg h']
  rw [e1]; simp only [lA]; omega
theorem lcs_le : ∀ (a b : List UInt8), lcs a b ≤ a.length := fun a b => by
  rw [← sub2_len]; exact (sub2_l a b).length_le
theorem lA_le (a b : ByteArray) (i j : Nat) : 0 ≤ lA a b i j ∧ lA a b i j ≤ a.size := by
  have := lcs_le ((bl a).drop i) ((bl b).drop j)
  simp only [List.length_drop, bl_len] at this
  simp only [lA]; omega
def lF (a b : ByteArray) (i n r c : Nat) : Int := if i + 1 ≤ r ∨ (r = i ∧ n ≤ c) then lA a b r c else 0
theorem lRow (a b : ByteArray) (ha : a.size ≤ 1000) (hb : b.size ≤ 1000) (i : Nat) (hi : i < a.size) :
    q38_L16 loO (a, b, (i : Int), (b.size : Int) - 1, dTab a b (fun r c => if i + 1 ≤ r then lA a b r c else 0)) = some (a, b, (i : Int), dTab a b (fun r c => if i ≤ r then lA a b r c else 0)) := by
  simp only [q38_L16, runO]
  refine loop_down (N := b.size) (st := fun n => (a, b, (i : Int), (n : Int) - 1, dTab a b (lF a b i n))) ?_ ?_ ?_
  · refine congrArg (fun d => (a, b, (i : Int), (b.size : Int) - 1, d)) ?_
    refine tab_congr fun r hr => tab_congr fun c hc => ?_
    unfold lF
    simp only []
    by_cases h : i + 1 ≤ r
    · rw [if_pos h, if_pos (Or.inl h)]
    · rw [if_neg h]
      by_cases h2 : r = i ∧ b.size ≤ c
      · have : c = b.size := by omega
        rw [if_pos (Or.inr h2), this, lA_end2]
      · rw [if_neg (by omega)]
  · simp only [q38_L16_s]
    rw [cF _ _ (by omega)]
    refine congrArg (fun d => some (Sum.inr (a, b, (i : Int), d))) ?_
    refine tab_congr fun r hr => tab_congr fun c hc => ?_
    have : (i + 1 ≤ r ∨ r = i ∧ 0 ≤ c) ↔ i ≤ r := by omega
    simp only [lF, this]
  · intro n hn
    have e1 : ((n + 1 : Nat) : Int) - 1 = (n : Int) := by omega
    have e2 : IntKind.wrap .i64 ((n : Int) - 1) = (n : Int) - 1 := wr6 (by omega) (by omega)
    have e3 : IntKind.wrap .i64 ((i : Int) + 1) = ((i + 1 : Nat) : Int) := by rw [wr6 (by omega) (by omega)]; omega
    have e4 : IntKind.wrap .i64 ((n : Int) + 1) = ((n + 1 : Nat) : Int) := by rw [wr6 (by omega) (by omega)]; omega
    have L1 : ∀ f, (dTab a b f).length = a.size + 1 := fun f => tab_len _ _
    have L2 : ∀ (f : Nat → Nat → Int) (r : Nat), r ≤ a.size → (dTab a b f).getD r [] = tab (b.size + 1) (f r) := fun f r hr => tab_get _ _ _ _ (by omega)
    have fin : ∀ (v : Int), v = lA a b i n → (dTab a b (lF a b i (n + 1))).set i ((tab (b.size + 1) (lF a b i (n + 1) i)).set n v) = dTab a b (lF a b i n) := by
      intro v hv
      simp only [dTab, tab_set]
      refine tab_congr fun r hr => ?_
      by_cases h : r = i
      · subst h
        rw [if_pos rfl]
        refine tab_congr fun c hc => ?_
        by_cases h2 : c = n
        · subst h2; rw [if_pos rfl, lF, if_pos (Or.inr ⟨rfl, Nat.le_refl _⟩), hv]
        · rw [if_neg h2]
          have : (r + 1 ≤ r ∨ r = r ∧ n + 1 ≤ c) ↔ (r + 1 ≤ r ∨ r = r ∧ n ≤ c) := by omega
          unfold lF
          by_cases h3 : r + 1 ≤ r ∨ r = r ∧ n ≤ c
          · rw [if_pos h3, if_pos (this.2 h3)]
          · rw [if_neg h3, if_neg (fun h => h3 (this.1 h))]
      · rw [if_neg h]
        refine tab_congr fun c hc => ?_
        have : (i + 1 ≤ r ∨ r = i ∧ n + 1 ≤ c) ↔ (i + 1 ≤ r ∨ r = i ∧ n ≤ c) := by omega
        simp only [lF, this]
    simp only [q38_L16_s, e1, e2]
    rw [cT _ _ (by omega), chkT _ (by omega), chkT _ (by omega)]
    simp only [L1, e3, e4, Int.toNat_natCast, L2 _ i (by omega), L2 _ (i + 1) (by omega), tab_len]
    have g1 : ∀ (c : Nat), c ≤ b.size → (tab (b.size + 1) (lF a b i (n + 1) (i + 1))).getD c 0 = lA a b (i + 1) c := by
      intro c hc
      rw [tab_get _ _ _ _ (by omega), lF, if_pos (Or.inl (Nat.le_refl _))]
    have g2 : (tab (b.size + 1) (lF a b i (n + 1) i)).getD (n + 1) 0 = lA a b i (n + 1) := by
      rw [tab_get _ _ _ _ (by omega), lF, if_pos (Or.inr ⟨rfl, Nat.le_refl _⟩)]
    by_cases h3 : byteI a i = byteI b n
    · rw [cT _ _ h3]
      repeat rw [chkT _ (by omega)]
      have b1 := lA_le a b (i + 1) (n + 1)
      rw [fin]
      rw [g1 _ (by omega), lA_eq a b i n (by omega) (by omega) h3, wr6 (by omega) (by omega)]
    · rw [cF _ _ h3]
      repeat rw [chkT _ (by omega)]
      rw [fin]
      rw [g1 _ (by omega), g2, lA_ne a b i n (by omega) (by omega) h3]
theorem lcs_walk (a b : ByteArray) (ha : a.size ≤ 200) (hb : b.size ≤ 200) : ∀ (k i j : Nat) (h : ByteArray), (a.size - i) + (b.size - j) = k → i ≤ a.size → j ≤ b.size → h.size ≤ i →
    ∃ s, q38_L3 loO (a, b, (i : Int), (j : Int), dTab a b (lA a b), h) = some s ∧ bl s = bl h ++ sub2 ((bl a).drop i) ((bl b).drop j)
  | k, i, j, h, hk, hi, hj, hh => by
    have L1 : ∀ f, (dTab a b f).length = a.size + 1 := fun f => tab_len _ _
    have L2 : ∀ (f : Nat → Nat → Int) (r : Nat), r ≤ a.size → (dTab a b f).getD r [] = tab (b.size + 1) (f r) := fun f r hr => tab_get _ _ _ _ (by omega)
    have e3 : IntKind.wrap .i64 ((i : Int) + 1) = ((i + 1 : Nat) : Int) := by rw [wr6 (by omega) (by omega)]; omega
    have e4 : IntKind.wrap .i64 ((j : Int) + 1) = ((j + 1 : Nat) : Int) := by rw [wr6 (by omega) (by omega)]; omega
    simp only [q38_L3, runO]
    rw [loopO_eq]
    simp only [q38_L3_s]
    by_cases h1 : i < a.size
    · rw [cT _ _ (by omega)]
      by_cases h2 : j < b.size
      · rw [cT _ _ (by omega), chkT _ (by omega), chkT _ (by omega)]
        have dr1 := bl_get a i h1
        have dr2 := bl_get b j h2
        by_cases h3 : byteI a i = byteI b j
        · rw [cT _ _ h3, wbyte a h i (by omega)]
          simp only [bindS, e3, e4]
          rw [chkT _ (by omega)]
          simp only []
          obtain ⟨s, hs, hb2⟩ := lcs_walk a b ha hb (k - 2) (i + 1) (j + 1) (h ++ bytesB [byteI a i]) (by omega) (by omega) (by omega) (by rw [ByteArray.size_append, bb_size]; omega)
          refine ⟨s, hs, ?_⟩
          rw [hb2, bl_app, bl_byte, dr1, dr2, sub2, if_pos ((byteI_eq a b i j).1 h3), List.append_assoc]; rfl
        · rw [cF _ _ h3]
          simp only [e3, e4, L1, Int.toNat_natCast, L2 _ i (by omega), L2 _ (i + 1) (by omega), tab_len]
          rw [chkT _ (by omega), chkT _ (by omega), chkT _ (by omega), chkT _ (by omega), tab_get _ _ _ _ (by omega), tab_get _ _ _ _ (by omega)]
          have hc : (lA a b i (j + 1) ≤ lA a b (i + 1) j) ↔ lcs (a.data.getD i 0 :: (bl a).drop (i + 1)) ((bl b).drop (j + 1)) ≤ lcs ((bl a).drop (i + 1)) (b.data.getD j 0 :: (bl b).drop (j + 1)) := by
            rw [← dr1, ← dr2]; simp only [lA]; omega
          by_cases h4 : lA a b i (j + 1) ≤ lA a b (i + 1) j
          · rw [cT _ _ h4]
            obtain ⟨s, hs, hb2⟩ := lcs_walk a b ha hb (k - 1) (i + 1) j h (by omega) (by omega) (by omega) (by omega)
            refine ⟨s, hs, ?_⟩
            rw [hb2, dr1, dr2, sub2, if_neg (fun e => h3 ((byteI_eq a b i j).2 e)), if_pos (hc.1 h4)]
          · rw [cF _ _ h4]
            obtain ⟨s, hs, hb2⟩ := lcs_walk a b ha hb (k - 1) i (j + 1) h (by omega) (by omega) (by omega) (by omega)
            refine ⟨s, hs, ?_⟩
            rw [hb2, dr1, dr2, sub2, if_neg (fun e => h3 ((byteI_eq a b i j).2 e)), if_neg (fun e => h4 (hc.2 e))]
      · rw [cF _ _ (by omega)]
        refine ⟨h, rfl, ?_⟩
        have : (bl b).drop j = [] := List.drop_eq_nil_of_le (by rw [bl_len]; omega)
        rw [this]
        have : ∀ l : List UInt8, sub2 l [] = [] := fun l => by cases l <;> simp [sub2]
        rw [this, List.append_nil]
    · rw [cF _ _ (by omega)]
      refine ⟨h, rfl, ?_⟩
      have : (bl a).drop i = [] := List.drop_eq_nil_of_le (by rw [bl_len]; omega)
      rw [this, sub2, List.append_nil]
termination_by k => k
decreasing_by all_goals omega
theorem subseq_eq (a b : ByteArray) (ha : a.size ≤ 200) (hb : b.size ≤ 200) : ∃ s, q38 loO a b = some (s, 0) ∧ bl s = sub2 (bl a) (bl b) := by
  have e1 : IntKind.wrap .i64 ((a.size : Int) + 1) = ((a.size + 1 : Nat) : Int) := by rw [wr6 (by omega) (by omega)]; omega
  have e2 : IntKind.wrap .i64 ((b.size : Int) + 1) = ((b.size + 1 : Nat) : Int) := by rw [wr6 (by omega) (by omega)]; omega
  have e0 : IntKind.wrap .i64 ((a.size : Int) - 1) = (a.size : Int) - 1 := wr6 (by omega) (by omega)
  have hm : (maxEl : Int) ≥ 100000 := by decide
  have p1 : q38_L27 loO (a, b, ((a.size + 1 : Nat) : Int), 0, tab (a.size + 1) (fun _ => [])) = some (a, b, dTab a b (fun r c => if a.size ≤ r then lA a b r c else 0)) := by
    simp only [q38_L27, runO]
    refine loop_at (N := a.size + 1) (st := fun n => (a, b, ((a.size + 1 : Nat) : Int), (n : Int), tab (a.size + 1) (fun r => if r < n then tab (b.size + 1) (fun _ => (0 : Int)) else []))) ?_ ?_ ?_
    · simp
    · simp only [q38_L27_s]
      rw [cF _ _ (by omega)]
      refine congrArg (fun d => some (Sum.inr (a, b, d))) ?_
      refine tab_congr fun r hr => ?_
      rw [if_pos hr]
      refine tab_congr fun c hc => ?_
      simp only []
      by_cases h : a.size ≤ r
      · have : r = a.size := by omega
        rw [if_pos h, this, lA_end1]
      · rw [if_neg h]
    · intro n hn
      simp only [q38_L27_s, e2]
      have e3 : IntKind.wrap .i64 ((n : Int) + 1) = ((n + 1 : Nat) : Int) := by rw [wr6 (by omega) (by omega)]; omega
      rw [cT _ _ (by omega), chkT _ (by omega), tab_len, chkT _ (by omega), e3]
      simp only [Int.toNat_natCast, tab_set, tab_rep]
      refine congrArg (fun d => some (Sum.inl (a, b, ((a.size + 1 : Nat) : Int), ((n + 1 : Nat) : Int), d))) ?_
      refine tab_congr fun r hr => ?_
      by_cases h : r = n
      · subst h; simp
      · rw [if_neg h]
        have : r < n ↔ r < n + 1 := by omega
        simp only [this]
  have p2 : q38_L14 loO (a, b, (a.size : Int) - 1, dTab a b (fun r c => if a.size ≤ r then lA a b r c else 0)) = some (a, b, dTab a b (lA a b)) := by
    simp only [q38_L14, runO]
    refine loop_down (N := a.size) (st := fun n => (a, b, (n : Int) - 1, dTab a b (fun r c => if n ≤ r then lA a b r c else 0))) rfl ?_ ?_
    · simp only [q38_L14_s]
      rw [cF _ _ (by omega)]
      simp
    · intro n hn
      have e1 : ((n + 1 : Nat) : Int) - 1 = (n : Int) := by omega
      have e2 : IntKind.wrap .i64 ((n : Int) - 1) = (n : Int) - 1 := wr6 (by omega) (by omega)
      have e5 : IntKind.wrap .i64 ((b.size : Int) - 1) = (b.size : Int) - 1 := wr6 (by omega) (by omega)
      simp only [q38_L14_s, e1, e2, e5]
      rw [cT _ _ (by omega), lRow a b (by omega) (by omega) n (by omega)]
      simp only [bindS, e2]
  obtain ⟨s, hs, hb2⟩ := lcs_walk a b ha hb _ 0 0 (ByteArray.mk #[]) rfl (by omega) (by omega) (by simp [ByteArray.size])
  have hs' : q38_L3 loO (a, b, (0 : Int), (0 : Int), dTab a b (lA a b), ByteArray.mk #[]) = some s := hs
  refine ⟨s, ?_, by rw [hb2]; simp [bl]⟩
  have hl : (decide ((200 : Int) < a.size) || decide ((200 : Int) < b.size)) = false := by simp; omega
  simp only [q38, long2, hl, bindS, cond_false, e1]
  rw [chkT _ (by omega)]
  simp only [Int.toNat_natCast, tab_rep, tab_len, p1, bindS, e0, p2, hs', q37]
def qA (a b : ByteArray) (i j : Nat) : Int := (lcs ((bl a).take i) ((bl b).take j) : Nat)
theorem qA_0 (a b : ByteArray) (j : Nat) : qA a b 0 j = 0 := by
  simp only [qA, List.take_zero]; rw [lcs]; rfl
theorem qA_i0 (a b : ByteArray) (i : Nat) : qA a b i 0 = 0 := by
  simp only [qA, List.take_zero]; rw [lcs_nil]; rfl
theorem qA_step (a b : ByteArray) (i j : Nat) (hi : i < a.size) (hj : j < b.size) : qA a b (i + 1) (j + 1) = if byteI a i = byteI b j then max (max (qA a b i (j + 1)) (qA a b (i + 1) j)) (qA a b i j + 1) else max (qA a b i (j + 1)) (qA a b (i + 1) j) := by
  have h := byteI_eq a b i j
  have e := lcs_snoc (a.data.getD i 0) (b.data.getD j 0) ((bl a).take i) ((bl b).take j)
  rw [← bl_take a i hi, ← bl_take b j hj] at e
  simp only [qA, e]
  by_cases c : byteI a i = byteI b j
  · rw [if_pos c, if_pos (h.1 c)]; omega
  · rw [if_neg c, if_neg (fun x => c (h.2 x))]; omega
theorem qA_le (a b : ByteArray) (i j : Nat) : 0 ≤ qA a b i j ∧ qA a b i j ≤ a.size := by
  have := lcs_le ((bl a).take i) ((bl b).take j)
  simp only [List.length_take, bl_len] at this
  simp only [qA]; omega
theorem refLRow (a b : ByteArray) (ha : a.size ≤ 1000) (hb : b.size ≤ 1000) (i : Nat) (hi : i < a.size) :
    q62_L6 loO (a, b, (i : Int), 0, tab (b.size + 1) (qA a b i), [(0 : Int)]) = some (a, b, (i : Int), tab (b.size + 1) (qA a b (i + 1))) := by
  have hm : (maxEl : Int) ≥ 100000 := by decide
  simp only [q62_L6, runO]
  refine loop_at (N := b.size) (st := fun n => (a, b, (i : Int), (n : Int), tab (b.size + 1) (qA a b i), tab (n + 1) (qA a b (i + 1)))) ?_ ?_ ?_
  · have : tab 1 (qA a b (i + 1)) = [(0 : Int)] := by simp only [tab, List.range_one, List.map_cons, List.map_nil, qA_i0 a b (i + 1)]
    simp only [Nat.zero_add, this]; rfl
  · simp only [q62_L6_s]
    rw [cF _ _ (by omega)]
  · intro n hn
    have e1 : IntKind.wrap .i64 ((n : Int) + 1) = ((n + 1 : Nat) : Int) := by rw [wr6 (by omega) (by omega)]; omega
    have b1 := qA_le a b i n
    have st := qA_step a b i n hi hn
    simp only [q62_L6_s, e1, tab_len, Int.toNat_natCast, List.length_cons, List.length_nil]
    rw [cT _ _ (by omega), chkT _ (by omega), chkT _ (by omega), chkT _ (by omega), chkT _ (by omega)]
    have g1 : (tab (b.size + 1) (qA a b i)).getD n 0 = qA a b i n := tab_get _ _ _ _ (by omega)
    have g2 : (tab (b.size + 1) (qA a b i)).getD (n + 1) 0 = qA a b i (n + 1) := tab_get _ _ _ _ (by omega)
    have g3 : (tab (n + 1) (qA a b (i + 1))).getD n 0 = qA a b (i + 1) n := tab_get _ _ _ _ (by omega)
    rw [g1, g2, g3, wr6 (n := qA a b i n + 1) (by omega) (by omega)]
    by_cases c : byteI a i = byteI b n
    · rw [if_pos c] at st
      rw [cT _ _ c, chkT _ (by omega), chkT _ (by omega), ← st, tab_snoc]
    · rw [if_neg c] at st
      rw [cF _ _ c, chkT _ (by omega), ← st, tab_snoc]
theorem refLongest (a b : ByteArray) (ha : a.size ≤ 1000) (hb : b.size ≤ 1000) : q62 loO a b = some ((lcs (bl a) (bl b) : Nat) : Int) := by
  have hm : (maxEl : Int) ≥ 100000 := by decide
  have e2 : IntKind.wrap .i64 ((b.size : Int) + 1) = ((b.size + 1 : Nat) : Int) := by rw [wr6 (by omega) (by omega)]; omega
  have p2 : q62_L3 loO (a, b, (0 : Int), tab (b.size + 1) (fun _ => (0 : Int))) = some (b, tab (b.size + 1) (qA a b a.size)) := by
    simp only [q62_L3, runO]
    refine loop_at (N := a.size) (st := fun n => (a, b, (n : Int), tab (b.size + 1) (qA a b n))) ?_ ?_ ?_
    · exact congrArg (fun d => (a, b, (0 : Int), d)) (tab_congr fun k hk => (qA_0 a b k).symm)
    · simp only [q62_L3_s]
      rw [cF _ _ (by omega)]
    · intro n hn
      have e1 : IntKind.wrap .i64 ((n : Int) + 1) = ((n + 1 : Nat) : Int) := by rw [wr6 (by omega) (by omega)]; omega
      simp only [q62_L3_s]
      rw [cT _ _ (by omega), refLRow a b ha hb n hn]
      simp only [bindS, e1]
  simp only [q62, e2]
  rw [chkT _ (by omega)]
  simp only [Int.toNat_natCast, tab_rep, p2, bindS, tab_len]
  rw [chkT _ (by omega), tab_get _ _ _ _ (by omega)]
  simp only [qA]
  rw [List.take_of_length_le (by rw [bl_len]; exact Nat.le_refl _), List.take_of_length_le (by rw [bl_len]; exact Nat.le_refl _)]
theorem refWithinL (s a : ByteArray) (hs : s.size ≤ 1000) (ha : a.size ≤ 1000) : ∀ (k i n : Nat), i + k = a.size → n ≤ s.size →
    ∃ m : Nat, q63_L3 loO (s, a, (n : Int), (i : Int)) = some (s, (m : Int)) ∧ (m = s.size ↔ isSub ((bl s).drop n) ((bl a).drop i) = true)
  | 0, i, n, hk, hn => by
    simp only [q63_L3, runO]
    rw [loopO_eq]
    simp only [q63_L3_s]
    rw [cF _ _ (by omega)]
    refine ⟨n, rfl, ?_⟩
    have : (bl a).drop i = [] := List.drop_eq_nil_of_le (by rw [bl_len]; omega)
    rw [this]
    by_cases h : n < s.size
    · rw [bl_get s n h, isSub]; simp; omega
    · have : (bl s).drop n = [] := List.drop_eq_nil_of_le (by rw [bl_len]; omega)
      rw [this, isSub]; simp; omega
  | k + 1, i, n, hk, hn => by
    have e3 : IntKind.wrap .i64 ((i : Int) + 1) = ((i + 1 : Nat) : Int) := by rw [wr6 (by omega) (by omega)]; omega
    have e4 : IntKind.wrap .i64 ((n : Int) + 1) = ((n + 1 : Nat) : Int) := by rw [wr6 (by omega) (by omega)]; omega
    simp only [q63_L3, runO]
    rw [loopO_eq]
    simp only [q63_L3_s]
    rw [cT _ _ (by omega)]
    by_cases h : n < s.size
    · rw [cT _ _ (by omega), chkT _ (by omega), chkT _ (by omega)]
      by_cases c : byteI a i = byteI s n
      · rw [cT _ _ c]
        simp only [e3, e4]
        obtain ⟨m, h1, h2⟩ := refWithinL s a hs ha k (i + 1) (n + 1) (by omega) (by omega)
        refine ⟨m, h1, ?_⟩
        rw [h2, bl_get s n h, bl_get a i (by omega), isSub, if_pos ((byteI_eq a s i n).1 c).symm]
      · rw [cF _ _ c]
        simp only [e3, e4]
        obtain ⟨m, h1, h2⟩ := refWithinL s a hs ha k (i + 1) n (by omega) (by omega)
        refine ⟨m, h1, ?_⟩
        rw [h2, bl_get s n h, bl_get a i (by omega), isSub, if_neg (fun e => c ((byteI_eq a s i n).2 e.symm))]
    · rw [cF _ _ (by omega)]
      refine ⟨n, rfl, ?_⟩
      have : (bl s).drop n = [] := List.drop_eq_nil_of_le (by rw [bl_len]; omega)
      rw [this, isSub]; simp; omega
theorem refWithin (s a : ByteArray) (hs : s.size ≤ 1000) (ha : a.size ≤ 1000) (h : (bl s).Sublist (bl a)) : q63 loO s a = some true := by
  obtain ⟨m, h1, h2⟩ := refWithinL s a hs ha a.size 0 0 (by omega) (by omega)
  have h1' : q63_L3 loO (s, a, (0 : Int), (0 : Int)) = some (s, (m : Int)) := h1
  have := h2.2 (isSub_of h)
  simp only [q63, h1', bindS]
  simp; omega
theorem subseq_law (a b : ByteArray) : q64 loO a b = some true := by
  simp only [q64, aw, Option.bind_some, Bool.not_true, cond_false]
  by_cases h1 : (30 : Int) < a.size
  · simp [h1]
  by_cases h2 : (30 : Int) < b.size
  · simp [h1, h2]
  rw [cF _ _ h1, cF _ _ h2]
  obtain ⟨s, hs, hb⟩ := subseq_eq a b (by omega) (by omega)
  have l1 : s.size = lcs (bl a) (bl b) := by rw [← bl_len, hb, sub2_len]
  have l2 : s.size ≤ a.size := by rw [l1, ← bl_len a]; exact lcs_le _ _
  have w1 := refWithin s a (by omega) (by omega) (hb ▸ sub2_l _ _)
  have w2 := refWithin s b (by omega) (by omega) (hb ▸ sub2_r _ _)
  have m1 := ed_lcs (bl a) (bl b)
  have m2 := (sub2_r (bl a) (bl b)).length_le
  rw [sub2_len] at m2
  simp only [bl_len] at m1 m2
  simp only [hs, dist_eq a b (by omega) (by omega), refLongest a b (by omega) (by omega), bindS, w1, w2, decide_true, cond_true]
  rw [cT _ _ (by omega), wr6 (n := (a.size : Int) + b.size) (by omega) (by omega), wr6 (n := 2 * (s.size : Int)) (by omega) (by omega), wr6 (by omega) (by omega)]
  simp only [Option.some.injEq, decide_eq_true_eq]
  omega
end Go.Abs.G52
