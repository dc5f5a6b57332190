/- Plain law: Apply of both texts. No condition. -/
import Derived.Test.YtgecckncfjmhmaaG1
import Derived.Test.YtgecckncfjmhmaaB
import Derived.RowKit
set_option linter.unusedVariables false
set_option linter.unusedSimpArgs false
set_option linter.unusedSectionVars false
namespace Go.Abs.G52
open Go Go.Abs
set_option linter.unusedSimpArgs false
set_option linter.unusedVariables false
theorem wr64 {n : Int} (h0 : -9223372036854775808 ≤ n) (h1 : n < 9223372036854775808) : IntKind.wrap .i64 n = n := by
  have e : (2 : Int) ^ IntKind.bits .i64 = 18446744073709551616 := rfl
  have e' : (2 : Int) ^ (IntKind.bits .i64 - 1) = 9223372036854775808 := rfl
  have s : IntKind.signed .i64 = true := rfl
  simp only [IntKind.wrap, e, e', s, Bool.true_and, ge_iff_le, decide_eq_true_eq]
  split <;> omega
theorem chk_t {β : Type} {p : Prop} [Decidable p] (x : Option β) (h : p) : chk p x = x := by simp [chk, h]
end Go.Abs.G52
namespace Go.Abs.G52
open Go Go.Abs
set_option linter.unusedSimpArgs false
set_option linter.unusedVariables false
theorem aw : q51 loO = some true := (congrArg q51 (loM_eq 400)).symm.trans (show q51 (loM 400) = some true by kernel_rfl)
theorem runO {S R : Type} (step : S → Option (S ⊕ R)) (x : S) : loO.run step x = loopO step x := rfl
end Go.Abs.G52
namespace Go.Abs
set_option linter.unusedVariables false
inductive Al {α : Type} : List α → List α → Nat → Prop
  | nil : Al [] [] 0
  | mt {a b n} (x) : Al a b n → Al (x :: a) (x :: b) n
  | sb {a b n} (x y) : Al a b n → Al (x :: a) (y :: b) (n + 1)
  | dl {a b n} (x) : Al a b n → Al (x :: a) b (n + 1)
  | is {a b n} (y) : Al a b n → Al a (y :: b) (n + 1)
  | up {a b n} : Al a b n → Al a b (n + 1)
variable {α : Type}
theorem Al.ups {a b : List α} {n m : Nat} (h : Al a b n) (hle : n ≤ m) : Al a b m := by
  obtain ⟨k, rfl⟩ := Nat.exists_eq_add_of_le hle
  clear hle
  induction k with
  | zero => exact h
  | succ k ih => exact ih.up
theorem Al.sym {a b : List α} {n : Nat} (h : Al a b n) : Al b a n := by
  induction h with
  | nil => exact .nil
  | mt x _ ih => exact .mt x ih
  | sb x y _ ih => exact .sb y x ih
  | dl x _ ih => exact .is x ih
  | is y _ ih => exact .dl y ih
  | up _ ih => exact .up ih
theorem Al.len {a b : List α} {n : Nat} (h : Al a b n) : a.length ≤ b.length + n := by
  induction h with
  | nil => exact Nat.le_refl _
  | mt x _ ih => simp only [List.length_cons] at *; omega
  | sb x y _ ih => simp only [List.length_cons] at *; omega
  | dl x _ ih => simp only [List.length_cons] at *; omega
  | is y _ ih => simp only [List.length_cons] at *; omega
  | up _ ih => omega
theorem Al.app {a b : List α} {n : Nat} (h : Al a b n) : ∀ {u v : List α} {m : Nat}, Al u v m → Al (a ++ u) (b ++ v) (n + m) := by
  induction h with
  | nil => intro u v m k; simpa using k
  | mt x _ ih => intro u v m k; exact .mt x (ih k)
  | sb x y _ ih => intro u v m k; have := Al.sb x y (ih k); rw [Nat.add_right_comm] at this; exact this
  | dl x _ ih => intro u v m k; have := Al.dl x (ih k); rw [Nat.add_right_comm] at this; exact this
  | is x _ ih => intro u v m k; have := Al.is x (ih k); rw [Nat.add_right_comm] at this; exact this
  | up _ ih => intro u v m k; have := Al.up (ih k); rw [Nat.add_right_comm] at this; exact this
theorem Al.rev {a b : List α} {n : Nat} (h : Al a b n) : Al a.reverse b.reverse n := by
  induction h with
  | nil => exact .nil
  | mt x _ ih => simp only [List.reverse_cons]; exact ih.app (.mt x .nil)
  | sb x y _ ih => simp only [List.reverse_cons]; exact ih.app (.sb x y .nil)
  | dl x _ ih => simp only [List.reverse_cons]; have := ih.app (.dl x .nil); rw [List.append_nil] at this; exact this
  | is x _ ih => simp only [List.reverse_cons]; have := ih.app (.is x .nil); rw [List.append_nil] at this; exact this
  | up _ ih => exact .up ih
theorem Al.tl1 {x : α} : ∀ {c b : List α} {n : Nat}, Al c b n → ∀ {a}, c = x :: a → Al a b (n + 1) := by
  intro c b n h
  induction h with
  | nil => intro a e; cases e
  | mt y h _ => intro a e; cases e; exact .is _ h
  | sb y z h _ => intro a e; cases e; exact .up (.is _ h)
  | dl y h _ => intro a e; cases e; exact .up (.up h)
  | is y h ih => intro a e; exact .is y (ih e)
  | up h ih => intro a e; exact .up (ih e)
theorem Al.tl {x : α} {a b : List α} {n : Nat} (h : Al (x :: a) b n) : Al a b (n + 1) := h.tl1 rfl
theorem Al.tr {x : α} {a b : List α} {n : Nat} (h : Al a (x :: b) n) : Al a b (n + 1) := h.sym.tl.sym
theorem Al.cut1 {x : α} : ∀ {c d : List α} {n : Nat}, Al c d n → ∀ {a b}, c = x :: a → d = x :: b → Al a b n := by
  intro c d n h
  induction h with
  | nil => intro a b e; cases e
  | mt y h _ => intro a b e f; cases e; cases f; exact h
  | sb y z h _ => intro a b e f; cases e; cases f; exact .up h
  | dl y h _ => intro a b e f; cases e; subst f; exact h.tr
  | is y h _ => intro a b e f; cases f; subst e; exact h.tl
  | up h ih => intro a b e f; exact .up (ih e f)
theorem Al.cut {x : α} {a b : List α} {n : Nat} (h : Al (x :: a) (x :: b) n) : Al a b n := h.cut1 rfl rfl
theorem Al.ne1 {x y : α} (hne : x ≠ y) : ∀ {c d : List α} {n : Nat}, Al c d n → ∀ {a b}, c = x :: a → d = y :: b → ∃ m, n = m + 1 ∧ (Al a b m ∨ Al a (y :: b) m ∨ Al (x :: a) b m) := by
  intro c d n h
  induction h with
  | nil => intro a b e; cases e
  | mt z h _ => intro a b e f; cases e; cases f; exact absurd rfl hne
  | @sb _ _ n u v h _ => intro a b e f; cases e; cases f; exact ⟨n, rfl, .inl h⟩
  | @dl _ _ n u h _ => intro a b e f; cases e; subst f; exact ⟨n, rfl, .inr (.inl h)⟩
  | @is _ _ n u h _ => intro a b e f; cases f; subst e; exact ⟨n, rfl, .inr (.inr h)⟩
  | @up _ _ n h ih =>
    intro a b e f
    obtain ⟨m, rfl, k⟩ := ih e f
    exact ⟨m + 1, rfl, k.imp Al.up (Or.imp Al.up Al.up)⟩
theorem Al.ne {x y : α} (hne : x ≠ y) {a b : List α} {n : Nat} (h : Al (x :: a) (y :: b) n) : ∃ m, n = m + 1 ∧ (Al a b m ∨ Al a (y :: b) m ∨ Al (x :: a) b m) := h.ne1 hne rfl rfl
theorem Al.trans {a b : List α} {n : Nat} (h : Al a b n) : ∀ {c : List α} {m : Nat}, Al b c m → Al a c (n + m) := by
  induction h with
  | nil => intro c m k; simpa using k
  | @mt a b n x h ih =>
    intro c m k
    have : ∀ {d c : List α} {m : Nat}, Al d c m → d = x :: b → Al (x :: a) c (n + m) := by
      intro d c m k
      induction k with
      | nil => intro e; cases e
      | mt z k _ => intro e; cases e; exact .mt _ (ih k)
      | sb z w k _ => intro e; cases e; exact .sb _ _ (ih k)
      | dl z k _ => intro e; cases e; exact .dl _ (ih k)
      | is z k ih2 => intro e; exact .is _ (ih2 e)
      | up k ih2 => intro e; exact .up (ih2 e)
    exact this k rfl
  | @sb a b n x y h ih =>
    intro c m k
    have : ∀ {d c : List α} {m : Nat}, Al d c m → d = y :: b → Al (x :: a) c (n + 1 + m) := by
      intro d c m k
      induction k with
      | nil => intro e; cases e
      | mt z k _ => intro e; cases e; exact (Al.sb _ _ (ih k)).ups (by omega)
      | sb z w k _ => intro e; cases e; exact (Al.sb _ _ (ih k)).ups (by omega)
      | dl z k _ => intro e; cases e; exact (Al.dl _ (ih k)).ups (by omega)
      | is z k ih2 => intro e; exact .is _ (ih2 e)
      | up k ih2 => intro e; exact .up (ih2 e)
    exact this k rfl
  | dl x _ ih => intro c m k; exact (Al.dl x (ih k)).ups (by omega)
  | is y _ ih => intro c m k; exact (ih k.tl).ups (by omega)
  | up _ ih => intro c m k; exact (ih k).ups (by omega)
theorem Al.zero {a b : List α} {n : Nat} (h : Al a b n) : n = 0 → a = b := by
  induction h with
  | nil => intro _; rfl
  | mt x _ ih => intro e; rw [ih e]
  | sb x y _ ih | dl x _ ih | is y _ ih | up _ ih => intro e; omega
variable [DecidableEq α]
def ed : List α → List α → Nat
  | [], b => b.length
  | x :: a, [] => a.length + 1
  | x :: a, y :: b => if x = y then ed a b else 1 + min (ed a b) (min (ed a (y :: b)) (ed (x :: a) b))
termination_by a b => a.length + b.length
omit [DecidableEq α] in
theorem al_nil : ∀ b : List α, Al [] b b.length
  | [] => .nil
  | y :: b => .is y (al_nil b)
theorem ed_nil (a : List α) : ed a [] = a.length := by cases a <;> simp [ed]
theorem ed_al : ∀ a b : List α, Al a b (ed a b)
  | [], b => by rw [ed]; exact al_nil b
  | x :: a, [] => by rw [ed]; exact .dl x (ed_nil a ▸ ed_al a [])
  | x :: a, y :: b => by
    rw [ed]
    split
    · rename_i h; subst h; exact .mt x (ed_al a b)
    · have h1 := ed_al a b
      have h2 := ed_al a (y :: b)
      have h3 := ed_al (x :: a) b
      rw [Nat.add_comm]
      rcases Nat.le_total (ed a b) (min (ed a (y :: b)) (ed (x :: a) b)) with h | h
      · rw [Nat.min_eq_left h]; exact .sb x y h1
      · rw [Nat.min_eq_right h]
        rcases Nat.le_total (ed a (y :: b)) (ed (x :: a) b) with h | h
        · rw [Nat.min_eq_left h]; exact .dl x h2
        · rw [Nat.min_eq_right h]; exact .is y h3
termination_by a b => a.length + b.length
theorem ed_le : ∀ (a b : List α) {n : Nat}, Al a b n → ed a b ≤ n
  | [], b, n, h => by rw [ed]; have := h.sym.len; simpa using this
  | x :: a, [], n, h => by rw [ed]; have := h.len; simpa using this
  | x :: a, y :: b, n, h => by
    rw [ed]
    split
    · rename_i e; subst e; exact ed_le a b h.cut
    · rename_i e
      obtain ⟨m, rfl, k⟩ := h.ne e
      rcases k with k | k | k
      · have := ed_le a b k; omega
      · have := ed_le a (y :: b) k; omega
      · have := ed_le (x :: a) b k; omega
termination_by a b => a.length + b.length
theorem ed_max : ∀ a b : List α, ed a b ≤ max a.length b.length
  | [], b => by rw [ed]; simp
  | x :: a, [] => by rw [ed]; simp
  | x :: a, y :: b => by
    have := ed_max a b
    rw [ed]
    simp only [List.length_cons]
    split <;> omega
theorem ed_rev (a b : List α) : ed a.reverse b.reverse = ed a b := by
  refine Nat.le_antisymm (ed_le _ _ (ed_al a b).rev) (ed_le _ _ ?_)
  have := (ed_al a.reverse b.reverse).rev
  simpa using this
theorem ed_step (x y : α) (a b : List α) : ed (x :: a) (y :: b) = min (ed a b + if x = y then 0 else 1) (min (ed a (y :: b) + 1) (ed (x :: a) b + 1)) := by
  have h1 := ed_le a b ((ed_al a (y :: b)).tr)
  have h2 := ed_le a b ((ed_al (x :: a) b).tl)
  rw [ed]
  split <;> omega
theorem ed_snoc (x y : α) (a b : List α) : ed (a ++ [x]) (b ++ [y]) = min (ed a b + if x = y then 0 else 1) (min (ed a (b ++ [y]) + 1) (ed (a ++ [x]) b + 1)) := by
  have := ed_step x y a.reverse b.reverse
  have e : ∀ (l : List α) (z : α), z :: l.reverse = (l ++ [z]).reverse := fun l z => by simp
  rw [e, e, ed_rev, ed_rev, ed_rev, ed_rev] at this
  exact this
end Go.Abs
namespace Go.Abs
set_option linter.unusedSimpArgs false
set_option linter.unusedVariables false
theorem wr6 {n : Int} (h0 : -9223372036854775808 ≤ n) (h1 : n < 9223372036854775808) : IntKind.wrap .i64 n = n := by
  have e : (2 : Int) ^ IntKind.bits .i64 = 18446744073709551616 := rfl
  have e' : (2 : Int) ^ (IntKind.bits .i64 - 1) = 9223372036854775808 := rfl
  have s : IntKind.signed .i64 = true := rfl
  simp only [IntKind.wrap, e, e', s, Bool.true_and, ge_iff_le, decide_eq_true_eq]
  split <;> omega
theorem chkT {β : Type} {p : Prop} [Decidable p] (x : Option β) (h : p) : chk p x = x := by simp [chk, h]
theorem cT {β : Type} {p : Prop} [Decidable p] (x y : β) (h : p) : (bif decide p then x else y) = x := by simp [h]
theorem cF {β : Type} {p : Prop} [Decidable p] (x y : β) (h : ¬ p) : (bif decide p then x else y) = y := by simp [h]
theorem bindS {α β : Type} (a : α) (f : α → Option β) : Option.bind (some a) f = f a := rfl
theorem loop_up {S R : Type} {step : S → Option (S ⊕ R)} (st : Nat → S) (N : Nat) (r : R) (he : step (st N) = some (.inr r)) (hs : ∀ n, n < N → step (st n) = some (.inl (st (n + 1)))) : ∀ k n, n + k = N → loopO step (st n) = some r
  | 0, n, h => by rw [loopO_eq]; simp only [Nat.add_zero] at h; subst h; rw [he]
  | k + 1, n, h => by rw [loopO_eq, hs n (by omega)]; exact loop_up st N r he hs k (n + 1) (by omega)
theorem loop_dn {S R : Type} {step : S → Option (S ⊕ R)} (st : Nat → S) (N : Nat) (r : R) (he : step (st 0) = some (.inr r)) (hs : ∀ n, n < N → step (st (n + 1)) = some (.inl (st n))) : ∀ n, n ≤ N → loopO step (st n) = some r
  | 0, h => by rw [loopO_eq, he]
  | n + 1, h => by rw [loopO_eq, hs n (by omega)]; exact loop_dn st N r he hs n (by omega)
theorem loop_at {S R : Type} {step : S → Option (S ⊕ R)} {st : Nat → S} {N : Nat} {r : R} {s : S} (hst : s = st 0) (he : step (st N) = some (.inr r)) (hs : ∀ n, n < N → step (st n) = some (.inl (st (n + 1)))) : loopO step s = some r := by
  subst hst; exact loop_up st N r he hs N 0 (by omega)
theorem loop_down {S R : Type} {step : S → Option (S ⊕ R)} {st : Nat → S} {N : Nat} {r : R} {s : S} (hst : s = st N) (he : step (st 0) = some (.inr r)) (hs : ∀ n, n < N → step (st (n + 1)) = some (.inl (st n))) : loopO step s = some r := by
  subst hst; exact loop_dn st N r he hs N (Nat.le_refl _)
def tab {α : Type} (n : Nat) (f : Nat → α) : List α := (List.range n).map f
theorem tab_len {α : Type} (n : Nat) (f : Nat → α) : (tab n f).length = n := by simp [tab]
theorem tab_get {α : Type} (n : Nat) (f : Nat → α) (i : Nat) (d : α) (h : i < n) : (tab n f).getD i d = f i := by simp [tab, List.getD_eq_getElem?_getD, h]
theorem tab_set {α : Type} (n : Nat) (f : Nat → α) (i : Nat) (v : α) : (tab n f).set i v = tab n (fun k => if k = i then v else f k) := by
  apply List.ext_getElem?
  intro k
  by_cases h : k < n
  · by_cases e : k = i
    · subst e; simp [tab, List.getElem?_set, h]
    · simp [tab, List.getElem?_set, h, e, Ne.symm e]
  · simp [tab, List.getElem?_set, h, List.getElem?_eq_none]
theorem tab_congr {α : Type} {n : Nat} {f g : Nat → α} (h : ∀ k, k < n → f k = g k) : tab n f = tab n g :=
  List.map_congr_left (fun k hk => h k (by simpa using hk))
theorem tab_rep {α : Type} (n : Nat) (a : α) : List.replicate n a = tab n (fun _ => a) := by
  apply List.ext_getElem (by simp [tab])
  intro k h1 h2
  simp [tab]
theorem tab_snoc {α : Type} (n : Nat) (f : Nat → α) : tab n f ++ [f n] = tab (n + 1) f := by simp [tab, List.range_succ]
def bl (s : ByteArray) : List UInt8 := s.data.toList
theorem bl_len (s : ByteArray) : (bl s).length = s.size := Array.length_toList
theorem bl_get (s : ByteArray) (i : Nat) (h : i < s.size) : (bl s).drop i = s.data.getD i 0 :: (bl s).drop (i + 1) := by
  have h' : i < (bl s).length := by rw [bl_len]; exact h
  rw [List.drop_eq_getElem_cons h']
  congr 1
  have h2 : i < s.data.size := h
  simp [bl, Array.getD, h2]
  intro hh; omega
theorem bl_take (s : ByteArray) (i : Nat) (h : i < s.size) : (bl s).take (i + 1) = (bl s).take i ++ [s.data.getD i 0] := by
  have h' : i < (bl s).length := by rw [bl_len]; exact h
  have h2 : i < s.data.size := h
  rw [← List.take_append_getElem h']
  congr 2
  simp [bl, Array.getD, h2]
  intro hh; omega
theorem byteI_eq (a b : ByteArray) (i j : Nat) : (byteI a i = byteI b j) ↔ a.data.getD i 0 = b.data.getD j 0 := by
  simp only [byteI, Int.toNat_natCast]
  constructor
  · intro h
    have : (a.data.getD i 0).toNat = (b.data.getD j 0).toNat := by omega
    exact UInt8.toNat_inj.1 this
  · intro h; rw [h]
end Go.Abs
namespace Go.Abs.G52
open Go Go.Abs
set_option linter.unusedSimpArgs false
set_option linter.unusedVariables false
def eA (a b : ByteArray) (i j : Nat) : Int := (ed ((bl a).drop i) ((bl b).drop j) : Nat)
theorem eA_end1 (a b : ByteArray) (j : Nat) (hj : j ≤ b.size) : eA a b a.size j = (b.size : Int) - j := by
  have : (bl a).drop a.size = [] := List.drop_eq_nil_of_le (by rw [bl_len]; exact Nat.le_refl _)
  rw [eA, this, ed, List.length_drop, bl_len]; omega
theorem eA_end2 (a b : ByteArray) (i : Nat) (hi : i ≤ a.size) : eA a b i b.size = (a.size : Int) - i := by
  have : (bl b).drop b.size = [] := List.drop_eq_nil_of_le (by rw [bl_len]; exact Nat.le_refl _)
  rw [eA, this, ed_nil, List.length_drop, bl_len]; omega
theorem eA_eq (a b : ByteArray) (i j : Nat) (hi : i < a.size) (hj : j < b.size) (h : byteI a i = byteI b j) : eA a b i j = eA a b (i + 1) (j + 1) := by
  rw [eA, bl_get a i hi, bl_get b j hj, ed, if_pos ((byteI_eq a b i j).1 h)]; rfl
theorem eA_ne (a b : ByteArray) (i j : Nat) (hi : i < a.size) (hj : j < b.size) (h : ¬ byteI a i = byteI b j) : eA a b i j = 1 + min (min (eA a b (i + 1) (j + 1)) (eA a b (i + 1) j)) (eA a b i (j + 1)) := by
  have h' : ¬ a.data.getD i 0 = b.data.getD j 0 := fun e => h ((byteI_eq a b i j).2 e)
  have e1 : eA a b i j = ((1 + min (ed ((bl a).drop (i + 1)) ((bl b).drop (j + 1))) (min (ed ((bl a).drop (i + 1)) ((bl b).drop j)) (ed ((bl a).drop i) ((bl b).drop (j + 1)))) : Nat) : Int) := by
    rw [bl_get a i hi, bl_get b j hj, eA, bl_get a i hi, bl_get b j hj, ed, if_neg h']
  rw [e1]; simp only [eA]; omega
theorem eA_le (a b : ByteArray) (i j : Nat) : 0 ≤ eA a b i j ∧ eA a b i j ≤ a.size + b.size := by
  have := ed_max ((bl a).drop i) ((bl b).drop j)
  simp only [List.length_drop, bl_len] at this
  simp only [eA]; omega
def dTab (a b : ByteArray) (f : Nat → Nat → Int) : List (List Int) := tab (a.size + 1) fun r => tab (b.size + 1) fun c => f r c
def dF (a b : ByteArray) (i n r c : Nat) : Int := if i + 1 ≤ r ∨ (r = i ∧ n ≤ c) then eA a b r c else 0
theorem dRow (a b : ByteArray) (ha : a.size ≤ 1000) (hb : b.size ≤ 1000) (i : Nat) (hi : i ≤ a.size) :
    q4_L5 loO (a, b, (i : Int), (b.size : Int), dTab a b (fun r c => if i + 1 ≤ r then eA a b r c else 0)) = some (a, b, (i : Int), dTab a b (fun r c => if i ≤ r then eA a b r c else 0)) := by
  simp only [q4_L5, runO]
  refine loop_down (N := b.size + 1) (st := fun n => (a, b, (i : Int), (n : Int) - 1, dTab a b (dF a b i n))) ?_ ?_ ?_
  · have e1 : ((b.size + 1 : Nat) : Int) - 1 = b.size := by omega
    simp only [e1]
    refine congrArg (fun d => (a, b, (i : Int), (b.size : Int), d)) ?_
    refine tab_congr fun r hr => tab_congr fun c hc => ?_
    have : (i + 1 ≤ r ∨ r = i ∧ b.size + 1 ≤ c) ↔ i + 1 ≤ r := by omega
    simp only [dF, this]
  · simp only [q4_L5_s]
    rw [cF _ _ (by omega)]
    refine congrArg (fun d => some (Sum.inr (a, b, (i : Int), d))) ?_
    refine tab_congr fun r hr => tab_congr fun c hc => ?_
    have : (i + 1 ≤ r ∨ r = i ∧ 0 ≤ c) ↔ i ≤ r := by omega
    simp only [dF, this]
  · intro n hn
    have e1 : ((n + 1 : Nat) : Int) - 1 = (n : Int) := by omega
    have e2 : IntKind.wrap .i64 ((n : Int) - 1) = (n : Int) - 1 := wr6 (by omega) (by omega)
    have e3 : IntKind.wrap .i64 ((i : Int) + 1) = ((i + 1 : Nat) : Int) := by rw [wr6 (by omega) (by omega)]; omega
    have e4 : IntKind.wrap .i64 ((n : Int) + 1) = ((n + 1 : Nat) : Int) := by rw [wr6 (by omega) (by omega)]; omega
    have L1 : ∀ f, (dTab a b f).length = a.size + 1 := fun f => tab_len _ _
    have L2 : ∀ (f : Nat → Nat → Int) (r : Nat), r ≤ a.size → (dTab a b f).getD r [] = tab (b.size + 1) (f r) := fun f r hr => tab_get _ _ _ _ (by omega)
    have fin : ∀ (v : Int), v = eA a b i n → (dTab a b (dF a b i (n + 1))).set i ((tab (b.size + 1) (dF a b i (n + 1) i)).set n v) = dTab a b (dF a b i n) := by
      intro v hv
      simp only [dTab, tab_set]
      refine tab_congr fun r hr => ?_
      by_cases h : r = i
      · subst h
        rw [if_pos rfl]
        refine tab_congr fun c hc => ?_
        by_cases h2 : c = n
        · subst h2; rw [if_pos rfl, dF, if_pos (Or.inr ⟨rfl, Nat.le_refl _⟩), hv]
        · rw [if_neg h2]
          have : (r + 1 ≤ r ∨ r = r ∧ n + 1 ≤ c) ↔ (r + 1 ≤ r ∨ r = r ∧ n ≤ c) := by omega
          unfold dF
          by_cases h3 : r + 1 ≤ r ∨ r = r ∧ n ≤ c
          · rw [if_pos h3, if_pos (this.2 h3)]
          · rw [if_neg h3, if_neg (fun h => h3 (this.1 h))]
      · rw [if_neg h]
        refine tab_congr fun c hc => ?_
        have : (i + 1 ≤ r ∨ r = i ∧ n + 1 ≤ c) ↔ (i + 1 ≤ r ∨ r = i ∧ n ≤ c) := by omega
        simp only [dF, this]
    simp only [q4_L5_s, e1, e2]
    rw [cT _ _ (by omega)]
    simp only [L1, Int.toNat_natCast, L2 _ _ hi, tab_len]
    by_cases h1 : i = a.size
    · rw [cT _ _ (by omega), chkT _ (by omega), chkT _ (by omega), fin]
      rw [wr6 (by omega) (by omega)]
      subst h1; rw [eA_end1 a b n (by omega)]
    · rw [cF _ _ (by omega)]
      by_cases h2 : n = b.size
      · rw [cT _ _ (by omega), chkT _ (by omega), chkT _ (by omega), fin]
        rw [wr6 (by omega) (by omega)]
        subst h2; rw [eA_end2 a b i (by omega)]
      · rw [cF _ _ (by omega), chkT _ (by omega), chkT _ (by omega)]
        simp only [e3, e4, Int.toNat_natCast, L2 _ (i + 1) (by omega), tab_len]
        have g1 : ∀ (c : Nat), c ≤ b.size → (tab (b.size + 1) (dF a b i (n + 1) (i + 1))).getD c 0 = eA a b (i + 1) c := by
          intro c hc
          rw [tab_get _ _ _ _ (by omega), dF, if_pos (Or.inl (Nat.le_refl _))]
        have g2 : (tab (b.size + 1) (dF a b i (n + 1) i)).getD (n + 1) 0 = eA a b i (n + 1) := by
          rw [tab_get _ _ _ _ (by omega), dF, if_pos (Or.inr ⟨rfl, Nat.le_refl _⟩)]
        by_cases h3 : byteI a i = byteI b n
        · rw [cT _ _ h3, chkT _ (by omega), chkT _ (by omega), chkT _ (by omega), chkT _ (by omega), fin]
          rw [g1 _ (by omega), eA_eq a b i n (by omega) (by omega) h3]
        · rw [cF _ _ h3]
          repeat rw [chkT _ (by omega)]
          rw [fin]
          rw [g1 _ (by omega), g1 _ (by omega), g2, eA_ne a b i n (by omega) (by omega) h3]
          have b1 := eA_le a b (i + 1) (n + 1)
          have b2 := eA_le a b (i + 1) n
          have b3 := eA_le a b i (n + 1)
          rw [wr6 (by omega) (by omega)]
theorem dist_tab (a b : ByteArray) (ha : a.size ≤ 1000) (hb : b.size ≤ 1000) : q4 loO a b = some (dTab a b (eA a b)) := by
  have e1 : IntKind.wrap .i64 ((a.size : Int) + 1) = ((a.size + 1 : Nat) : Int) := by rw [wr6 (by omega) (by omega)]; omega
  have e2 : IntKind.wrap .i64 ((b.size : Int) + 1) = ((b.size + 1 : Nat) : Int) := by rw [wr6 (by omega) (by omega)]; omega
  have hm : (maxEl : Int) ≥ 100000 := by decide
  have p1 : q4_L20 loO (a, b, ((a.size + 1 : Nat) : Int), 0, tab (a.size + 1) (fun _ => [])) = some (a, b, dTab a b (fun r c => if a.size + 1 ≤ r then eA a b r c else 0)) := by
    simp only [q4_L20, runO]
    refine loop_at (N := a.size + 1) (st := fun n => (a, b, ((a.size + 1 : Nat) : Int), (n : Int), tab (a.size + 1) (fun r => if r < n then tab (b.size + 1) (fun _ => (0 : Int)) else []))) ?_ ?_ ?_
    · simp
    · simp only [q4_L20_s]
      rw [cF _ _ (by omega)]
      refine congrArg (fun d => some (Sum.inr (a, b, d))) ?_
      refine tab_congr fun r hr => ?_
      rw [if_pos hr]
      refine tab_congr fun c hc => ?_
      simp only []
      rw [if_neg (by omega)]
    · intro n hn
      simp only [q4_L20_s, e2]
      have e3 : IntKind.wrap .i64 ((n : Int) + 1) = ((n + 1 : Nat) : Int) := by rw [wr6 (by omega) (by omega)]; omega
      rw [cT _ _ (by omega), chkT _ (by omega), tab_len, chkT _ (by omega), e3]
      simp only [Int.toNat_natCast, tab_set, tab_rep]
      refine congrArg (fun d => some (Sum.inl (a, b, ((a.size + 1 : Nat) : Int), ((n + 1 : Nat) : Int), d))) ?_
      refine tab_congr fun r hr => ?_
      by_cases h : r = n
      · subst h; simp
      · rw [if_neg h]
        have : r < n ↔ r < n + 1 := by omega
        simp only [this]
  have p2 : q4_L3 loO (a, b, (a.size : Int), dTab a b (fun r c => if a.size + 1 ≤ r then eA a b r c else 0)) = some (dTab a b (eA a b)) := by
    simp only [q4_L3, runO]
    refine loop_down (N := a.size + 1) (st := fun n => (a, b, (n : Int) - 1, dTab a b (fun r c => if n ≤ r then eA a b r c else 0))) ?_ ?_ ?_
    · have : ((a.size + 1 : Nat) : Int) - 1 = a.size := by omega
      simp only [this]
    · simp only [q4_L3_s]
      rw [cF _ _ (by omega)]
      simp
    · intro n hn
      have e1 : ((n + 1 : Nat) : Int) - 1 = (n : Int) := by omega
      have e2 : IntKind.wrap .i64 ((n : Int) - 1) = (n : Int) - 1 := wr6 (by omega) (by omega)
      simp only [q4_L3_s, e1, e2]
      rw [cT _ _ (by omega), dRow a b ha hb n (by omega)]
      simp only [bindS, e2]
  simp only [q4, e1]
  rw [chkT _ (by omega)]
  simp only [Int.toNat_natCast, tab_rep, tab_len, p1, bindS, p2]
theorem long2 (a b : ByteArray) : q3 loO [a, b] = some (decide ((200 : Int) < a.size) || decide ((200 : Int) < b.size)) := by
  have h : q1 loO [a, b] = some (if (200 : Int) < a.size then 0 else if (200 : Int) < b.size then 1 else -1) := by
    simp only [q1, q1_L3, runO]
    rw [loopO_eq]
    simp only [q1_L3_s, q0]
    have e0 : ([a, b].length : Int) = 2 := rfl
    simp only [e0, show decide ((0 : Int) < 2) = true from rfl, cond_true, Option.bind_some, show (0 : Int).toNat = 0 from rfl, List.getD_cons_zero, chk_t _ (show (0 : Int) ≤ 0 ∧ (0 : Int) < 2 by decide)]
    by_cases h : (200 : Int) < a.size
    · simp [h, alt2]
    · simp only [h, decide_false, cond_false]
      rw [loopO_eq]
      have e1 : IntKind.wrap .i64 (0 + 1) = 1 := rfl
      simp only [q1_L3_s, q0, e0, e1]
      simp only [show decide ((1 : Int) < 2) = true from rfl, cond_true, Option.bind_some, show (1 : Int).toNat = 1 from rfl, List.getD_cons_succ, List.getD_cons_zero, chk_t _ (show (0 : Int) ≤ 1 ∧ (1 : Int) < 2 by decide)]
      by_cases h2 : (200 : Int) < b.size
      · simp [h2, alt2]
      · simp only [h2, decide_false, cond_false]
        rw [loopO_eq]
        simp [q1_L3_s, wr64, alt2]
  simp only [q3, q2, h, Option.bind_some]
  by_cases h : (200 : Int) < a.size <;> by_cases h2 : (200 : Int) < b.size <;> simp [h, h2]
theorem dist_eq (a b : ByteArray) (ha : a.size ≤ 200) (hb : b.size ≤ 200) : q5 loO a b = some (((ed (bl a) (bl b) : Nat) : Int), 0) := by
  have : ∀ f : Nat → Nat → Int, (dTab a b f).getD 0 [] = tab (b.size + 1) (f 0) := fun f => tab_get _ _ _ _ (by omega)
  have h : (decide ((200 : Int) < a.size) || decide ((200 : Int) < b.size)) = false := by simp; omega
  simp only [q5, long2, h, bindS, cond_false, dist_tab a b (by omega) (by omega), this, tab_len, show (dTab a b (eA a b)).length = a.size + 1 from tab_len _ _]
  rw [chkT _ (by omega), chkT _ (by omega), tab_get _ _ _ _ (by omega)]
  simp [eA]
end Go.Abs.G52
namespace Go.Abs.G52
open Go Go.Abs
set_option linter.unusedSimpArgs false
set_option linter.unusedVariables false
def pA (a b : ByteArray) (i j : Nat) : Int := (ed ((bl a).take i) ((bl b).take j) : Nat)
theorem pA_0 (a b : ByteArray) (j : Nat) (hj : j ≤ b.size) : pA a b 0 j = j := by
  simp only [pA, List.take_zero]
  rw [ed, List.length_take, bl_len]; omega
theorem pA_i0 (a b : ByteArray) (i : Nat) (hi : i ≤ a.size) : pA a b i 0 = i := by
  simp only [pA, List.take_zero]
  rw [ed_nil, List.length_take, bl_len]; omega
theorem pA_step (a b : ByteArray) (i j : Nat) (hi : i < a.size) (hj : j < b.size) : pA a b (i + 1) (j + 1) = min (min (if byteI a i = byteI b j then pA a b i j else pA a b i j + 1) (pA a b i (j + 1) + 1)) (pA a b (i + 1) j + 1) := by
  have h := byteI_eq a b i j
  have e := ed_snoc (a.data.getD i 0) (b.data.getD j 0) ((bl a).take i) ((bl b).take j)
  rw [← bl_take a i hi, ← bl_take b j hj] at e
  simp only [pA, e]
  by_cases c : byteI a i = byteI b j
  · rw [if_pos c, if_pos (h.1 c)]; omega
  · rw [if_neg c, if_neg (fun x => c (h.2 x))]; omega
theorem pA_le (a b : ByteArray) (i j : Nat) : 0 ≤ pA a b i j ∧ pA a b i j ≤ a.size + b.size := by
  have := ed_max ((bl a).take i) ((bl b).take j)
  simp only [List.length_take, bl_len] at this
  simp only [pA]; omega
theorem refRow (a b : ByteArray) (ha : a.size ≤ 1000) (hb : b.size ≤ 1000) (i : Nat) (hi : i < a.size) :
    q66_L6 loO (a, b, (i : Int), 0, tab (b.size + 1) (pA a b i), [((i + 1 : Nat) : Int)]) = some (a, b, (i : Int), tab (b.size + 1) (pA a b (i + 1))) := by
  have hm : (maxEl : Int) ≥ 100000 := by decide
  simp only [q66_L6, runO]
  refine loop_at (N := b.size) (st := fun n => (a, b, (i : Int), (n : Int), tab (b.size + 1) (pA a b i), tab (n + 1) (pA a b (i + 1)))) ?_ ?_ ?_
  · have : tab 1 (pA a b (i + 1)) = [((i + 1 : Nat) : Int)] := by simp only [tab, List.range_one, List.map_cons, List.map_nil, pA_i0 a b (i + 1) (by omega)]
    simp only [Nat.zero_add, this]; rfl
  · simp only [q66_L6_s]
    rw [cF _ _ (by omega)]
  · intro n hn
    have e1 : IntKind.wrap .i64 ((n : Int) + 1) = ((n + 1 : Nat) : Int) := by rw [wr6 (by omega) (by omega)]; omega
    have b1 := pA_le a b i n
    have b2 := pA_le a b i (n + 1)
    have b3 := pA_le a b (i + 1) n
    have st := pA_step a b i n hi hn
    simp only [q66_L6_s, e1, tab_len, Int.toNat_natCast, q66_J11, List.length_cons, List.length_nil]
    rw [cT _ _ (by omega), chkT _ (by omega), chkT _ (by omega), chkT _ (by omega)]
    have g1 : (tab (b.size + 1) (pA a b i)).getD n 0 = pA a b i n := tab_get _ _ _ _ (by omega)
    have g2 : (tab (b.size + 1) (pA a b i)).getD (n + 1) 0 = pA a b i (n + 1) := tab_get _ _ _ _ (by omega)
    have g3 : (tab (n + 1) (pA a b (i + 1))).getD n 0 = pA a b (i + 1) n := tab_get _ _ _ _ (by omega)
    rw [g1, g2, g3, wr6 (n := pA a b i n + 1) (by omega) (by omega), wr6 (n := pA a b i (n + 1) + 1) (by omega) (by omega), wr6 (n := pA a b (i + 1) n + 1) (by omega) (by omega)]
    by_cases c : byteI a i = byteI b n
    · rw [if_pos c] at st
      simp only [c, decide_true, Bool.not_true, cond_false]
      rw [chkT _ (by omega), chkT _ (by omega), chkT _ (by omega), ← st, tab_snoc]
      simp only [bindS, e1]
    · rw [if_neg c] at st
      simp only [c, decide_false, Bool.not_false, cond_true]
      rw [chkT _ (by omega), chkT _ (by omega), chkT _ (by omega), ← st, tab_snoc]
      simp only [bindS, e1]
theorem refDist (a b : ByteArray) (ha : a.size ≤ 1000) (hb : b.size ≤ 1000) : q66 loO a b = some ((ed (bl a) (bl b) : Nat) : Int) := by
  have hm : (maxEl : Int) ≥ 100000 := by decide
  have p1 : q66_L20 loO (a, b, (0 : Int), []) = some (a, b, tab (b.size + 1) (pA a b 0)) := by
    simp only [q66_L20, runO]
    refine loop_at (N := b.size + 1) (st := fun n => (a, b, (n : Int), tab n (fun k => (k : Int)))) rfl ?_ ?_
    · simp only [q66_L20_s]
      rw [cF _ _ (by omega)]
      refine congrArg (fun d => some (Sum.inr (a, b, d))) (tab_congr fun k hk => ?_)
      rw [pA_0 a b k (by omega)]
    · intro n hn
      have e1 : IntKind.wrap .i64 ((n : Int) + 1) = ((n + 1 : Nat) : Int) := by rw [wr6 (by omega) (by omega)]; omega
      simp only [q66_L20_s, tab_len, List.length_cons, List.length_nil]
      rw [cT _ _ (by omega), chkT _ (by omega), e1]
      exact congrArg (fun d => some (Sum.inl (a, b, ((n + 1 : Nat) : Int), d))) (tab_snoc n (fun k => (k : Int)))
  have p2 : q66_L3 loO (a, b, (0 : Int), tab (b.size + 1) (pA a b 0)) = some (b, tab (b.size + 1) (pA a b a.size)) := by
    simp only [q66_L3, runO]
    refine loop_at (N := a.size) (st := fun n => (a, b, (n : Int), tab (b.size + 1) (pA a b n))) rfl ?_ ?_
    · simp only [q66_L3_s]
      rw [cF _ _ (by omega)]
    · intro n hn
      have e1 : IntKind.wrap .i64 ((n : Int) + 1) = ((n + 1 : Nat) : Int) := by rw [wr6 (by omega) (by omega)]; omega
      simp only [q66_L3_s, e1]
      rw [cT _ _ (by omega), refRow a b ha hb n hn]
      simp only [bindS, e1]
  simp only [q66, p1, p2, bindS, tab_len, Int.toNat_natCast]
  rw [chkT _ (by omega), tab_get _ _ _ _ (by omega)]
  simp only [pA]
  rw [List.take_of_length_le (by rw [bl_len]; exact Nat.le_refl _), List.take_of_length_le (by rw [bl_len]; exact Nat.le_refl _)]
theorem dist_long (a b : ByteArray) (h : (200 : Int) < a.size ∨ (200 : Int) < b.size) : q5 loO a b = some (0, 3) := by
  have h : (decide ((200 : Int) < a.size) || decide ((200 : Int) < b.size)) = true := by simpa using h
  simp only [q5, long2, h, bindS, cond_true]
theorem distance_law (a b : ByteArray) (m : Int) : q67 loO a b m = some true := by
  by_cases c : (200 : Int) < a.size ∨ (200 : Int) < b.size
  · have d := dist_long a b c
    simp only [q67, q65, aw, d, bindS, q53, Bool.not_true, cond_false]
    by_cases h1 : (60 : Int) < a.size <;> by_cases h2 : (200 : Int) < a.size <;> by_cases h3 : (300 : Int) < a.size <;> by_cases h4 : (60 : Int) < b.size <;> by_cases h5 : (200 : Int) < b.size <;> by_cases h6 : (300 : Int) < b.size <;> first | omega | simp [h1, h2, h3, h4, h5, h6]
  · have d := dist_eq a b (by omega) (by omega)
    have r := refDist a b (by omega) (by omega)
    have h2 : ¬ (200 : Int) < a.size := by omega
    have h3 : ¬ (300 : Int) < a.size := by omega
    have h5 : ¬ (200 : Int) < b.size := by omega
    have h6 : ¬ (300 : Int) < b.size := by omega
    simp only [q67, q65, aw, d, r, bindS, q53, Bool.not_true, cond_false]
    by_cases h1 : (60 : Int) < a.size <;> by_cases h4 : (60 : Int) < b.size <;> simp [h1, h2, h3, h4, h5, h6]
end Go.Abs.G52
