/- Helpers of the plain laws: loops as states by number, tables, short words. No condition. -/
import Derived.Test.YtkgoecnchnbbfaaB
import Derived.Test.YtkgoecnchnbbfaaG
set_option linter.unusedVariables false
set_option linter.unusedSimpArgs false
set_option linter.unusedSectionVars false
namespace Go.Abs
theorem wr6 {n : Int} (h0 : -9223372036854775808 <= n) (h1 : n < 9223372036854775808) : IntKind.wrap .i64 n = n := by
 have e : (2 : Int) ^ IntKind.bits .i64 = 18446744073709551616 := rfl
 have e' : (2 : Int) ^ (IntKind.bits .i64 - 1) = 9223372036854775808 := rfl
 have s : IntKind.signed .i64 = true := rfl
 simp only [IntKind.wrap, e, e', s, Bool.true_and, ge_iff_le, decide_eq_true_eq]
 split <;> omega
theorem chkT {β : Type} {p : Prop} [Decidable p] (x : Option β) (h : p) : chk p x = x := by simp [chk, h]
theorem bindS {α β : Type} (a : α) (f : α -> Option β) : Option.bind (some a) f = f a := rfl
theorem loop_up {S R : Type} {step : S -> Option (S ⊕ R)} (st : Nat -> S) (N : Nat) (r : R) (he : step (st N) = some (.inr r)) (hs : ∀ n, n < N -> step (st n) = some (.inl (st (n + 1)))) : ∀ k n, n + k = N -> loopO step (st n) = some r
 | 0, n, h => by rw [loopO_eq]; simp only [Nat.add_zero] at h; subst h; rw [he]
 | k + 1, n, h => by rw [loopO_eq, hs n (by omega)]; exact loop_up st N r he hs k (n + 1) (by omega)
theorem loop_at {S R : Type} {step : S -> Option (S ⊕ R)} {st : Nat -> S} {N : Nat} {r : R} {s : S} (hst : s = st 0) (he : step (st N) = some (.inr r)) (hs : ∀ n, n < N -> step (st n) = some (.inl (st (n + 1)))) : loopO step s = some r := by
 subst hst; exact loop_up st N r he hs N 0 (by omega)
def bl (s : ByteArray) : List UInt8 := s.data.toList
theorem byteI_eq (a b : ByteArray) (i j : Nat) : (byteI a i = byteI b j) ↔ a.data.getD i 0 = b.data.getD j 0 := by
 simp only [byteI, Int.toNat_natCast]
 constructor
 ·intro h
  have : (a.data.getD i 0).toNat = (b.data.getD j 0).toNat := by omega
  exact UInt8.toNat_inj.1 this
 ·intro h; rw [h]
end Go.Abs
namespace Go.Abs.G03
open Go Go.Abs
set_option maxRecDepth 100000
theorem J17_eq {v4_0 : ByteArray} {v4_1 : List ByteArray} {v4_2 : List (Int × List (Int × Int × ByteArray))} {out8 : ByteArray} {clk : Int} {ents : List (Int × ByteArray × List (Int × Int × ByteArray))} {m2 : Bool} {h4 : List ByteArray} {h5 : List (Int × List (Int × Int × ByteArray))}
  {y} (hd : (ents.map (·.1)).Nodup) (hl : ents.length <= maxEl)
  (hy : q36_J17_r loO (v4_0, v4_1, v4_2, out8, clk, ents, m2, ents.map (·.2.1), clk, clk, [], false, h4, h5) = some y) :
  q36_J17 loO (v4_0, v4_1, v4_2, out8, clk, ents, m2, [], h4, h5) = some y := by
 show rngF q36_J17_i (q36_J17_t loO) (q36_J17_r loO) (v4_0, v4_1, v4_2, out8, clk, ents, m2, [], clk, clk, [], false, h4, h5) = some y
 refine rngF_eq (good_collect (p := q36_J17_i) (t := q36_J17_t loO) (r := q36_J17_r loO) (fun sn => (v4_0, v4_1, v4_2, out8, clk, ents, m2, sn.map (kAt (ByteArray.mk #[]) ents), clk, clk, sn, false, h4, h5)) (B := ents.map (·.1)) (c := clk) hd (fun sn => rfl) (fun sn b hb hn hsd hsB => ?_) (fun sn hp => ?_))
 ·obtain ⟨e, he⟩ := mbf_at hb
  have hlen : sn.length < ents.length := by
   have h1 : (sn ++ [b]).Nodup := by
    rw [List.nodup_append]
    exact ⟨hsd, by simp, fun x hx y hy => by rw [List.mem_singleton] at hy; subst hy; intro e; subst e; exact hn hx⟩
   have := List.Nodup.length_le_of_subset h1 (l₂ := ents.map (·.1)) (fun a ha => by
    rcases List.mem_append.1 ha with ha | ha
    ·exact hsB a ha
    ·rw [List.mem_singleton] at ha; subst ha; exact hb)
   simp at this; omega
  simp only [q36_J17_t, addI, List.getLast?_append, List.getLast?_singleton, Option.some_or, Option.bind_some, he, chk, decide_true, cond_true, List.length_map, List.length_singleton]
  have : decide (sn.length + 1 <= maxEl) = true := by simp; omega
  simp only [this, cond_true, List.map_append, List.map_cons, List.map_nil, kAt, he]
 ·have hperm : (sn.map (kAt (ByteArray.mk #[]) ents)).Perm (ents.map (·.2.1)) := by
   rw [<- kAt_map (d := ByteArray.mk #[]) hd]; exact hp.map _
  rw [<- hy]
  show Option.bind (q35 loO (sn.map (kAt (ByteArray.mk #[]) ents))) _ = Option.bind (q35 loO (ents.map (·.2.1))) _
  have e1 : q35 loO (sn.map (kAt (ByteArray.mk #[]) ents)) = q35 loO (ents.map (·.2.1)) := vsortS_perm hperm
  rw [e1]
  have e2 := hperm.length_eq
  congr 1
  funext y152
  rw [e2]
def nodB : List Int -> Bool
 | [] => true
 | a :: r => !(r.any fun b => decide (b = a)) && nodB r
theorem nodB_ok : ∀ {l : List Int}, nodB l = true -> l.Nodup
 | [], _ => List.nodup_nil
 | a :: r, h => by
   simp only [nodB, Bool.and_eq_true, Bool.not_eq_true', List.any_eq_false, decide_eq_true_eq] at h
   exact List.nodup_cons.2 ⟨fun hm => h.1 a hm rfl, nodB_ok h.2⟩
def j17C (lo : Lo) : (ByteArray × (List ByteArray) × (List (Int × (List (Int × Int × ByteArray)))) × ByteArray × Int × (List (Int × ByteArray × (List (Int × Int × ByteArray)))) × Bool × (List ByteArray) × (List ByteArray) × (List (Int × (List (Int × Int × ByteArray))))) -> Option ((Int × ByteArray × (List ByteArray) × (List (Int × (List (Int × Int × ByteArray)))))) := fun x => match x with
 | (v4_0, v4_1, v4_2, out8, clk, ents, m2, keys, h4, h5) => bif keys.isEmpty && (nodB (ents.map (·.1)) && Nat.ble ents.length maxEl) then q36_J17_r lo (v4_0, v4_1, v4_2, out8, clk, ents, m2, ents.map (·.2.1), clk, clk, [], false, h4, h5) else none
theorem j17C_ok {x y} (h : j17C loO x = some y) : q36_J17 loO x = some y := by
 obtain ⟨v4_0, v4_1, v4_2, out8, clk, ents, m2, keys, h4, h5⟩ := x
 unfold j17C at h
 obtain ⟨e, hk⟩ := cond_ok h
 simp only [Bool.and_eq_true, List.isEmpty_iff] at e
 obtain ⟨rfl, e1, e2⟩ := e
 exact J17_eq (nodB_ok e1) (by simpa using e2) hk
def joinC (lo : Lo) (a0_0 : ByteArray) (a0_1 : List ByteArray) (a0_2 : List (Int × (List (Int × Int × ByteArray)))) (b1_0 : ByteArray) (b1_1 : List ByteArray) (b1_2 : List (Int × (List (Int × Int × ByteArray)))) : Option (ByteArray × (List ByteArray) × (List (Int × (List (Int × Int × ByteArray)))) × Int) :=
 Option.bind (q11 lo a0_0 a0_1 a0_2) fun y77 => bif (!decide (y77 = (0 : Int))) then (some ((ByteArray.mk #[]), ([] : List ByteArray), ([] : List (Int × (List (Int × Int × ByteArray)))), y77)) else (Option.bind (q11 lo b1_0 b1_1 b1_2) fun y78 => bif (!decide (y78 = (0 : Int))) then (some ((ByteArray.mk #[]), ([] : List ByteArray), ([] : List (Int × (List (Int × Int × ByteArray)))), y78)) else (Option.bind (q19 lo a0_1) fun y79 => Option.bind (q36_L42 lo (b1_1, (b1_1.length : Int), (0 : Int), a0_0, a0_1, a0_2, b1_0, b1_1, b1_2, (ByteArray.mk #[]), ([] : List ByteArray), ([] : List (Int × (List (Int × Int × ByteArray)))), a0_0, [], y79, [])) fun y81 => bif (decide ((16 : Int) < (y81.2.2.2.2.2.2.2.2.2.2.2.1.length : Int))) then (some ((ByteArray.mk #[]), ([] : List ByteArray), ([] : List (Int × (List (Int × Int × ByteArray)))), (3 : Int))) else (Option.bind (q36_L19 lo (y81.2.2.2.2.2.2.2.2.2.2.1, y81.2.2.1, (y81.2.2.1.length : Int), (0 : Int), y81.2.2.2.1, y81.2.2.2.2.1, y81.2.2.2.2.2.1, y81.2.2.2.2.2.2.1, y81.2.2.2.2.2.2.2.1, y81.2.2.2.2.2.2.2.2.1, y81.2.2.2.2.2.2.2.2.2.1, (0 : Int), ([] : List (Int × ByteArray × (List (Int × Int × ByteArray)))), false, y81.2.2.2.2.2.2.2.2.2.2.2.1, y81.2.2.2.2.2.2.2.2.2.2.2.2)) fun y87 => alt2 y87 (fun y88 => some (y88.2.1, y88.2.2.1, y88.2.2.2, y88.1)) (fun y89 => Option.bind (j17C lo (y89.1, y89.2.1, y89.2.2.1, y89.2.2.2.1, y89.2.2.2.2.1, y89.2.2.2.2.2.1, y89.2.2.2.2.2.2.1, [], y89.2.2.2.2.2.2.2.1, y89.2.2.2.2.2.2.2.2)) fun y154 => some (y154.2.1, y154.2.2.1, y154.2.2.2, y154.1)))))
theorem bind_mono {α β : Type} {a : Option α} {f g : α -> Option β} {y : β} (h : ∀ z, f z = some y -> g z = some y) : Option.bind a f = some y -> Option.bind a g = some y := by
 cases a with
 | none => intro h; cases h
 | some z => exact h z
theorem cond_mono {β : Type} {b : Bool} {x x' z : Option β} {y : β} (h : x = some y -> x' = some y) : (bif b then z else x) = some y -> (bif b then z else x') = some y := by
 cases b with
 | true => exact id
 | false => exact h
theorem joinC_ok {a0 a1 a2 b0 b1 b2 y} : joinC loO a0 a1 a2 b0 b1 b2 = some y -> q36 loO a0 a1 a2 b0 b1 b2 = some y := by
 unfold joinC q36
 refine bind_mono fun _ => cond_mono (bind_mono fun _ => cond_mono (bind_mono fun _ => bind_mono fun _ => cond_mono (bind_mono fun z => ?_)))
 cases z with
 | inl z => exact id
 | inr z =>
   simp only [alt2]
   intro h
   cases hj : j17C loO (z.1, z.2.1, z.2.2.1, z.2.2.2.1, z.2.2.2.2.1, z.2.2.2.2.2.1, z.2.2.2.2.2.2.1, [], z.2.2.2.2.2.2.2.1, z.2.2.2.2.2.2.2.2) with
   | none => rw [hj] at h; cases h
   | some q => rw [hj] at h; rw [j17C_ok hj]; exact h
abbrev Vals := List (Int × Int × ByteArray)
abbrev Rws := List (Int × Vals)
noncomputable def E6 : ByteArray × List ByteArray × Rws := (q2 (loM 400)).getD ⟨ByteArray.mk #[], [], []⟩
noncomputable def E51 : ByteArray × List ByteArray × Rws × Int := (q18 (loM 400) E6.1 E6.2.1 E6.2.2 1).getD ⟨ByteArray.mk #[], [], [], 0⟩
noncomputable def E52 : ByteArray × List ByteArray × Rws × Int := (q18 (loM 400) E6.1 E6.2.1 E6.2.2 2).getD ⟨ByteArray.mk #[], [], [], 0⟩
noncomputable def E155 : ByteArray × List ByteArray × Rws × Int := (joinC (loM 400) E6.1 E6.2.1 E6.2.2 E52.1 E52.2.1 E52.2.2.1).getD ⟨ByteArray.mk #[], [], [], 0⟩
noncomputable def E156 : ByteArray × List ByteArray × Rws × Int := (joinC (loM 400) E51.1 E51.2.1 E51.2.2.1 E52.1 E52.2.1 E52.2.2.1).getD ⟨ByteArray.mk #[], [], [], 0⟩
theorem aw : q44 loO = some true := by
 have e6 : q2 loO = some E6 := (congrArg q2 (loM_eq 400)).symm.trans (by kernel_rfl)
 have e51 : q18 loO E6.1 E6.2.1 E6.2.2 1 = some E51 := (congrArg (fun l => q18 l E6.1 E6.2.1 E6.2.2 1) (loM_eq 400)).symm.trans (by kernel_rfl)
 have e52 : q18 loO E6.1 E6.2.1 E6.2.2 2 = some E52 := (congrArg (fun l => q18 l E6.1 E6.2.1 E6.2.2 2) (loM_eq 400)).symm.trans (by kernel_rfl)
 have e155 : q36 loO E6.1 E6.2.1 E6.2.2 E52.1 E52.2.1 E52.2.2.1 = some E155 := joinC_ok ((congrArg (fun l => joinC l E6.1 E6.2.1 E6.2.2 E52.1 E52.2.1 E52.2.2.1) (loM_eq 400)).symm.trans (by kernel_rfl))
 have e156 : q36 loO E51.1 E51.2.1 E51.2.2.1 E52.1 E52.2.1 E52.2.2.1 = some E156 := joinC_ok ((congrArg (fun l => joinC l E51.1 E51.2.1 E51.2.2.1 E52.1 E52.2.1 E52.2.2.1) (loM_eq 400)).symm.trans (by kernel_rfl))
 unfold q44
 rw [e6, bindS, e51, bindS, e52, bindS, e155, bindS, e156, bindS, <- loM_eq 400]
 show (_ : Option Bool) = some true
 kernel_rfl
end Go.Abs.G03
namespace Go.Abs
def scanR {R : Type} (f : Nat -> Option R) : Nat -> Nat -> R -> R
 | 0, _, r0 => r0
 | k + 1, n, r0 => match f n with
   | some r => r
   | none => scanR f k (n + 1) r0
theorem scanR_congr {R : Type} {f g : Nat -> Option R} {r0 : R} : ∀ (k n : Nat), (∀ m, n <= m -> m < n + k -> f m = g m) -> scanR f k n r0 = scanR g k n r0
 | 0, n, h => rfl
 | k + 1, n, h => by
   simp only [scanR]
   rw [h n (Nat.le_refl _) (by omega), scanR_congr k (n + 1) (fun m h1 h2 => h m (by omega) (by omega))]
theorem loop_scan {S R : Type} {step : S -> Option (S ⊕ R)} (st : Nat -> S) (f : Nat -> Option R) (N : Nat) (r0 : R) {s : S} (hst : s = st 0) (he : step (st N) = some (.inr r0))
  (hs : ∀ n, n < N -> step (st n) = some (match f n with | some r => .inr r | none => .inl (st (n + 1)))) : loopO step s = some (scanR f N 0 r0) := by
 subst hst
 have : ∀ k n, n + k = N -> loopO step (st n) = some (scanR f k n r0) := by
  intro k
  induction k with
  | zero => intro n h; rw [loopO_eq]; simp only [Nat.add_zero] at h; subst h; rw [he]; rfl
  | succ k ih =>
    intro n h
    rw [loopO_eq, hs n (by omega)]
    simp only [scanR]
    cases f n with
    | some r => rfl
    | none => exact ih (n + 1) (by omega)
 exact this N 0 (by omega)
theorem scanR_none {R : Type} {f : Nat -> Option R} {r0 : R} : ∀ (k n : Nat), (∀ m, n <= m -> m < n + k -> f m = none) -> scanR f k n r0 = r0
 | 0, n, h => rfl
 | k + 1, n, h => by
   simp only [scanR]
   rw [h n (Nat.le_refl _) (by omega)]
   exact scanR_none k (n + 1) (fun m h1 h2 => h m (by omega) (by omega))
theorem scanR_map {R R' : Type} {f : Nat -> Option R} (u : R -> R') {r0 : R} : ∀ (k n : Nat), u (scanR f k n r0) = scanR (fun m => (f m).map u) k n (u r0)
 | 0, n => rfl
 | k + 1, n => by
   simp only [scanR]
   cases f n with
   | some r => rfl
   | none => exact scanR_map u k (n + 1)
def anyN (p : Nat -> Bool) : Nat -> Nat -> Bool
 | 0, _ => false
 | k + 1, n => p n || anyN p k (n + 1)
def idxR (p : Nat -> Bool) (k n : Nat) : Int := match scanR (R := Int ⊕ Unit) (fun m => bif p m then some (.inl (m : Int)) else none) k n (.inr ()) with
 | .inl i => i
 | .inr _ => -1
theorem idx_any (p : Nat -> Bool) : ∀ k n, decide (0 <= idxR p k n) = anyN p k n
 | 0, n => rfl
 | k + 1, n => by
   have := idx_any p k (n + 1)
   unfold idxR at this ⊢
   simp only [scanR, anyN]
   by_cases hp : p n = true
   ·simp [hp]
   ·simp only [Bool.not_eq_true] at hp; simpa [hp] using this
theorem scan_all {p : Nat -> Bool} {b : Bool} : ∀ k n, (match scanR (R := Bool ⊕ Unit) (fun m => bif p m then some (.inl b) else none) k n (.inr ()) with | .inl x => x | .inr _ => !b) = (bif anyN p k n then b else !b)
 | 0, n => rfl
 | k + 1, n => by
   simp only [scanR, anyN]
   cases p n with
   | true => rfl
   | false => simpa using scan_all (p := p) (b := b) k (n + 1)
theorem scanR_cases {R : Type} {f : Nat -> Option R} {r0 : R} : ∀ (k n : Nat), (∃ m r, n <= m /\ m < n + k /\ f m = some r /\ scanR f k n r0 = r) \/ (scanR f k n r0 = r0 /\ ∀ m, n <= m -> m < n + k -> f m = none)
 | 0, n => .inr ⟨rfl, fun m h1 h2 => by omega⟩
 | k + 1, n => by
   simp only [scanR]
   cases hf : f n with
   | some r => exact .inl ⟨n, r, Nat.le_refl _, by omega, hf, rfl⟩
   | none =>
     rcases scanR_cases (f := f) (r0 := r0) k (n + 1) with ⟨m, r, h1, h2, h3, h4⟩ | ⟨h1, h2⟩
     ·exact .inl ⟨m, r, by omega, by omega, h3, h4⟩
     ·refine .inr ⟨h1, fun m g1 g2 => ?_⟩
      by_cases e : m = n
      ·subst e; exact hf
      ·exact h2 m (by omega) (by omega)
theorem mem_sum {α : Type} {f : α -> Nat} {l : List α} {a : α} (h : a ∈ l) : f a <= (l.map f).sum := by
 induction l with
 | nil => cases h
 | cons b r ih =>
   simp only [List.map_cons, List.sum_cons]
   rcases List.mem_cons.1 h with rfl | h
   ·omega
   ·have := ih h; omega
theorem len_sum {α : Type} {f : α -> Nat} {l : List α} (h : ∀ a ∈ l, 1 <= f a) : l.length <= (l.map f).sum := by
 induction l with
 | nil => simp
 | cons b r ih =>
   simp only [List.map_cons, List.sum_cons, List.length_cons]
   have := h b (List.mem_cons_self ..)
   have := ih (fun a ha => h a (List.mem_cons_of_mem _ ha))
   omega
theorem byteI_r (s : ByteArray) (i : Int) : 0 <= byteI s i /\ byteI s i < 256 := by
 unfold byteI
 have := (s.data.getD i.toNat 0).toNat_lt
 omega
theorem getD_mem {α : Type} {l : List α} {n : Nat} {d : α} (h : n < l.length) : l.getD n d ∈ l := by
 rw [List.getD_eq_getElem?_getD, List.getElem?_eq_getElem h]; exact List.getElem_mem h
theorem bytes_ext {a b : ByteArray} (hs : a.size = b.size) (h : ∀ n : Nat, n < a.size -> byteI a n = byteI b n) : a = b := by
 have : a.data = b.data := by
  apply Array.ext hs
  intro i h1 h2
  have := h i h1
  rw [byteI_eq] at this
  unfold Array.getD at this
  rw [dif_pos h1, dif_pos h2] at this
  exact this
 cases a; cases b; simp_all
theorem list_ext_getD {α : Type} {a b : List α} {d : α} (hs : a.length = b.length) (h : ∀ n, n < a.length -> a.getD n d = b.getD n d) : a = b := by
 apply List.ext_getElem hs
 intro i h1 h2
 have := h i h1
 simpa [List.getD_eq_getElem?_getD, List.getElem?_eq_getElem h1, List.getElem?_eq_getElem h2] using this
theorem take_snoc {α : Type} {l : List α} {n : Nat} {d : α} (h : n < l.length) : l.take (n + 1) = l.take n ++ [l.getD n d] := by
 rw [<- List.take_append_getElem h, List.getD_eq_getElem?_getD, List.getElem?_eq_getElem h]; rfl
end Go.Abs
namespace Go.Abs.G03
open Go Go.Abs
noncomputable section
def lt (c : Int) : Bool := decide (97 <= c) && decide (c <= 122) || decide (65 <= c) && decide (c <= 90) || decide (c = 95)
theorem letter_eq (c : Int) : q45 loO c = some (lt c) := by
 unfold q45 lt
 by_cases h1 : (97 : Int) <= c <;> by_cases h2 : c <= (122 : Int) <;> by_cases h3 : (65 : Int) <= c <;> by_cases h4 : c <= (90 : Int) <;> simp [h1, h2, h3, h4]
def fN (s : ByteArray) (n : Nat) : Option (Bool ⊕ Unit) :=
 bif lt (byteI s n) then none else bif decide (n = 0) then some (.inl false) else bif decide (byteI s n < 48) then some (.inl false) else bif decide ((57 : Int) < byteI s n) then some (.inl false) else none
theorem isName_L3 (s : ByteArray) (hs : s.size <= 24) : q3_L3 loO (s, (s.size : Int), 0) = some (scanR (fN s) s.size 0 (.inr ())) := by
 refine loop_scan (fun n => (s, (s.size : Int), (n : Int))) (fN s) s.size (.inr ()) rfl ?_ (fun n hn => ?_)
 ·simp [q3_L3_s]
 ·have e1 : decide ((n : Int) < (s.size : Int)) = true := by simp; omega
  have e2 : IntKind.wrap .i64 ((n : Int) + 1) = ((n + 1 : Nat) : Int) := by rw [wr6 (by omega) (by omega)]; omega
  simp only [q3_L3_s, e1, cond_true, e2]
  rw [chkT _ (by omega)]
  unfold fN lt
  have e3 : decide ((n : Int) = 0) = decide (n = 0) := by simp
  simp only [e3]
  generalize byteI s n = c
  by_cases h1 : (97 : Int) <= c <;> by_cases h2 : c <= (122 : Int) <;> by_cases h3 : (65 : Int) <= c <;> by_cases h4 : c <= (90 : Int) <;> by_cases h5 : c = 95 <;> by_cases h6 : n = 0 <;> by_cases h7 : c < 48 <;> by_cases h8 : (57 : Int) < c <;> simp [h1, h2, h3, h4, h5, h6, h7, h8]
def nul : ByteArray := ByteArray.mk #[110, 117, 108, 108]
def nameB (s : ByteArray) : Bool :=
 bif decide (s = ByteArray.mk #[]) then false else bif decide ((24 : Int) < (s.size : Int)) then false else bif decide (s = nul) then false else
  match scanR (fN s) s.size 0 (.inr ()) with | .inl b => b | .inr _ => true
theorem isName_eq (s : ByteArray) : q3 loO s = some (nameB s) := by
 unfold q3 nameB nul
 by_cases h1 : s = ByteArray.mk #[]
 ·simp [h1]
 ·by_cases h2 : (24 : Int) < (s.size : Int)
  ·simp [h1, h2]
  ·by_cases h3 : s = ByteArray.mk #[110, 117, 108, 108]
   ·simp [h1, h2, h3]
   ·simp only [h1, h2, h3, decide_false, cond_false]
    rw [isName_L3 s (by omega)]
    simp only [bindS]
    cases scanR (fN s) s.size 0 (.inr ()) <;> rfl
def fR (s : ByteArray) (n : Nat) : Option (Bool ⊕ Unit) :=
 bif lt (byteI s n) then none else bif decide (byteI s n < 48) then some (.inl false) else bif decide ((57 : Int) < byteI s n) then some (.inl false) else none
theorem Name_L3 (s : ByteArray) (hs : s.size <= 24) : q46_L3 loO (s, 0) = some (scanR (fR s) s.size 0 (.inr ())) := by
 refine loop_scan (fun n => (s, (n : Int))) (fR s) s.size (.inr ()) rfl ?_ (fun n hn => ?_)
 ·simp [q46_L3_s]
 ·have e1 : decide ((n : Int) < (s.size : Int)) = true := by simp; omega
  have e2 : IntKind.wrap .i64 ((n : Int) + 1) = ((n + 1 : Nat) : Int) := by rw [wr6 (by omega) (by omega)]; omega
  simp only [q46_L3_s, e1, cond_true, e2, letter_eq, bindS]
  rw [chkT _ (by omega)]
  unfold fR
  generalize byteI s n = c
  have h0 : (0 : Int) <= (n : Int) /\ (n : Int) < (s.size : Int) := by omega
  cases lt c <;> by_cases h7 : c < 48 <;> by_cases h8 : (57 : Int) < c <;> simp [h7, h8, chkT, h0]
theorem size0 (s : ByteArray) : s.size = 0 ↔ s = ByteArray.mk #[] := by
 constructor
 ·intro h
  have : s.data = #[] := Array.eq_empty_of_size_eq_zero h
  cases s; simp_all
 ·intro h; subst h; rfl
theorem Name_eq (s : ByteArray) : q46 loO s = some (nameB s) := by
 unfold q46 nameB nul
 by_cases h1 : s = ByteArray.mk #[]
 ·subst h1; rfl
 ·have h1' : s.size ≠ 0 := fun h => h1 ((size0 s).1 h)
  by_cases h2 : (24 : Int) < (s.size : Int)
  ·have : ¬ (s.size : Int) = 0 := by omega
   simp [h1, h2, this]
  ·have h0 : ¬ (s.size : Int) = 0 := by omega
   simp only [h1, h2, h0, decide_false, cond_false, letter_eq, bindS]
   rw [chkT _ (by omega)]
   have hz : byteI s 0 = byteI s ((0 : Nat) : Int) := rfl
   have hsz : s.size = (s.size - 1) + 1 := by omega
   cases hl : lt (byteI s 0) with
   | false =>
     have : scanR (fN s) s.size 0 (.inr ()) = .inl false := by
      rw [hsz]; simp only [scanR, fN, <- hz, hl]; rfl
     rw [this]
     by_cases h3 : s = ByteArray.mk #[110, 117, 108, 108] <;> simp [h3]
   | true =>
     have : scanR (fN s) s.size 0 (.inr ()) = scanR (fR s) s.size 0 (.inr ()) := scanR_congr _ _ (fun m _ _ => by
      unfold fN fR
      by_cases hm : m = 0
      ·subst hm; rw [<- hz, hl]; rfl
      ·simp [hm])
     rw [this, Name_L3 s (by omega)]
     by_cases h3 : s = ByteArray.mk #[110, 117, 108, 108]
     ·simp [h3]
     ·simp only [h3, decide_false, cond_false, Bool.not_true, bindS]
      cases scanR (fR s) s.size 0 (.inr ()) <;> rfl
def idxI (l : List ByteArray) (v : ByteArray) : Int := idxR (fun m => decide (v = l.getD m (ByteArray.mk #[]))) l.length 0
theorem Index_eq (l : List ByteArray) (v : ByteArray) (hl : l.length <= maxEl) : q4 loO l v = some (idxI l v) := by
 have hm : maxEl = 1073741824 := rfl
 have : q4_L3 loO (l, v, (l.length : Int), 0) = some (scanR (R := Int ⊕ Unit) (fun m => bif decide (v = l.getD m (ByteArray.mk #[])) then some (.inl (m : Int)) else none) l.length 0 (.inr ())) := by
  refine loop_scan (fun n => (l, v, (l.length : Int), (n : Int))) _ l.length (Sum.inr ()) rfl ?_ (fun n hn => ?_)
  ·simp [q4_L3_s]
  ·have e1 : decide ((n : Int) < (l.length : Int)) = true := by simp; omega
   have e2 : IntKind.wrap .i64 ((n : Int) + 1) = ((n + 1 : Nat) : Int) := by rw [wr6 (by omega) (by omega)]; omega
   simp only [q4_L3_s, e1, cond_true, e2, Int.toNat_natCast]
   rw [chkT _ (by omega)]
   cases decide (v = l.getD n (ByteArray.mk #[])) <;> rfl
 unfold q4 idxI idxR
 rw [this, bindS]
 cases scanR (R := Int ⊕ Unit) (fun m => bif decide (v = l.getD m (ByteArray.mk #[])) then some (.inl (m : Int)) else none) l.length 0 (.inr ()) <;> rfl
theorem Contains_eq (l : List ByteArray) (v : ByteArray) (hl : l.length <= maxEl) : q5 loO l v = some (decide (0 <= idxI l v)) := by
 unfold q5; rw [Index_eq l v hl]; rfl
theorem Attr_eq (l : List ByteArray) (v : ByteArray) (hl : l.length <= maxEl) : q47 loO l v = some (idxI l v) := by
 have hm : maxEl = 1073741824 := rfl
 have : q47_L3 loO (l, v, 0) = some (scanR (R := Int ⊕ Unit) (fun m => bif decide (v = l.getD m (ByteArray.mk #[])) then some (.inl (m : Int)) else none) l.length 0 (.inr ())) := by
  refine loop_scan (fun n => (l, v, (n : Int))) _ l.length (Sum.inr ()) rfl ?_ (fun n hn => ?_)
  ·simp [q47_L3_s]
  ·have e1 : decide ((n : Int) < (l.length : Int)) = true := by simp; omega
   have e2 : IntKind.wrap .i64 ((n : Int) + 1) = ((n + 1 : Nat) : Int) := by rw [wr6 (by omega) (by omega)]; omega
   have e3 : decide (l.getD n (ByteArray.mk #[]) = v) = decide (v = l.getD n (ByteArray.mk #[])) := by simp only [eq_comm]
   simp only [q47_L3_s, e1, cond_true, e2, Int.toNat_natCast, e3]
   rw [chkT _ (by omega)]
   cases decide (v = l.getD n (ByteArray.mk #[])) <;> rfl
 unfold q47 idxI idxR
 rw [this, bindS]
 cases scanR (R := Int ⊕ Unit) (fun m => bif decide (v = l.getD m (ByteArray.mk #[])) then some (.inl (m : Int)) else none) l.length 0 (.inr ()) <;> rfl
def vB (v : Int × Int × ByteArray) : Bool := (q6 loO v.1 v.2.1 v.2.2).getD false
theorem Valid_eq (a b : Int) (c : ByteArray) : q6 loO a b c = some (vB (a, b, c)) := by
 unfold vB q6
 by_cases h0 : a = 0 <;> by_cases h1 : a = 1 <;> by_cases h2 : a = 2 <;> by_cases h3 : a = 3 <;> by_cases h4 : b = 0 <;> by_cases h5 : 1 <= b <;> simp [h0, h1, h2, h3, h4, h5]
theorem rValid_eq (a b : Int) (c : ByteArray) : q49 loO a b c = some (vB (a, b, c)) := Valid_eq a b c
abbrev zV : Int × Int × ByteArray := (0, 0, ByteArray.mk #[])
def vsB (l : Vals) : Bool := !anyN (fun m => !vB (l.getD m zV)) l.length 0
theorem validValues_eq (l : Vals) (hl : l.length <= maxEl) : q10 loO l = some (vsB l) := by
 have hm : maxEl = 1073741824 := rfl
 have : q8_L3 loO (l, (l.length : Int), 0) = some (scanR (R := Int ⊕ Unit) (fun m => bif !vB (l.getD m zV) then some (.inl (m : Int)) else none) l.length 0 (.inr ())) := by
  refine loop_scan (fun n => (l, (l.length : Int), (n : Int))) _ l.length (Sum.inr ()) rfl ?_ (fun n hn => ?_)
  ·simp [q8_L3_s]
  ·have e1 : decide ((n : Int) < (l.length : Int)) = true := by simp; omega
   have e2 : IntKind.wrap .i64 ((n : Int) + 1) = ((n + 1 : Nat) : Int) := by rw [wr6 (by omega) (by omega)]; omega
   simp only [q8_L3_s, e1, cond_true, e2, Int.toNat_natCast, q7, Valid_eq, bindS]
   rw [chkT _ (by omega)]
   cases vB (l.getD n zV) <;> rfl
 have h2 : q8 loO l = some (idxR (fun m => !vB (l.getD m zV)) l.length 0) := by
  unfold q8 idxR
  rw [this, bindS]
  cases scanR (R := Int ⊕ Unit) (fun m => bif !vB (l.getD m zV) then some (.inl (m : Int)) else none) l.length 0 (.inr ()) <;> rfl
 unfold q10 q9 vsB
 rw [h2, bindS, bindS, idx_any]
theorem Valids_eq (l : Vals) (hl : l.length <= maxEl) : q50 loO l = some (vsB l) := by
 have hm : maxEl = 1073741824 := rfl
 have : q50_L3 loO (l, 0) = some (scanR (R := Bool ⊕ Unit) (fun m => bif !vB (l.getD m zV) then some (.inl false) else none) l.length 0 (.inr ())) := by
  refine loop_scan (fun n => (l, (n : Int))) _ l.length (Sum.inr ()) rfl ?_ (fun n hn => ?_)
  ·simp [q50_L3_s]
  ·have e1 : decide ((n : Int) < (l.length : Int)) = true := by simp; omega
   have e2 : IntKind.wrap .i64 ((n : Int) + 1) = ((n + 1 : Nat) : Int) := by rw [wr6 (by omega) (by omega)]; omega
   simp only [q50_L3_s, e1, cond_true, e2, Int.toNat_natCast, rValid_eq, bindS]
   rw [chkT _ (by omega)]
   cases vB (l.getD n zV) <;> rfl
 unfold q50 vsB
 rw [this, bindS]
 have h3 := scan_all (p := fun m => !vB (l.getD m zV)) (b := false) l.length 0
 cases hs : scanR (R := Bool ⊕ Unit) (fun m => bif !vB (l.getD m zV) then some (.inl false) else none) l.length 0 (.inr ()) with
 | inl b => rw [hs] at h3; simp only [alt2]; rw [show b = _ from h3]; cases anyN (fun m => !vB (l.getD m zV)) l.length 0 <;> rfl
 | inr u => rw [hs] at h3; simp only [alt2]; rw [show true = _ from h3]; cases anyN (fun m => !vB (l.getD m zV)) l.length 0 <;> rfl
def fA (l : List ByteArray) (n : Nat) : Bool := !nameB (l.getD n (ByteArray.mk #[])) || decide (0 <= idxI (l.take n) (l.getD n (ByteArray.mk #[])))
abbrev zR : Int × Vals := (0, [])
def lastAt (rows : Rws) : Nat -> Int
 | 0 => 0
 | n + 1 => (rows.getD n zR).1
def fV (attrs : List ByteArray) (rows : Rws) (n : Nat) : Option (Int ⊕ Unit) :=
 bif decide ((rows.getD n zR).1 <= lastAt rows n) then some (.inl 1) else bif !decide (((rows.getD n zR).2.length : Int) = (attrs.length : Int)) then some (.inl 6) else bif !vsB (rows.getD n zR).2 then some (.inl 1) else none
def validI (nm : ByteArray) (attrs : List ByteArray) (rows : Rws) : Int :=
 bif !nameB nm then 1 else bif decide ((16 : Int) < (attrs.length : Int)) then 3 else bif decide ((1000 : Int) < (rows.length : Int)) then 3 else bif anyN (fA attrs) attrs.length 0 then 1 else
  match scanR (fV attrs rows) rows.length 0 (.inr ()) with | .inl i => i | .inr _ => 0
theorem tValid (nm : ByteArray) (attrs : List ByteArray) (rows : Rws) : q11 loO nm attrs rows = some (validI nm attrs rows) := by
 have hm : maxEl = 1073741824 := rfl
 unfold q11 validI
 rw [isName_eq, bindS]
 cases nameB nm with
 | false => rfl
 | true =>
   by_cases h1 : (16 : Int) < (attrs.length : Int)
   ·simp [h1]
   ·by_cases h2 : (1000 : Int) < (rows.length : Int)
    ·simp [h1, h2]
    ·simp only [h1, h2, decide_false, cond_false, Bool.not_true]
     have e20 : q11_L20 loO (attrs, (attrs.length : Int), 0, nm, attrs, rows) = some (scanR (R := Int ⊕ (ByteArray × List ByteArray × Rws)) (fun m => bif fA attrs m then some (.inl 1) else none) attrs.length 0 (.inr (nm, attrs, rows))) := by
      refine loop_scan (fun n => (attrs, (attrs.length : Int), (n : Int), nm, attrs, rows)) _ attrs.length _ rfl ?_ (fun n hn => ?_)
      ·simp [q11_L20_s]
      ·have e1 : decide ((n : Int) < (attrs.length : Int)) = true := by simp; omega
       have e2 : IntKind.wrap .i64 ((n : Int) + 1) = ((n + 1 : Nat) : Int) := by rw [wr6 (by omega) (by omega)]; omega
       simp only [q11_L20_s, e1, cond_true, e2, Int.toNat_natCast, isName_eq, bindS, List.drop_zero]
       rw [chkT _ (by omega), chkT _ (by omega), Contains_eq _ _ (by simp; omega), bindS]
       unfold fA
       cases nameB (attrs.getD n (ByteArray.mk #[])) <;> cases decide (0 <= idxI (attrs.take n) (attrs.getD n (ByteArray.mk #[]))) <;> rfl
     rw [e20, bindS]
     have hsc : ∀ k n, scanR (R := Int ⊕ (ByteArray × List ByteArray × Rws)) (fun m => bif fA attrs m then some (.inl 1) else none) k n (.inr (nm, attrs, rows)) = bif anyN (fA attrs) k n then .inl 1 else .inr (nm, attrs, rows) := by
      intro k
      induction k with
      | zero => intro n; rfl
      | succ k ih => intro n; simp only [scanR, anyN]; cases fA attrs n with
        | true => rfl
        | false => simpa using ih (n + 1)
     rw [hsc]
     cases anyN (fA attrs) attrs.length 0 with
     | true => rfl
     | false =>
       simp only [cond_false, alt2]
       have e3 : q11_L3 loO (0, rows, (rows.length : Int), 0, nm, attrs, rows) = some (scanR (fV attrs rows) rows.length 0 (.inr ())) := by
        refine loop_scan (fun n => (lastAt rows n, rows, (rows.length : Int), (n : Int), nm, attrs, rows)) _ rows.length _ rfl ?_ (fun n hn => ?_)
        ·simp [q11_L3_s]
        ·have e1 : decide ((n : Int) < (rows.length : Int)) = true := by simp; omega
         have e2 : IntKind.wrap .i64 ((n : Int) + 1) = ((n + 1 : Nat) : Int) := by rw [wr6 (by omega) (by omega)]; omega
         simp only [q11_L3_s, e1, cond_true, e2, Int.toNat_natCast]
         rw [chkT _ (by omega)]
         unfold fV
         by_cases g1 : (rows.getD n zR).1 <= lastAt rows n
         ·simp only [g1, decide_true, cond_true]
         ·by_cases g2 : ((rows.getD n zR).2.length : Int) = (attrs.length : Int)
          ·simp only [g1, g2, decide_false, decide_true, cond_false, Bool.not_true]
           rw [validValues_eq _ (show (rows.getD n zR).2.length <= maxEl by omega), bindS]
           cases vsB (rows.getD n zR).2 <;> rfl
          ·simp only [g1, g2, decide_false, cond_false, Bool.not_false, cond_true]
       rw [e3, bindS]
       cases scanR (fV attrs rows) rows.length 0 (.inr ()) <;> rfl
theorem rValid (nm : ByteArray) (attrs : List ByteArray) (rows : Rws) : q51 loO nm attrs rows = some (validI nm attrs rows) := by
 have hm : maxEl = 1073741824 := rfl
 unfold q51 validI
 rw [Name_eq, bindS]
 cases nameB nm with
 | false => rfl
 | true =>
   by_cases h1 : (16 : Int) < (attrs.length : Int)
   ·simp [h1]
   ·by_cases h2 : (1000 : Int) < (rows.length : Int)
    ·simp [h1, h2]
    ·simp only [h1, h2, decide_false, cond_false, Bool.not_true]
     have e20 : q48_L3 loO (attrs, 0) = some (scanR (R := Bool ⊕ Unit) (fun m => bif fA attrs m then some (.inl false) else none) attrs.length 0 (.inr ())) := by
      refine loop_scan (fun n => (attrs, (n : Int))) _ attrs.length _ rfl ?_ (fun n hn => ?_)
      ·simp [q48_L3_s]
      ·have e1 : decide ((n : Int) < (attrs.length : Int)) = true := by simp; omega
       have e2 : IntKind.wrap .i64 ((n : Int) + 1) = ((n + 1 : Nat) : Int) := by rw [wr6 (by omega) (by omega)]; omega
       simp only [q48_L3_s, e1, cond_true, e2, Int.toNat_natCast, Name_eq, bindS, List.drop_zero]
       rw [chkT _ (by omega), chkT _ (by omega), chkT _ (by omega), Attr_eq _ _ (by simp; omega), bindS]
       unfold fA
       cases nameB (attrs.getD n (ByteArray.mk #[])) <;> cases decide (0 <= idxI (attrs.take n) (attrs.getD n (ByteArray.mk #[]))) <;> rfl
     have eN : q48 loO attrs = some (!anyN (fA attrs) attrs.length 0) := by
      unfold q48
      rw [e20, bindS]
      have h3 := scan_all (p := fA attrs) (b := false) attrs.length 0
      cases hs : scanR (R := Bool ⊕ Unit) (fun m => bif fA attrs m then some (.inl false) else none) attrs.length 0 (.inr ()) with
      | inl b => rw [hs] at h3; simp only [alt2]; rw [show b = _ from h3]; cases anyN (fA attrs) attrs.length 0 <;> rfl
      | inr u => rw [hs] at h3; simp only [alt2]; rw [show true = _ from h3]; cases anyN (fA attrs) attrs.length 0 <;> rfl
     rw [eN, bindS]
     cases anyN (fA attrs) attrs.length 0 with
     | true => rfl
     | false =>
       simp only [cond_false, Bool.not_false, Bool.not_true]
       have e3 : q51_L3 loO (0, 0, nm, attrs, rows) = some (scanR (fV attrs rows) rows.length 0 (.inr ())) := by
        refine loop_scan (fun n => (lastAt rows n, (n : Int), nm, attrs, rows)) _ rows.length _ rfl ?_ (fun n hn => ?_)
        ·simp [q51_L3_s]
        ·have e1 : decide ((n : Int) < (rows.length : Int)) = true := by simp; omega
         have e2 : IntKind.wrap .i64 ((n : Int) + 1) = ((n + 1 : Nat) : Int) := by rw [wr6 (by omega) (by omega)]; omega
         simp only [q51_L3_s, e1, cond_true, e2, Int.toNat_natCast]
         rw [chkT _ (by omega)]
         unfold fV
         by_cases g1 : (rows.getD n zR).1 <= lastAt rows n
         ·simp only [g1, decide_true, cond_true]
         ·by_cases g2 : ((rows.getD n zR).2.length : Int) = (attrs.length : Int)
          ·simp only [g1, g2, decide_false, decide_true, cond_false, Bool.not_true]
           rw [Valids_eq _ (show (rows.getD n zR).2.length <= maxEl by omega), bindS]
           cases vsB (rows.getD n zR).2 <;> rfl
          ·simp only [g1, g2, decide_false, cond_false, Bool.not_false, cond_true]
       rw [e3, bindS]
       cases scanR (fV attrs rows) rows.length 0 (.inr ()) <;> rfl
end
end Go.Abs.G03
namespace Go.Abs.G03
open Go Go.Abs
noncomputable section
def SzV (l : Vals) : Prop := l.length <= maxEl /\ ∀ v ∈ l, v.2.2.size <= maxEl
def SzR (l : Rws) : Prop := l.length <= maxEl /\ ∀ r ∈ l, SzV r.2
theorem szV {l : Vals} (h : (Ty.l (cs [I, I, .s])).sz l <= 1048576) : SzV l := by
 have hm : maxEl = 1073741824 := rfl
 have e : (Ty.l (cs [I, I, .s])).sz l = (l.map fun v => 1 + (1 + ((v.2.2.size + 1) + 0))).sum + 1 := rfl
 rw [e] at h
 refine ⟨?_, fun v hv => ?_⟩
 ·have := len_sum (f := fun v : Int × Int × ByteArray => 1 + (1 + ((v.2.2.size + 1) + 0))) (l := l) (fun a _ => by omega)
  omega
 ·have := mem_sum (f := fun v : Int × Int × ByteArray => 1 + (1 + ((v.2.2.size + 1) + 0))) hv
  omega
theorem szR {l : Rws} (h : (Ty.l (cs [I, .l (cs [I, I, .s])])).sz l <= 1048576) : SzR l := by
 have hm : maxEl = 1073741824 := rfl
 have e : (Ty.l (cs [I, .l (cs [I, I, .s])])).sz l = (l.map fun r => 1 + ((Ty.l (cs [I, I, .s])).sz r.2 + 0)).sum + 1 := rfl
 rw [e] at h
 refine ⟨?_, fun r hr => ?_⟩
 ·have := len_sum (f := fun r : Int × Vals => 1 + ((Ty.l (cs [I, I, .s])).sz r.2 + 0)) (l := l) (fun a _ => by omega)
  omega
 ·have := mem_sum (f := fun r : Int × Vals => 1 + ((Ty.l (cs [I, I, .s])).sz r.2 + 0)) hr
  exact szV (by omega)
def sg (a b : Int) : Int := bif decide (a < b) then -1 else bif decide (b < a) then 1 else 0
theorem sign_eq (a b : Int) : q57 loO a b = some (sg a b) := by
 unfold q57 sg
 by_cases h1 : a < b <;> by_cases h2 : b < a <;> simp [h1, h2]
theorem sg_zero {a b : Int} : sg a b = 0 ↔ a = b := by
 unfold sg
 by_cases h1 : a < b
 ·simp [h1]; omega
 ·by_cases h2 : b < a
  ·simp [h1, h2]; omega
  ·simp [h1, h2]; omega
def fS (a b : ByteArray) (n : Nat) : Option (Int ⊕ (ByteArray × ByteArray)) := bif !decide (byteI a n = byteI b n) then some (.inl (sg (byteI a n) (byteI b n))) else none
def cmpS (a b : ByteArray) : Int := match scanR (fS a b) (min a.size b.size) 0 (.inr (a, b)) with
 | .inl i => i
 | .inr _ => sg a.size b.size
theorem strings_eq (a b : ByteArray) (ha : a.size <= maxEl) (hb : b.size <= maxEl) : q58 loO a b = some (cmpS a b) := by
 have hm : maxEl = 1073741824 := rfl
 have hL : q58_L3 loO (a, b, 0) = some (scanR (fS a b) (min a.size b.size) 0 (.inr (a, b))) := by
  refine loop_scan (fun n => (a, b, (n : Int))) _ (min a.size b.size) _ rfl ?_ (fun n hn => ?_)
  ·rcases Nat.le_total a.size b.size with h | h
   ·rw [Nat.min_eq_left h]; simp [q58_L3_s]
   ·rw [Nat.min_eq_right h]
    have e : decide ((b.size : Int) < (b.size : Int)) = false := by simp
    simp only [q58_L3_s, e, cond_false]
    cases decide ((b.size : Int) < (a.size : Int)) <;> rfl
  ·have e1 : decide ((n : Int) < (a.size : Int)) = true := by simp; omega
   have e1' : decide ((n : Int) < (b.size : Int)) = true := by simp; omega
   have e2 : IntKind.wrap .i64 ((n : Int) + 1) = ((n + 1 : Nat) : Int) := by rw [wr6 (by omega) (by omega)]; omega
   have r1 := byteI_r a n
   have r2 := byteI_r b n
   simp only [q58_L3_s, e1, e1', cond_true, e2, sign_eq, bindS, wr6 (show -9223372036854775808 <= byteI a n by omega) (by omega), wr6 (show -9223372036854775808 <= byteI b n by omega) (by omega)]
   rw [chkT _ (by omega), chkT _ (by omega), chkT _ (by omega), chkT _ (by omega)]
   unfold fS
   cases decide (byteI a n = byteI b n) <;> rfl
 unfold q58 cmpS
 rw [hL, bindS]
 rcases scanR_cases (f := fS a b) (r0 := .inr (a, b)) (min a.size b.size) 0 with ⟨m, r, h1, h2, h3, h4⟩ | ⟨h1, h2⟩
 ·rw [h4]
  unfold fS at h3
  cases hd : decide (byteI a m = byteI b m) with
  | true => rw [hd] at h3; cases h3
  | false => rw [hd] at h3; injection h3 with h3; subst h3; rfl
 ·rw [h1]; simp only [alt2, sign_eq, bindS]
theorem cmpS_zero {a b : ByteArray} : cmpS a b = 0 ↔ a = b := by
 unfold cmpS
 rcases scanR_cases (f := fS a b) (r0 := .inr (a, b)) (min a.size b.size) 0 with ⟨m, r, h1, h2, h3, h4⟩ | ⟨h1, h2⟩
 ·rw [h4]
  unfold fS at h3
  by_cases hd : byteI a m = byteI b m
  ·simp [hd] at h3
  ·simp [hd] at h3
   subst h3
   simp only
   rw [sg_zero]
   exact ⟨fun h => absurd h hd, fun h => by subst h; exact absurd rfl hd⟩
 ·rw [h1]
  simp only [sg_zero]
  constructor
  ·intro h
   have hs : a.size = b.size := by omega
   refine bytes_ext hs (fun n hn => ?_)
   have := h2 n (by omega) (by omega)
   unfold fS at this
   by_cases hd : byteI a n = byteI b n
   ·exact hd
   ·simp [hd] at this
  ·intro h; rw [h]
def cmpV (v w : Int × Int × ByteArray) : Int := bif !decide (sg v.1 w.1 = 0) then sg v.1 w.1 else bif !decide (sg v.2.1 w.2.1 = 0) then sg v.2.1 w.2.1 else cmpS v.2.2 w.2.2
theorem Compare_eq (v w : Int × Int × ByteArray) (hv : v.2.2.size <= maxEl) (hw : w.2.2.size <= maxEl) : q59 loO v.1 v.2.1 v.2.2 w.1 w.2.1 w.2.2 = some (cmpV v w) := by
 unfold q59 cmpV
 simp only [sign_eq, bindS, strings_eq _ _ hv hw]
 cases decide (sg v.1 w.1 = 0) <;> cases decide (sg v.2.1 w.2.1 = 0) <;> rfl
theorem cmpV_zero {v w : Int × Int × ByteArray} : cmpV v w = 0 ↔ v = w := by
 obtain ⟨a, b, c⟩ := v
 obtain ⟨a', b', c'⟩ := w
 unfold cmpV
 by_cases h1 : sg a a' = 0
 ·by_cases h2 : sg b b' = 0
  ·simp only [h1, h2, decide_true, Bool.not_true, cond_false, cmpS_zero]
   rw [sg_zero] at h1 h2
   simp [h1, h2]
  ·simp only [h1, h2, decide_true, decide_false, Bool.not_true, Bool.not_false, cond_false, cond_true]
   refine ⟨fun h => h.elim, fun h => ?_⟩
   injection h with _ h; injection h with h _
   exact h2 (sg_zero.2 h)
 ·simp only [h1, decide_false, Bool.not_false, cond_true]
  refine ⟨fun h => h.elim, fun h => ?_⟩
  injection h with h _
  exact h1 (sg_zero.2 h)
def fL (a b : Vals) (n : Nat) : Option (Int ⊕ (Vals × Vals)) := bif !decide (cmpV (a.getD n zV) (b.getD n zV) = 0) then some (.inl (cmpV (a.getD n zV) (b.getD n zV))) else none
def cmpL (a b : Vals) : Int := match scanR (fL a b) (min a.length b.length) 0 (.inr (a, b)) with
 | .inl i => i
 | .inr _ => sg a.length b.length
theorem Lists_eq (a b : Vals) (ha : SzV a) (hb : SzV b) : q60 loO a b = some (cmpL a b) := by
 have hm : maxEl = 1073741824 := rfl
 have hal := ha.1
 have hbl := hb.1
 have hL : q60_L3 loO (a, b, 0) = some (scanR (fL a b) (min a.length b.length) 0 (.inr (a, b))) := by
  refine loop_scan (fun n => (a, b, (n : Int))) _ (min a.length b.length) _ rfl ?_ (fun n hn => ?_)
  ·rcases Nat.le_total a.length b.length with h | h
   ·rw [Nat.min_eq_left h]; simp [q60_L3_s]
   ·rw [Nat.min_eq_right h]
    have e : decide ((b.length : Int) < (b.length : Int)) = false := by simp
    simp only [q60_L3_s, e, cond_false]
    cases decide ((b.length : Int) < (a.length : Int)) <;> rfl
  ·have e1 : decide ((n : Int) < (a.length : Int)) = true := by simp; omega
   have e1' : decide ((n : Int) < (b.length : Int)) = true := by simp; omega
   have e2 : IntKind.wrap .i64 ((n : Int) + 1) = ((n + 1 : Nat) : Int) := by rw [wr6 (by omega) (by omega)]; omega
   have q1 := ha.2 (a.getD n zV) (getD_mem (by omega))
   have q2 := hb.2 (b.getD n zV) (getD_mem (by omega))
   simp only [q60_L3_s, e1, e1', cond_true, e2, Int.toNat_natCast]
   rw [chkT _ (by omega), chkT _ (by omega), Compare_eq _ _ q1 q2, bindS]
   unfold fL
   cases decide (cmpV (a.getD n zV) (b.getD n zV) = 0) <;> rfl
 unfold q60 cmpL
 rw [hL, bindS]
 rcases scanR_cases (f := fL a b) (r0 := .inr (a, b)) (min a.length b.length) 0 with ⟨m, r, h1, h2, h3, h4⟩ | ⟨h1, h2⟩
 ·rw [h4]
  unfold fL at h3
  cases hd : decide (cmpV (a.getD m zV) (b.getD m zV) = 0) with
  | true => rw [hd] at h3; cases h3
  | false => rw [hd] at h3; injection h3 with h3; subst h3; rfl
 ·rw [h1]; simp only [alt2, sign_eq, bindS]
theorem cmpL_zero {a b : Vals} : cmpL a b = 0 ↔ a = b := by
 unfold cmpL
 rcases scanR_cases (f := fL a b) (r0 := .inr (a, b)) (min a.length b.length) 0 with ⟨m, r, h1, h2, h3, h4⟩ | ⟨h1, h2⟩
 ·rw [h4]
  unfold fL at h3
  by_cases hd : cmpV (a.getD m zV) (b.getD m zV) = 0
  ·rw [decide_eq_true hd] at h3; cases h3
  ·rw [decide_eq_false hd] at h3; injection h3 with h3
   subst h3
   simp only
   exact ⟨fun h => absurd h hd, fun h => by subst h; exact absurd (cmpV_zero.2 rfl) hd⟩
 ·rw [h1]
  simp only [sg_zero]
  constructor
  ·intro h
   have hs : a.length = b.length := by omega
   refine list_ext_getD (d := zV) hs (fun n hn => ?_)
   have := h2 n (by omega) (by omega)
   unfold fL at this
   by_cases hd : cmpV (a.getD n zV) (b.getD n zV) = 0
   ·exact cmpV_zero.1 hd
   ·rw [decide_eq_false hd] at this; cases this
  ·intro h; rw [h]
theorem Same1_eq (a b : Vals) (ha : SzV a) (hb : SzV b) : q61 loO a b = some (decide (a = b)) := by
 unfold q61
 rw [Lists_eq a b ha hb, bindS]
 have : decide (cmpL a b = 0) = decide (a = b) := by rw [decide_eq_decide]; exact cmpL_zero
 rw [this]
theorem Strings_refl (a : List ByteArray) (ha : a.length <= maxEl) : q64 loO a a = some true := by
 have hm : maxEl = 1073741824 := rfl
 have hL : q64_L3 loO (a, a, 0) = some (scanR (R := Bool ⊕ Unit) (fun _ => none) a.length 0 (.inr ())) := by
  refine loop_scan (fun n => (a, a, (n : Int))) _ a.length _ rfl ?_ (fun n hn => ?_)
  ·simp [q64_L3_s]
  ·have e1 : decide ((n : Int) < (a.length : Int)) = true := by simp; omega
   have e2 : IntKind.wrap .i64 ((n : Int) + 1) = ((n + 1 : Nat) : Int) := by rw [wr6 (by omega) (by omega)]; omega
   simp only [q64_L3_s, e1, cond_true, e2, decide_true, Bool.not_true, cond_false]
   rw [chkT _ (by omega), chkT _ (by omega)]
 unfold q64
 simp only [decide_true, Bool.not_true, cond_false]
 rw [hL, bindS, scanR_none _ _ (fun _ _ _ => rfl)]; rfl
theorem Equal_refl (nm : ByteArray) (attrs : List ByteArray) (rows : Rws) (ha : attrs.length <= maxEl) (hr : SzR rows) : q66 loO nm attrs rows nm attrs rows = some true := by
 have hm : maxEl = 1073741824 := rfl
 have hrl := hr.1
 have hL : q66_L3 loO (0, nm, attrs, rows, nm, attrs, rows) = some (scanR (R := Bool ⊕ Unit) (fun _ => none) rows.length 0 (.inr ())) := by
  refine loop_scan (fun n => ((n : Int), nm, attrs, rows, nm, attrs, rows)) _ rows.length _ rfl ?_ (fun n hn => ?_)
  ·simp [q66_L3_s]
  ·have e1 : decide ((n : Int) < (rows.length : Int)) = true := by simp; omega
   have e2 : IntKind.wrap .i64 ((n : Int) + 1) = ((n + 1 : Nat) : Int) := by rw [wr6 (by omega) (by omega)]; omega
   have q := hr.2 (rows.getD n zR) (getD_mem hn)
   simp only [q66_L3_s, q65, e1, cond_true, e2, decide_true, Int.toNat_natCast, Same1_eq _ _ q q, bindS, Bool.not_true, cond_false]
   rw [chkT _ (by omega), chkT _ (by omega)]
 unfold q66
 simp only [decide_true, Bool.not_true, cond_false, Strings_refl attrs ha, bindS]
 rw [hL, bindS, scanR_none _ _ (fun _ _ _ => rfl)]; rfl
end
end Go.Abs.G03
namespace Go.Abs.G03
open Go Go.Abs
noncomputable section
theorem _root_.Go.Abs.sz3 {t1 t2 t3 : Ty} {r : Cs} {x : (Cs.cons t1 (Cs.cons t2 (Cs.cons t3 r))).den} {N : Nat} (h : Cs.sz (Cs.cons t1 (Cs.cons t2 (Cs.cons t3 r))) x <= N) : t3.sz (fstP _ (sndP _ (sndP _ x))) <= N := by
 simp only [Cs.sz] at h; omega
theorem few_eq (nm : ByteArray) (attrs : List ByteArray) (rows : Rws) : q53 loO nm attrs rows = some (decide (rows.length <= 12) && decide (attrs.length <= 20)) := by
 unfold q53
 have e1 : decide ((rows.length : Int) <= 12) = decide (rows.length <= 12) := by rw [decide_eq_decide]; omega
 have e2 : decide ((attrs.length : Int) <= 20) = decide (attrs.length <= 20) := by rw [decide_eq_decide]; omega
 rw [e1, e2]
 cases decide (rows.length <= 12) <;> rfl
def pId (rows : Rws) (id : Int) (m : Nat) : Bool := decide ((rows.getD m zR).1 = id)
def findI (rows : Rws) (id : Int) : Int × Bool := (max (idxR (pId rows id) rows.length 0) 0, decide (0 <= idxR (pId rows id) rows.length 0))
theorem tFind (nm : ByteArray) (attrs : List ByteArray) (rows : Rws) (id : Int) (hr : rows.length <= maxEl) : q81 loO nm attrs rows id = some (findI rows id) := by
 have hm : maxEl = 1073741824 := rfl
 have hL : q80_L3 loO (rows, (rows.length : Int), 0, id) = some (scanR (R := (Int × Int) ⊕ Int) (fun m => bif pId rows id m then some (.inl ((m : Int), id)) else none) rows.length 0 (.inr id)) := by
  refine loop_scan (fun n => (rows, (rows.length : Int), (n : Int), id)) _ rows.length _ rfl ?_ (fun n hn => ?_)
  ·simp [q80_L3_s]
  ·have e1 : decide ((n : Int) < (rows.length : Int)) = true := by simp; omega
   have e2 : IntKind.wrap .i64 ((n : Int) + 1) = ((n + 1 : Nat) : Int) := by rw [wr6 (by omega) (by omega)]; omega
   simp only [q80_L3_s, e1, cond_true, e2, Int.toNat_natCast, q79, bindS]
   rw [chkT _ (by omega)]
   unfold pId
   cases decide ((rows.getD n zR).1 = id) <;> rfl
 have hI : q80 loO rows id = some (idxR (pId rows id) rows.length 0, id) := by
  unfold q80 idxR
  rw [hL, bindS]
  have := scanR_map (f := fun m => bif pId rows id m then some (Sum.inl (m : Int)) else none) (fun x : Int ⊕ Unit => match x with | .inl i => (Sum.inl (i, id) : (Int × Int) ⊕ Int) | .inr _ => .inr id) (r0 := .inr ()) rows.length 0
  have e : (fun m => (bif pId rows id m then some (Sum.inl (m : Int)) else none : Option (Int ⊕ Unit)).map fun x : Int ⊕ Unit => match x with | .inl i => (Sum.inl (i, id) : (Int × Int) ⊕ Int) | .inr _ => .inr id) = fun m => bif pId rows id m then some (.inl ((m : Int), id)) else none := by
   funext m; cases pId rows id m <;> rfl
  rw [e] at this
  rw [<- this]
  cases scanR (R := Int ⊕ Unit) (fun m => bif pId rows id m then some (Sum.inl (m : Int)) else none) rows.length 0 (.inr ()) <;> rfl
 unfold q81 findI
 rw [hI, bindS]
theorem rFind (nm : ByteArray) (attrs : List ByteArray) (rows : Rws) (id : Int) (hr : rows.length <= maxEl) : q82 loO nm attrs rows id = some (findI rows id) := by
 have hm : maxEl = 1073741824 := rfl
 have hL : q82_L3 loO (id, 0, nm, attrs, rows) = some (scanR (R := (Int × Bool) ⊕ Unit) (fun m => bif pId rows id m then some (.inl ((m : Int), true)) else none) rows.length 0 (.inr ())) := by
  refine loop_scan (fun n => (id, (n : Int), nm, attrs, rows)) _ rows.length _ rfl ?_ (fun n hn => ?_)
  ·simp [q82_L3_s]
  ·have e1 : decide ((n : Int) < (rows.length : Int)) = true := by simp; omega
   have e2 : IntKind.wrap .i64 ((n : Int) + 1) = ((n + 1 : Nat) : Int) := by rw [wr6 (by omega) (by omega)]; omega
   simp only [q82_L3_s, e1, cond_true, e2, Int.toNat_natCast]
   rw [chkT _ (by omega)]
   unfold pId
   cases decide ((rows.getD n zR).1 = id) <;> rfl
 unfold q82 findI
 rw [hL, bindS]
 have : ∀ k n, (match scanR (R := (Int × Bool) ⊕ Unit) (fun m => bif pId rows id m then some (.inl ((m : Int), true)) else none) k n (.inr ()) with | .inl x => (some (x.1, x.2) : Option (Int × Bool)) | .inr _ => some (0, false)) = some (max (idxR (pId rows id) k n) 0, decide (0 <= idxR (pId rows id) k n)) := by
  intro k
  induction k with
  | zero => intro n; rfl
  | succ k ih =>
    intro n
    have := ih (n + 1)
    unfold idxR at this ⊢
    simp only [scanR]
    by_cases hp : pId rows id n = true
    ·simp [hp]
    ·simp only [Bool.not_eq_true] at hp; simpa [hp] using this
 rw [<- this]
 cases scanR (R := (Int × Bool) ⊕ Unit) (fun m => bif pId rows id m then some (.inl ((m : Int), true)) else none) rows.length 0 (.inr ()) <;> rfl
theorem copied_eq (r : Int × Vals) (h : SzV r.2) : q87 loO r.1 r.2 = some r := by
 unfold q87 q86
 have : (Nat.ble r.2.length maxEl && Nat.ble 1 3) = true := by simp; exact h.1
 rw [this]; rfl
theorem cp_eq (r : Int × Vals) (h : SzV r.2) : q91 loO r.1 r.2 = some r := by
 unfold q91
 rw [chkT _ h.1]
theorem tWith (nm : ByteArray) (attrs : List ByteArray) (rows rows1 : Rws) (ha : attrs.length <= maxEl) (hr : SzR rows1) : q88 loO nm attrs rows rows1 = some (nm, attrs, rows1) := by
 have hm : maxEl = 1073741824 := rfl
 have hrl := hr.1
 have hL : q88_L3 loO (rows1, (rows1.length : Int), 0, ByteArray.mk #[], [], [], nm, attrs, []) = some (ByteArray.mk #[], [], [], nm, attrs, rows1) := by
  refine loop_at (N := rows1.length) (st := fun n => (rows1, (rows1.length : Int), (n : Int), ByteArray.mk #[], [], [], nm, attrs, rows1.take n)) rfl ?_ (fun n hn => ?_)
  ·simp [q88_L3_s]
  ·have e1 : decide ((n : Int) < (rows1.length : Int)) = true := by simp; omega
   have e2 : IntKind.wrap .i64 ((n : Int) + 1) = ((n + 1 : Nat) : Int) := by rw [wr6 (by omega) (by omega)]; omega
   simp only [q88_L3_s, e1, cond_true, e2, Int.toNat_natCast, copied_eq _ (hr.2 (rows1.getD n zR) (getD_mem hn)), bindS]
   rw [chkT _ (by omega), chkT _ (by simp; omega), take_snoc (d := zR) hn]
 unfold q88 q19
 have : (Nat.ble attrs.length maxEl && Nat.ble 1 1) = true := by simp; exact ha
 simp only [this, cond_true, bindS]
 rw [hL]; rfl
theorem rWith (nm : ByteArray) (attrs : List ByteArray) (rows rows1 : Rws) (ha : attrs.length <= maxEl) (hr : SzR rows1) : q92 loO nm attrs rows rows1 = some (nm, attrs, rows1) := by
 have hm : maxEl = 1073741824 := rfl
 have hrl := hr.1
 have hL : q92_L3 loO (rows1, 0, ByteArray.mk #[], [], [], nm, attrs, []) = some (ByteArray.mk #[], [], [], nm, attrs, rows1) := by
  refine loop_at (N := rows1.length) (st := fun n => (rows1, (n : Int), ByteArray.mk #[], [], [], nm, attrs, rows1.take n)) rfl ?_ (fun n hn => ?_)
  ·simp [q92_L3_s]
  ·have e1 : decide ((n : Int) < (rows1.length : Int)) = true := by simp; omega
   have e2 : IntKind.wrap .i64 ((n : Int) + 1) = ((n + 1 : Nat) : Int) := by rw [wr6 (by omega) (by omega)]; omega
   simp only [q92_L3_s, e1, cond_true, e2, Int.toNat_natCast, cp_eq _ (hr.2 (rows1.getD n zR) (getD_mem hn)), bindS]
   rw [chkT _ (by omega), chkT _ (by simp; omega), take_snoc (d := zR) hn]
 unfold q92
 rw [chkT _ ha, hL]; rfl
theorem Concat2_eq (A B : Rws) (h : A.length + B.length <= 1000) : q96 loO [A, B] = some (A ++ B) := by
 have hm : maxEl = 1073741824 := rfl
 have e0 : ([A, B].length : Int) = 2 := rfl
 have w1 : IntKind.wrap .i64 ((0 : Int) + 1) = 1 := by rw [wr6 (by omega) (by omega)]; rfl
 have w2 : IntKind.wrap .i64 ((1 : Int) + 1) = 2 := by rw [wr6 (by omega) (by omega)]; rfl
 have w3 : IntKind.wrap .i64 ((0 : Int) + (A.length : Int)) = (A.length : Int) := by rw [wr6 (by omega) (by omega)]; omega
 have w4 : IntKind.wrap .i64 ((A.length : Int) + (B.length : Int)) = (A.length : Int) + (B.length : Int) := wr6 (by omega) (by omega)
 have c0 : decide ((0 : Int) < 2) = true := rfl
 have c1 : decide ((1 : Int) < 2) = true := rfl
 have c2 : decide ((2 : Int) < 2) = false := rfl
 have g0 : [A, B].getD (0 : Int).toNat [] = A := rfl
 have g1 : [A, B].getD (1 : Int).toNat [] = B := rfl
 have n1 : decide ((A.length : Int) < 0) = false := by rw [decide_eq_false_iff_not]; omega
 have n2 : decide ((A.length : Int) + (B.length : Int) < 0) = false := by rw [decide_eq_false_iff_not]; omega
 have hL11 : q96_L11 loO ([A, B], 0, [A, B], 2, 0) = some ([A, B], (A.length : Int) + (B.length : Int)) := by
  show loopO _ _ = _
  rw [loopO_eq]; simp only [q96_L11_s, c0, cond_true, e0, g0, w3, n1, cond_false, w1]
  rw [chkT _ (by omega)]; simp only
  rw [loopO_eq]; simp only [q96_L11_s, c1, cond_true, e0, g1, w4, n2, cond_false, w2]
  rw [chkT _ (by omega)]; simp only
  rw [loopO_eq]; simp only [q96_L11_s, c2, cond_false]
 have hL3 : q96_L3 loO ([A, B], 2, 0, []) = some (A ++ B) := by
  show loopO _ _ = _
  rw [loopO_eq]; simp only [q96_L3_s, c0, cond_true, e0, g0, w1]
  rw [chkT _ (by omega), chkT _ (by simp; omega)]; simp only
  rw [loopO_eq]; simp only [q96_L3_s, c1, cond_true, e0, g1, w2]
  rw [chkT _ (by omega), chkT _ (by simp; omega)]; simp only
  rw [loopO_eq]; simp only [q96_L3_s, c2, cond_false, List.nil_append]
 unfold q96
 rw [e0, hL11, bindS]
 have hG : q95 loO ((A.length : Int) + (B.length : Int)) = some [] := by
  unfold q95
  have : (decide (0 <= (A.length : Int) + (B.length : Int)) && decide ((A.length : Int) + (B.length : Int) <= 1048576)) = true := by simp; omega
  rw [this]; rfl
 rw [hG, bindS]
 simp only [e0]
 rw [hL3]; rfl
theorem idxR_lt {p : Nat -> Bool} : ∀ {k n : Nat}, idxR p k n < n + k /\ -1 <= idxR p k n
 | 0, n => by show (-1 : Int) < n + 0 /\ (-1 : Int) <= -1; omega
 | k + 1, n => by
   have := idxR_lt (p := p) (k := k) (n := n + 1)
   unfold idxR at this ⊢
   simp only [scanR]
   by_cases hp : p n = true
   ·simp [hp]; omega
   ·simp only [Bool.not_eq_true] at hp
    simp only [hp, cond_false]
    omega
theorem delete_law (nm : ByteArray) (attrs : List ByteArray) (rows : Rws) (id : Int) (hr : SzR rows) : q99 loO nm attrs rows id = some true := by
 have hm : maxEl = 1073741824 := rfl
 unfold q99
 simp only [aw, bindS, few_eq, Bool.not_true, cond_false]
 cases hf : (decide (rows.length <= 12) && decide (attrs.length <= 20)) with
 | false => rfl
 | true =>
   simp only [Bool.and_eq_true, decide_eq_true_eq] at hf
   simp only [Bool.not_true, cond_false]
   have key : ∃ y : ByteArray × List ByteArray × Rws × Int, q97 loO nm attrs rows id = some y /\ q98 loO nm attrs rows id = some y /\ y.2.1.length <= maxEl /\ SzR y.2.2.1 := by
    unfold q97 q98
    simp only [tValid, rValid, bindS, tFind _ _ _ _ hr.1, rFind _ _ _ _ hr.1]
    by_cases hv : validI nm attrs rows = 0
    ·simp only [hv, decide_true, Bool.not_true, cond_false]
     have hfi := idxR_lt (p := pId rows id) (k := rows.length) (n := 0)
     unfold findI
     by_cases h0 : 0 <= idxR (pId rows id) rows.length 0
     ·simp only [h0, decide_true, Bool.not_true, cond_false]
      have e1 : max (idxR (pId rows id) rows.length 0) 0 = ((idxR (pId rows id) rows.length 0).toNat : Int) := by omega
      rw [e1]
      have hlt : (idxR (pId rows id) rows.length 0).toNat < rows.length := by omega
      generalize (idxR (pId rows id) rows.length 0).toNat = i at hlt
      have e2 : IntKind.wrap .i64 ((i : Int) + 1) = ((i + 1 : Nat) : Int) := by rw [wr6 (by omega) (by omega)]; omega
      simp only [e2, Int.toNat_natCast, List.drop_zero, List.take_length]
      have hl1 : (rows.take i).length = i := by simp; omega
      have hl2 : (rows.drop (i + 1)).length = rows.length - (i + 1) := by simp
      have hs : SzR (rows.take i ++ rows.drop (i + 1)) := ⟨by simp; omega, fun r hrm => by
       rcases List.mem_append.1 hrm with h | h
       ·exact hr.2 r (List.mem_of_mem_take h)
       ·exact hr.2 r (List.mem_of_mem_drop h)⟩
      rw [chkT _ (by omega), chkT _ (by omega), Concat2_eq _ _ (by omega), bindS, tWith _ _ _ _ (by omega) hs, bindS, chkT _ (by omega), chkT _ (by omega), chkT _ (by omega), chkT _ (by omega), rWith _ _ _ _ (by omega) hs, bindS]
      exact ⟨_, rfl, rfl, by simp; omega, hs⟩
     ·simp only [h0, decide_false, Bool.not_false, cond_true]
      exact ⟨_, rfl, rfl, by simp, ⟨by simp, fun r h => by cases h⟩⟩
    ·simp only [hv, decide_false, Bool.not_false, cond_true]
     exact ⟨_, rfl, rfl, by simp, ⟨by simp, fun r h => by cases h⟩⟩
   obtain ⟨y, h1, h2, h3, h4⟩ := key
   simp only [h1, h2, bindS, decide_true, cond_true]
   rw [Equal_refl _ _ _ h3 h4]; rfl
end
end Go.Abs.G03
