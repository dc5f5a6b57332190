/- Helpers of the plain laws: loops as states by number, tables, short words. No condition. -/
import Derived.Test.YtkgoecnchnbbfaaB
import Derived.Test.YtkgoecnchnbbfaaG
set_option linter.unusedVariables false
set_option linter.unusedSimpArgs false
set_option linter.unusedSectionVars false
namespace Go.Abs
set_option linter.unusedSimpArgs false
set_option linter.unusedVariables false
theorem wr6 {n : Int} (h0 : -9223372036854775808 ≤ n) (h1 : n < 9223372036854775808) : IntKind.wrap .i64 n = n := by
  have e : (2 : Int) ^ IntKind.bits .i64 = 18446744073709551616 := rfl
  have e' : (2 : Int) ^ (IntKind.bits .i64 - 1) = 9223372036854775808 := rfl
  have s : IntKind.signed .i64 = true := rfl
  simp only [IntKind.wrap, e, e', s, Bool.true_and, ge_iff_le, decide_eq_true_eq]
  split <;> omega
theorem chkT {β : Type} {p : Prop} [Decidable p] (x : Option β) (h : p) : chk p x = x := by simp [chk, h]
theorem bindS {α β : Type} (a : α) (f : α → Option β) : Option.bind (some a) f = f a := rfl
def bl (s : ByteArray) : List UInt8 := s.data.toList
end Go.Abs
namespace Go.Abs.G03
open Go Go.Abs
set_option linter.unusedSimpArgs false
set_option linter.unusedVariables false
set_option maxRecDepth 100000
theorem J17_eq {v4_0 : ByteArray} {v4_1 : List ByteArray} {v4_2 : List (Int × List (Int × Int × ByteArray))} {out8 : ByteArray} {clk : Int} {ents : List (Int × ByteArray × List (Int × Int × ByteArray))} {m2 : Bool} {h4 : List ByteArray} {h5 : List (Int × List (Int × Int × ByteArray))}
    {y} (hd : (ents.map (·.1)).Nodup) (hl : ents.length ≤ maxEl)
    (hy : q36_J17_r loO (v4_0, v4_1, v4_2, out8, clk, ents, m2, ents.map (·.2.1), clk, clk, [], false, h4, h5) = some y) :
    q36_J17 loO (v4_0, v4_1, v4_2, out8, clk, ents, m2, [], h4, h5) = some y := by
  show rngF q36_J17_i (q36_J17_t loO) (q36_J17_r loO) (v4_0, v4_1, v4_2, out8, clk, ents, m2, [], clk, clk, [], false, h4, h5) = some y
  refine rngF_eq (good_collect (p := q36_J17_i) (t := q36_J17_t loO) (r := q36_J17_r loO) (fun sn => (v4_0, v4_1, v4_2, out8, clk, ents, m2, sn.map (kAt (ByteArray.mk #[]) ents), clk, clk, sn, false, h4, h5)) (B := ents.map (·.1)) (c := clk) hd (fun sn => rfl) (fun sn b hb hn hsd hsB => ?_) (fun sn hp => ?_))
  · obtain ⟨e, he⟩ := mbf_at hb
    have hlen : sn.length < ents.length := by
      have h1 : (sn ++ [b]).Nodup := by
        rw [List.nodup_append]
        exact ⟨hsd, by simp, fun x hx y hy => by rw [List.mem_singleton] at hy; subst hy; intro e; subst e; exact hn hx⟩
      have := List.Nodup.length_le_of_subset h1 (l₂ := ents.map (·.1)) (fun a ha => by
        rcases List.mem_append.1 ha with ha | ha
        · exact hsB a ha
        · rw [List.mem_singleton] at ha; subst ha; exact hb)
      simp at this; omega
    simp only [q36_J17_t, addI, List.getLast?_append, List.getLast?_singleton, Option.some_or, Option.bind_some, he, chk, decide_true, cond_true, List.length_map, List.length_singleton]
    have : decide (sn.length + 1 ≤ maxEl) = true := by simp; omega
    simp only [this, cond_true, List.map_append, List.map_cons, List.map_nil, kAt, he]
  · have hperm : (sn.map (kAt (ByteArray.mk #[]) ents)).Perm (ents.map (·.2.1)) := by
      rw [← kAt_map (d := ByteArray.mk #[]) hd]; exact hp.map _
    rw [← hy]
    show Option.bind (q35 loO (sn.map (kAt (ByteArray.mk #[]) ents))) _ = Option.bind (q35 loO (ents.map (·.2.1))) _
    have e1 : q35 loO (sn.map (kAt (ByteArray.mk #[]) ents)) = q35 loO (ents.map (·.2.1)) := vsortS_perm hperm
    rw [e1]
    have e2 := hperm.length_eq
    congr 1
    funext y152
    rw [e2]
def nodB : List Int → Bool
  | [] => true
  | a :: r => !(r.any fun b => decide (b = a)) && nodB r
theorem nodB_ok : ∀ {l : List Int}, nodB l = true → l.Nodup
  | [], _ => List.nodup_nil
  | a :: r, h => by
    simp only [nodB, Bool.and_eq_true, Bool.not_eq_true', List.any_eq_false, decide_eq_true_eq] at h
    exact List.nodup_cons.2 ⟨fun hm => h.1 a hm rfl, nodB_ok h.2⟩
def j17C (lo : Lo) : (ByteArray × (List ByteArray) × (List (Int × (List (Int × Int × ByteArray)))) × ByteArray × Int × (List (Int × ByteArray × (List (Int × Int × ByteArray)))) × Bool × (List ByteArray) × (List ByteArray) × (List (Int × (List (Int × Int × ByteArray))))) → Option ((Int × ByteArray × (List ByteArray) × (List (Int × (List (Int × Int × ByteArray)))))) := fun x => match x with
  | (v4_0, v4_1, v4_2, out8, clk, ents, m2, keys, h4, h5) => bif keys.isEmpty && (nodB (ents.map (·.1)) && Nat.ble ents.length maxEl) then q36_J17_r lo (v4_0, v4_1, v4_2, out8, clk, ents, m2, ents.map (·.2.1), clk, clk, [], false, h4, h5) else none
theorem j17C_ok {x y} (h : j17C loO x = some y) : q36_J17 loO x = some y := by
  obtain ⟨v4_0, v4_1, v4_2, out8, clk, ents, m2, keys, h4, h5⟩ := x
  unfold j17C at h
  obtain ⟨e, hk⟩ := cond_ok h
  simp only [Bool.and_eq_true, List.isEmpty_iff] at e
  obtain ⟨rfl, e1, e2⟩ := e
  exact J17_eq (nodB_ok e1) (by simpa using e2) hk
def joinC (lo : Lo) (a0_0 : ByteArray) (a0_1 : List ByteArray) (a0_2 : List (Int × (List (Int × Int × ByteArray)))) (b1_0 : ByteArray) (b1_1 : List ByteArray) (b1_2 : List (Int × (List (Int × Int × ByteArray)))) : Option (ByteArray × (List ByteArray) × (List (Int × (List (Int × Int × ByteArray)))) × Int) :=
  Option.bind (q11 lo a0_0 a0_1 a0_2) fun y77 => bif (!decide (y77 = (0 : Int))) then (some ((ByteArray.mk #[]), ([] : List ByteArray), ([] : List (Int × (List (Int × Int × ByteArray)))), y77)) else (Option.bind (q11 lo b1_0 b1_1 b1_2) fun y78 => bif (!decide (y78 = (0 : Int))) then (some ((ByteArray.mk #[]), ([] : List ByteArray), ([] : List (Int × (List (Int × Int × ByteArray)))), y78)) else (Option.bind (q19 lo a0_1) fun y79 => Option.bind (q36_L42 lo (b1_1, (b1_1.length : Int), (0 : Int), a0_0, a0_1, a0_2, b1_0, b1_1, b1_2, (ByteArray.mk #[]), ([] : List ByteArray), ([] : List (Int × (List (Int × Int × ByteArray)))), a0_0, [], y79, [])) fun y81 => bif (decide ((16 : Int) < (y81.2.2.2.2.2.2.2.2.2.2.2.1.length : Int))) then (some ((ByteArray.mk #[]), ([] : List ByteArray), ([] : List (Int × (List (Int × Int × ByteArray)))), (3 : Int))) else (Option.bind (q36_L19 lo (y81.2.2.2.2.2.2.2.2.2.2.1, y81.2.2.1, (y81.2.2.1.length : Int), (0 : Int), y81.2.2.2.1, y81.2.2.2.2.1, y81.2.2.2.2.2.1, y81.2.2.2.2.2.2.1, y81.2.2.2.2.2.2.2.1, y81.2.2.2.2.2.2.2.2.1, y81.2.2.2.2.2.2.2.2.2.1, (0 : Int), ([] : List (Int × ByteArray × (List (Int × Int × ByteArray)))), false, y81.2.2.2.2.2.2.2.2.2.2.2.1, y81.2.2.2.2.2.2.2.2.2.2.2.2)) fun y87 => alt2 y87 (fun y88 => some (y88.2.1, y88.2.2.1, y88.2.2.2, y88.1)) (fun y89 => Option.bind (j17C lo (y89.1, y89.2.1, y89.2.2.1, y89.2.2.2.1, y89.2.2.2.2.1, y89.2.2.2.2.2.1, y89.2.2.2.2.2.2.1, [], y89.2.2.2.2.2.2.2.1, y89.2.2.2.2.2.2.2.2)) fun y154 => some (y154.2.1, y154.2.2.1, y154.2.2.2, y154.1)))))
theorem bind_mono {α β : Type} {a : Option α} {f g : α → Option β} {y : β} (h : ∀ z, f z = some y → g z = some y) : Option.bind a f = some y → Option.bind a g = some y := by
  cases a with
  | none => intro h; cases h
  | some z => exact h z
theorem cond_mono {β : Type} {b : Bool} {x x' z : Option β} {y : β} (h : x = some y → x' = some y) : (bif b then z else x) = some y → (bif b then z else x') = some y := by
  cases b with
  | true => exact id
  | false => exact h
theorem joinC_ok {a0 a1 a2 b0 b1 b2 y} : joinC loO a0 a1 a2 b0 b1 b2 = some y → q36 loO a0 a1 a2 b0 b1 b2 = some y := by
  unfold joinC q36
  refine bind_mono fun _ => cond_mono (bind_mono fun _ => cond_mono (bind_mono fun _ => bind_mono fun _ => cond_mono (bind_mono fun z => ?_)))
  cases z with
  | inl z => exact id
  | inr z =>
    simp only [alt2]
    intro h
    cases hj : j17C loO (z.1, z.2.1, z.2.2.1, z.2.2.2.1, z.2.2.2.2.1, z.2.2.2.2.2.1, z.2.2.2.2.2.2.1, [], z.2.2.2.2.2.2.2.1, z.2.2.2.2.2.2.2.2) with
    | none => rw [hj] at h; cases h
    | some q => rw [hj] at h; rw [j17C_ok hj]; exact h
abbrev Vals := List (Int × Int × ByteArray)
abbrev Rws := List (Int × Vals)
noncomputable def E6 : ByteArray × List ByteArray × Rws := (q2 (loM 400)).getD ⟨ByteArray.mk #[], [], []⟩
noncomputable def E51 : ByteArray × List ByteArray × Rws × Int := (q18 (loM 400) E6.1 E6.2.1 E6.2.2 1).getD ⟨ByteArray.mk #[], [], [], 0⟩
noncomputable def E52 : ByteArray × List ByteArray × Rws × Int := (q18 (loM 400) E6.1 E6.2.1 E6.2.2 2).getD ⟨ByteArray.mk #[], [], [], 0⟩
noncomputable def E155 : ByteArray × List ByteArray × Rws × Int := (joinC (loM 400) E6.1 E6.2.1 E6.2.2 E52.1 E52.2.1 E52.2.2.1).getD ⟨ByteArray.mk #[], [], [], 0⟩
noncomputable def E156 : ByteArray × List ByteArray × Rws × Int := (joinC (loM 400) E51.1 E51.2.1 E51.2.2.1 E52.1 E52.2.1 E52.2.2.1).getD ⟨ByteArray.mk #[], [], [], 0⟩
theorem aw : q44 loO = some true := by
  have e6 : q2 loO = some E6 := (congrArg q2 (loM_eq 400)).symm.trans (by kernel_rfl)
  have e51 : q18 loO E6.1 E6.2.1 E6.2.2 1 = some E51 := (congrArg (fun l => q18 l E6.1 E6.2.1 E6.2.2 1) (loM_eq 400)).symm.trans (by kernel_rfl)
  have e52 : q18 loO E6.1 E6.2.1 E6.2.2 2 = some E52 := (congrArg (fun l => q18 l E6.1 E6.2.1 E6.2.2 2) (loM_eq 400)).symm.trans (by kernel_rfl)
  have e155 : q36 loO E6.1 E6.2.1 E6.2.2 E52.1 E52.2.1 E52.2.2.1 = some E155 := joinC_ok ((congrArg (fun l => joinC l E6.1 E6.2.1 E6.2.2 E52.1 E52.2.1 E52.2.2.1) (loM_eq 400)).symm.trans (by kernel_rfl))
  have e156 : q36 loO E51.1 E51.2.1 E51.2.2.1 E52.1 E52.2.1 E52.2.2.1 = some E156 := joinC_ok ((congrArg (fun l => joinC l E51.1 E51.2.1 E51.2.2.1 E52.1 E52.2.1 E52.2.2.1) (loM_eq 400)).symm.trans (by kernel_rfl))
  unfold q44
  rw [e6, bindS, e51, bindS, e52, bindS, e155, bindS, e156, bindS, ← loM_eq 400]
  show (_ : Option Bool) = some true
  kernel_rfl
end Go.Abs.G03
namespace Go.Abs
set_option linter.unusedSimpArgs false
set_option linter.unusedVariables false
def scanR {R : Type} (f : Nat → Option R) : Nat → Nat → R → R
  | 0, _, r0 => r0
  | k + 1, n, r0 => match f n with
    | some r => r
    | none => scanR f k (n + 1) r0
theorem scanR_congr {R : Type} {f g : Nat → Option R} {r0 : R} : ∀ (k n : Nat), (∀ m, n ≤ m → m < n + k → f m = g m) → scanR f k n r0 = scanR g k n r0
  | 0, n, h => rfl
  | k + 1, n, h => by
    simp only [scanR]
    rw [h n (Nat.le_refl _) (by omega), scanR_congr k (n + 1) (fun m h1 h2 => h m (by omega) (by omega))]
theorem loop_scan {S R : Type} {step : S → Option (S ⊕ R)} (st : Nat → S) (f : Nat → Option R) (N : Nat) (r0 : R) {s : S} (hst : s = st 0) (he : step (st N) = some (.inr r0))
    (hs : ∀ n, n < N → step (st n) = some (match f n with | some r => .inr r | none => .inl (st (n + 1)))) : loopO step s = some (scanR f N 0 r0) := by
  subst hst
  have : ∀ k n, n + k = N → loopO step (st n) = some (scanR f k n r0) := by
    intro k
    induction k with
    | zero => intro n h; rw [loopO_eq]; simp only [Nat.add_zero] at h; subst h; rw [he]; rfl
    | succ k ih =>
      intro n h
      rw [loopO_eq, hs n (by omega)]
      simp only [scanR]
      cases f n with
      | some r => rfl
      | none => exact ih (n + 1) (by omega)
  exact this N 0 (by omega)
def anyN (p : Nat → Bool) : Nat → Nat → Bool
  | 0, _ => false
  | k + 1, n => p n || anyN p k (n + 1)
def idxR (p : Nat → Bool) (k n : Nat) : Int := match scanR (R := Int ⊕ Unit) (fun m => bif p m then some (.inl (m : Int)) else none) k n (.inr ()) with
  | .inl i => i
  | .inr _ => -1
theorem idx_any (p : Nat → Bool) : ∀ k n, decide (0 ≤ idxR p k n) = anyN p k n
  | 0, n => rfl
  | k + 1, n => by
    have := idx_any p k (n + 1)
    unfold idxR at this ⊢
    simp only [scanR, anyN]
    by_cases hp : p n = true
    · simp [hp]
    · simp only [Bool.not_eq_true] at hp; simpa [hp] using this
theorem scan_all {p : Nat → Bool} {b : Bool} : ∀ k n, (match scanR (R := Bool ⊕ Unit) (fun m => bif p m then some (.inl b) else none) k n (.inr ()) with | .inl x => x | .inr _ => !b) = (bif anyN p k n then b else !b)
  | 0, n => rfl
  | k + 1, n => by
    simp only [scanR, anyN]
    cases p n with
    | true => rfl
    | false => simpa using scan_all (p := p) (b := b) k (n + 1)
end Go.Abs
namespace Go.Abs.G03
open Go Go.Abs
noncomputable section
set_option linter.unusedSimpArgs false
set_option linter.unusedVariables false
def lt (c : Int) : Bool := decide (97 ≤ c) && decide (c ≤ 122) || decide (65 ≤ c) && decide (c ≤ 90) || decide (c = 95)
theorem letter_eq (c : Int) : q45 loO c = some (lt c) := by
  unfold q45 lt
  by_cases h1 : (97 : Int) ≤ c <;> by_cases h2 : c ≤ (122 : Int) <;> by_cases h3 : (65 : Int) ≤ c <;> by_cases h4 : c ≤ (90 : Int) <;> simp [h1, h2, h3, h4]
def fN (s : ByteArray) (n : Nat) : Option (Bool ⊕ Unit) :=
  bif lt (byteI s n) then none else bif decide (n = 0) then some (.inl false) else bif decide (byteI s n < 48) then some (.inl false) else bif decide ((57 : Int) < byteI s n) then some (.inl false) else none
theorem isName_L3 (s : ByteArray) (hs : s.size ≤ 24) : q3_L3 loO (s, (s.size : Int), 0) = some (scanR (fN s) s.size 0 (.inr ())) := by
  refine loop_scan (fun n => (s, (s.size : Int), (n : Int))) (fN s) s.size (.inr ()) rfl ?_ (fun n hn => ?_)
  · simp [q3_L3_s]
  · have e1 : decide ((n : Int) < (s.size : Int)) = true := by simp; omega
    have e2 : IntKind.wrap .i64 ((n : Int) + 1) = ((n + 1 : Nat) : Int) := by rw [wr6 (by omega) (by omega)]; omega
    simp only [q3_L3_s, e1, cond_true, e2]
    rw [chkT _ (by omega)]
    unfold fN lt
    have e3 : decide ((n : Int) = 0) = decide (n = 0) := by simp
    simp only [e3]
    generalize byteI s n = c
    by_cases h1 : (97 : Int) ≤ c <;> by_cases h2 : c ≤ (122 : Int) <;> by_cases h3 : (65 : Int) ≤ c <;> by_cases h4 : c ≤ (90 : Int) <;> by_cases h5 : c = 95 <;> by_cases h6 : n = 0 <;> by_cases h7 : c < 48 <;> by_cases h8 : (57 : Int) < c <;> simp [h1, h2, h3, h4, h5, h6, h7, h8]
def nul : ByteArray := ByteArray.mk #[110, 117, 108, 108]
def nameB (s : ByteArray) : Bool :=
  bif decide (s = ByteArray.mk #[]) then false else bif decide ((24 : Int) < (s.size : Int)) then false else bif decide (s = nul) then false else
    match scanR (fN s) s.size 0 (.inr ()) with | .inl b => b | .inr _ => true
theorem isName_eq (s : ByteArray) : q3 loO s = some (nameB s) := by
  unfold q3 nameB nul
  by_cases h1 : s = ByteArray.mk #[]
  · simp [h1]
  · by_cases h2 : (24 : Int) < (s.size : Int)
    · simp [h1, h2]
    · by_cases h3 : s = ByteArray.mk #[110, 117, 108, 108]
      · simp [h1, h2, h3]
      · simp only [h1, h2, h3, decide_false, cond_false]
        rw [isName_L3 s (by omega)]
        simp only [bindS]
        cases scanR (fN s) s.size 0 (.inr ()) <;> rfl
def fR (s : ByteArray) (n : Nat) : Option (Bool ⊕ Unit) :=
  bif lt (byteI s n) then none else bif decide (byteI s n < 48) then some (.inl false) else bif decide ((57 : Int) < byteI s n) then some (.inl false) else none
theorem Name_L3 (s : ByteArray) (hs : s.size ≤ 24) : q46_L3 loO (s, 0) = some (scanR (fR s) s.size 0 (.inr ())) := by
  refine loop_scan (fun n => (s, (n : Int))) (fR s) s.size (.inr ()) rfl ?_ (fun n hn => ?_)
  · simp [q46_L3_s]
  · have e1 : decide ((n : Int) < (s.size : Int)) = true := by simp; omega
    have e2 : IntKind.wrap .i64 ((n : Int) + 1) = ((n + 1 : Nat) : Int) := by rw [wr6 (by omega) (by omega)]; omega
    simp only [q46_L3_s, e1, cond_true, e2, letter_eq, bindS]
    rw [chkT _ (by omega)]
    unfold fR
    generalize byteI s n = c
    have h0 : (0 : Int) ≤ (n : Int) ∧ (n : Int) < (s.size : Int) := by omega
    cases lt c <;> by_cases h7 : c < 48 <;> by_cases h8 : (57 : Int) < c <;> simp [h7, h8, chkT, h0]
theorem size0 (s : ByteArray) : s.size = 0 ↔ s = ByteArray.mk #[] := by
  constructor
  · intro h
    have : s.data = #[] := Array.eq_empty_of_size_eq_zero h
    cases s; simp_all
  · intro h; subst h; rfl
theorem Name_eq (s : ByteArray) : q46 loO s = some (nameB s) := by
  unfold q46 nameB nul
  by_cases h1 : s = ByteArray.mk #[]
  · subst h1; rfl
  · have h1' : s.size ≠ 0 := fun h => h1 ((size0 s).1 h)
    by_cases h2 : (24 : Int) < (s.size : Int)
    · have : ¬ (s.size : Int) = 0 := by omega
      simp [h1, h2, this]
    · have h0 : ¬ (s.size : Int) = 0 := by omega
      simp only [h1, h2, h0, decide_false, cond_false, letter_eq, bindS]
      rw [chkT _ (by omega)]
      have hz : byteI s 0 = byteI s ((0 : Nat) : Int) := rfl
      have hsz : s.size = (s.size - 1) + 1 := by omega
      cases hl : lt (byteI s 0) with
      | false =>
        have : scanR (fN s) s.size 0 (.inr ()) = .inl false := by
          rw [hsz]; simp only [scanR, fN, ← hz, hl]; rfl
        rw [this]
        by_cases h3 : s = ByteArray.mk #[110, 117, 108, 108] <;> simp [h3]
      | true =>
        have : scanR (fN s) s.size 0 (.inr ()) = scanR (fR s) s.size 0 (.inr ()) := scanR_congr _ _ (fun m _ _ => by
          unfold fN fR
          by_cases hm : m = 0
          · subst hm; rw [← hz, hl]; rfl
          · simp [hm])
        rw [this, Name_L3 s (by omega)]
        by_cases h3 : s = ByteArray.mk #[110, 117, 108, 108]
        · simp [h3]
        · simp only [h3, decide_false, cond_false, Bool.not_true, bindS]
          cases scanR (fR s) s.size 0 (.inr ()) <;> rfl
def idxI (l : List ByteArray) (v : ByteArray) : Int := idxR (fun m => decide (v = l.getD m (ByteArray.mk #[]))) l.length 0
theorem Index_eq (l : List ByteArray) (v : ByteArray) (hl : l.length ≤ maxEl) : q4 loO l v = some (idxI l v) := by
  have hm : maxEl = 1073741824 := rfl
  have : q4_L3 loO (l, v, (l.length : Int), 0) = some (scanR (R := Int ⊕ Unit) (fun m => bif decide (v = l.getD m (ByteArray.mk #[])) then some (.inl (m : Int)) else none) l.length 0 (.inr ())) := by
    refine loop_scan (fun n => (l, v, (l.length : Int), (n : Int))) _ l.length (Sum.inr ()) rfl ?_ (fun n hn => ?_)
    · simp [q4_L3_s]
    · have e1 : decide ((n : Int) < (l.length : Int)) = true := by simp; omega
      have e2 : IntKind.wrap .i64 ((n : Int) + 1) = ((n + 1 : Nat) : Int) := by rw [wr6 (by omega) (by omega)]; omega
      simp only [q4_L3_s, e1, cond_true, e2, Int.toNat_natCast]
      rw [chkT _ (by omega)]
      cases decide (v = l.getD n (ByteArray.mk #[])) <;> rfl
  unfold q4 idxI idxR
  rw [this, bindS]
  cases scanR (R := Int ⊕ Unit) (fun m => bif decide (v = l.getD m (ByteArray.mk #[])) then some (.inl (m : Int)) else none) l.length 0 (.inr ()) <;> rfl
theorem Contains_eq (l : List ByteArray) (v : ByteArray) (hl : l.length ≤ maxEl) : q5 loO l v = some (decide (0 ≤ idxI l v)) := by
  unfold q5; rw [Index_eq l v hl]; rfl
theorem Attr_eq (l : List ByteArray) (v : ByteArray) (hl : l.length ≤ maxEl) : q47 loO l v = some (idxI l v) := by
  have hm : maxEl = 1073741824 := rfl
  have : q47_L3 loO (l, v, 0) = some (scanR (R := Int ⊕ Unit) (fun m => bif decide (v = l.getD m (ByteArray.mk #[])) then some (.inl (m : Int)) else none) l.length 0 (.inr ())) := by
    refine loop_scan (fun n => (l, v, (n : Int))) _ l.length (Sum.inr ()) rfl ?_ (fun n hn => ?_)
    · simp [q47_L3_s]
    · have e1 : decide ((n : Int) < (l.length : Int)) = true := by simp; omega
      have e2 : IntKind.wrap .i64 ((n : Int) + 1) = ((n + 1 : Nat) : Int) := by rw [wr6 (by omega) (by omega)]; omega
      have e3 : decide (l.getD n (ByteArray.mk #[]) = v) = decide (v = l.getD n (ByteArray.mk #[])) := by simp only [eq_comm]
      simp only [q47_L3_s, e1, cond_true, e2, Int.toNat_natCast, e3]
      rw [chkT _ (by omega)]
      cases decide (v = l.getD n (ByteArray.mk #[])) <;> rfl
  unfold q47 idxI idxR
  rw [this, bindS]
  cases scanR (R := Int ⊕ Unit) (fun m => bif decide (v = l.getD m (ByteArray.mk #[])) then some (.inl (m : Int)) else none) l.length 0 (.inr ()) <;> rfl
def vB (v : Int × Int × ByteArray) : Bool := (q6 loO v.1 v.2.1 v.2.2).getD false
theorem Valid_eq (a b : Int) (c : ByteArray) : q6 loO a b c = some (vB (a, b, c)) := by
  unfold vB q6
  by_cases h0 : a = 0 <;> by_cases h1 : a = 1 <;> by_cases h2 : a = 2 <;> by_cases h3 : a = 3 <;> by_cases h4 : b = 0 <;> by_cases h5 : 1 ≤ b <;> simp [h0, h1, h2, h3, h4, h5]
theorem rValid_eq (a b : Int) (c : ByteArray) : q49 loO a b c = some (vB (a, b, c)) := Valid_eq a b c
abbrev zV : Int × Int × ByteArray := (0, 0, ByteArray.mk #[])
def vsB (l : Vals) : Bool := !anyN (fun m => !vB (l.getD m zV)) l.length 0
theorem validValues_eq (l : Vals) (hl : l.length ≤ maxEl) : q10 loO l = some (vsB l) := by
  have hm : maxEl = 1073741824 := rfl
  have : q8_L3 loO (l, (l.length : Int), 0) = some (scanR (R := Int ⊕ Unit) (fun m => bif !vB (l.getD m zV) then some (.inl (m : Int)) else none) l.length 0 (.inr ())) := by
    refine loop_scan (fun n => (l, (l.length : Int), (n : Int))) _ l.length (Sum.inr ()) rfl ?_ (fun n hn => ?_)
    · simp [q8_L3_s]
    · have e1 : decide ((n : Int) < (l.length : Int)) = true := by simp; omega
      have e2 : IntKind.wrap .i64 ((n : Int) + 1) = ((n + 1 : Nat) : Int) := by rw [wr6 (by omega) (by omega)]; omega
      simp only [q8_L3_s, e1, cond_true, e2, Int.toNat_natCast, q7, Valid_eq, bindS]
      rw [chkT _ (by omega)]
      cases vB (l.getD n zV) <;> rfl
  have h2 : q8 loO l = some (idxR (fun m => !vB (l.getD m zV)) l.length 0) := by
    unfold q8 idxR
    rw [this, bindS]
    cases scanR (R := Int ⊕ Unit) (fun m => bif !vB (l.getD m zV) then some (.inl (m : Int)) else none) l.length 0 (.inr ()) <;> rfl
  unfold q10 q9 vsB
  rw [h2, bindS, bindS, idx_any]
theorem Valids_eq (l : Vals) (hl : l.length ≤ maxEl) : q50 loO l = some (vsB l) := by
  have hm : maxEl = 1073741824 := rfl
  have : q50_L3 loO (l, 0) = some (scanR (R := Bool ⊕ Unit) (fun m => bif !vB (l.getD m zV) then some (.inl false) else none) l.length 0 (.inr ())) := by
    refine loop_scan (fun n => (l, (n : Int))) _ l.length (Sum.inr ()) rfl ?_ (fun n hn => ?_)
    · simp [q50_L3_s]
    · have e1 : decide ((n : Int) < (l.length : Int)) = true := by simp; omega
      have e2 : IntKind.wrap .i64 ((n : Int) + 1) = ((n + 1 : Nat) : Int) := by rw [wr6 (by omega) (by omega)]; omega
      simp only [q50_L3_s, e1, cond_true, e2, Int.toNat_natCast, rValid_eq, bindS]
      rw [chkT _ (by omega)]
      cases vB (l.getD n zV) <;> rfl
  unfold q50 vsB
  rw [this, bindS]
  have h3 := scan_all (p := fun m => !vB (l.getD m zV)) (b := false) l.length 0
  cases hs : scanR (R := Bool ⊕ Unit) (fun m => bif !vB (l.getD m zV) then some (.inl false) else none) l.length 0 (.inr ()) with
  | inl b => rw [hs] at h3; simp only [alt2]; rw [show b = _ from h3]; cases anyN (fun m => !vB (l.getD m zV)) l.length 0 <;> rfl
  | inr u => rw [hs] at h3; simp only [alt2]; rw [show true = _ from h3]; cases anyN (fun m => !vB (l.getD m zV)) l.length 0 <;> rfl
def fA (l : List ByteArray) (n : Nat) : Bool := !nameB (l.getD n (ByteArray.mk #[])) || decide (0 ≤ idxI (l.take n) (l.getD n (ByteArray.mk #[])))
abbrev zR : Int × Vals := (0, [])
def lastAt (rows : Rws) : Nat → Int
  | 0 => 0
  | n + 1 => (rows.getD n zR).1
def fV (attrs : List ByteArray) (rows : Rws) (n : Nat) : Option (Int ⊕ Unit) :=
  bif decide ((rows.getD n zR).1 ≤ lastAt rows n) then some (.inl 1) else bif !decide (((rows.getD n zR).2.length : Int) = (attrs.length : Int)) then some (.inl 6) else bif !vsB (rows.getD n zR).2 then some (.inl 1) else none
def validI (nm : ByteArray) (attrs : List ByteArray) (rows : Rws) : Int :=
  bif !nameB nm then 1 else bif decide ((16 : Int) < (attrs.length : Int)) then 3 else bif decide ((1000 : Int) < (rows.length : Int)) then 3 else bif anyN (fA attrs) attrs.length 0 then 1 else
    match scanR (fV attrs rows) rows.length 0 (.inr ()) with | .inl i => i | .inr _ => 0
theorem tValid (nm : ByteArray) (attrs : List ByteArray) (rows : Rws) : q11 loO nm attrs rows = some (validI nm attrs rows) := by
  have hm : maxEl = 1073741824 := rfl
  unfold q11 validI
  rw [isName_eq, bindS]
  cases nameB nm with
  | false => rfl
  | true =>
    by_cases h1 : (16 : Int) < (attrs.length : Int)
    · simp [h1]
    · by_cases h2 : (1000 : Int) < (rows.length : Int)
      · simp [h1, h2]
      · simp only [h1, h2, decide_false, cond_false, Bool.not_true]
        have e20 : q11_L20 loO (attrs, (attrs.length : Int), 0, nm, attrs, rows) = some (scanR (R := Int ⊕ (ByteArray × List ByteArray × Rws)) (fun m => bif fA attrs m then some (.inl 1) else none) attrs.length 0 (.inr (nm, attrs, rows))) := by
          refine loop_scan (fun n => (attrs, (attrs.length : Int), (n : Int), nm, attrs, rows)) _ attrs.length _ rfl ?_ (fun n hn => ?_)
          · simp [q11_L20_s]
          · have e1 : decide ((n : Int) < (attrs.length : Int)) = true := by simp; omega
            have e2 : IntKind.wrap .i64 ((n : Int) + 1) = ((n + 1 : Nat) : Int) := by rw [wr6 (by omega) (by omega)]; omega
            simp only [q11_L20_s, e1, cond_true, e2, Int.toNat_natCast, isName_eq, bindS, List.drop_zero]
            rw [chkT _ (by omega), chkT _ (by omega), Contains_eq _ _ (by simp; omega), bindS]
            unfold fA
            cases nameB (attrs.getD n (ByteArray.mk #[])) <;> cases decide (0 ≤ idxI (attrs.take n) (attrs.getD n (ByteArray.mk #[]))) <;> rfl
        rw [e20, bindS]
        have hsc : ∀ k n, scanR (R := Int ⊕ (ByteArray × List ByteArray × Rws)) (fun m => bif fA attrs m then some (.inl 1) else none) k n (.inr (nm, attrs, rows)) = bif anyN (fA attrs) k n then .inl 1 else .inr (nm, attrs, rows) := by
          intro k
          induction k with
          | zero => intro n; rfl
          | succ k ih => intro n; simp only [scanR, anyN]; cases fA attrs n with
            | true => rfl
            | false => simpa using ih (n + 1)
        rw [hsc]
        cases anyN (fA attrs) attrs.length 0 with
        | true => rfl
        | false =>
          simp only [cond_false, alt2]
          have e3 : q11_L3 loO (0, rows, (rows.length : Int), 0, nm, attrs, rows) = some (scanR (fV attrs rows) rows.length 0 (.inr ())) := by
            refine loop_scan (fun n => (lastAt rows n, rows, (rows.length : Int), (n : Int), nm, attrs, rows)) _ rows.length _ rfl ?_ (fun n hn => ?_)
            · simp [q11_L3_s]
            · have e1 : decide ((n : Int) < (rows.length : Int)) = true := by simp; omega
              have e2 : IntKind.wrap .i64 ((n : Int) + 1) = ((n + 1 : Nat) : Int) := by rw [wr6 (by omega) (by omega)]; omega
              simp only [q11_L3_s, e1, cond_true, e2, Int.toNat_natCast]
              rw [chkT _ (by omega)]
              unfold fV
              by_cases g1 : (rows.getD n zR).1 ≤ lastAt rows n
              · simp only [g1, decide_true, cond_true]
              · by_cases g2 : ((rows.getD n zR).2.length : Int) = (attrs.length : Int)
                · simp only [g1, g2, decide_false, decide_true, cond_false, Bool.not_true]
                  rw [validValues_eq _ (show (rows.getD n zR).2.length ≤ maxEl by omega), bindS]
                  cases vsB (rows.getD n zR).2 <;> rfl
                · simp only [g1, g2, decide_false, cond_false, Bool.not_false, cond_true]
          rw [e3, bindS]
          cases scanR (fV attrs rows) rows.length 0 (.inr ()) <;> rfl
theorem rValid (nm : ByteArray) (attrs : List ByteArray) (rows : Rws) : q51 loO nm attrs rows = some (validI nm attrs rows) := by
  have hm : maxEl = 1073741824 := rfl
  unfold q51 validI
  rw [Name_eq, bindS]
  cases nameB nm with
  | false => rfl
  | true =>
    by_cases h1 : (16 : Int) < (attrs.length : Int)
    · simp [h1]
    · by_cases h2 : (1000 : Int) < (rows.length : Int)
      · simp [h1, h2]
      · simp only [h1, h2, decide_false, cond_false, Bool.not_true]
        have e20 : q48_L3 loO (attrs, 0) = some (scanR (R := Bool ⊕ Unit) (fun m => bif fA attrs m then some (.inl false) else none) attrs.length 0 (.inr ())) := by
          refine loop_scan (fun n => (attrs, (n : Int))) _ attrs.length _ rfl ?_ (fun n hn => ?_)
          · simp [q48_L3_s]
          · have e1 : decide ((n : Int) < (attrs.length : Int)) = true := by simp; omega
            have e2 : IntKind.wrap .i64 ((n : Int) + 1) = ((n + 1 : Nat) : Int) := by rw [wr6 (by omega) (by omega)]; omega
            simp only [q48_L3_s, e1, cond_true, e2, Int.toNat_natCast, Name_eq, bindS, List.drop_zero]
            rw [chkT _ (by omega), chkT _ (by omega), chkT _ (by omega), Attr_eq _ _ (by simp; omega), bindS]
            unfold fA
            cases nameB (attrs.getD n (ByteArray.mk #[])) <;> cases decide (0 ≤ idxI (attrs.take n) (attrs.getD n (ByteArray.mk #[]))) <;> rfl
        have eN : q48 loO attrs = some (!anyN (fA attrs) attrs.length 0) := by
          unfold q48
          rw [e20, bindS]
          have h3 := scan_all (p := fA attrs) (b := false) attrs.length 0
          cases hs : scanR (R := Bool ⊕ Unit) (fun m => bif fA attrs m then some (.inl false) else none) attrs.length 0 (.inr ()) with
          | inl b => rw [hs] at h3; simp only [alt2]; rw [show b = _ from h3]; cases anyN (fA attrs) attrs.length 0 <;> rfl
          | inr u => rw [hs] at h3; simp only [alt2]; rw [show true = _ from h3]; cases anyN (fA attrs) attrs.length 0 <;> rfl
        rw [eN, bindS]
        cases anyN (fA attrs) attrs.length 0 with
        | true => rfl
        | false =>
          simp only [cond_false, Bool.not_false, Bool.not_true]
          have e3 : q51_L3 loO (0, 0, nm, attrs, rows) = some (scanR (fV attrs rows) rows.length 0 (.inr ())) := by
            refine loop_scan (fun n => (lastAt rows n, (n : Int), nm, attrs, rows)) _ rows.length _ rfl ?_ (fun n hn => ?_)
            · simp [q51_L3_s]
            · have e1 : decide ((n : Int) < (rows.length : Int)) = true := by simp; omega
              have e2 : IntKind.wrap .i64 ((n : Int) + 1) = ((n + 1 : Nat) : Int) := by rw [wr6 (by omega) (by omega)]; omega
              simp only [q51_L3_s, e1, cond_true, e2, Int.toNat_natCast]
              rw [chkT _ (by omega)]
              unfold fV
              by_cases g1 : (rows.getD n zR).1 ≤ lastAt rows n
              · simp only [g1, decide_true, cond_true]
              · by_cases g2 : ((rows.getD n zR).2.length : Int) = (attrs.length : Int)
                · simp only [g1, g2, decide_false, decide_true, cond_false, Bool.not_true]
                  rw [Valids_eq _ (show (rows.getD n zR).2.length ≤ maxEl by omega), bindS]
                  cases vsB (rows.getD n zR).2 <;> rfl
                · simp only [g1, g2, decide_false, cond_false, Bool.not_false, cond_true]
          rw [e3, bindS]
          cases scanR (fV attrs rows) rows.length 0 (.inr ()) <;> rfl
theorem valid_law (nm : ByteArray) (attrs : List ByteArray) (rows : Rws) : q52 loO nm attrs rows = some true := by
  unfold q52
  simp only [aw, bindS, tValid, rValid, Bool.not_true, cond_false, decide_true]
  by_cases h1 : (1010 : Int) < (rows.length : Int)
  · simp [h1]
  · by_cases h2 : (20 : Int) < (attrs.length : Int)
    · simp [h1, h2]
    · simp [h1, h2]
end
end Go.Abs.G03
