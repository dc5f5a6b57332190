/- 'slices.Grow' of nil as a whole: its contract. No condition. -/
import Derived.Test.YtgegamaadohibaaX
import Derived.Shelf.Spec.SlicesGrow
import Derived.Laws.AppendOwn
namespace Go.Abs
set_option linter.unusedSimpArgs false
open Go Go.RowKit Go.Shelf Go.Proofs

theorem zeroCells_size (zs : Array Value) (n : Nat) : (Builtin.zeroCells zs n).size = n * zs.size := by
  simp [Builtin.zeroCells]

theorem fok_growN {P : Program} {fm : Nat → Nat} {f : FuncId} {ρ : Ren} (L : Lays8.n4 P ρ) (hf' : ρ.f 4 = f) {i0 : TypeInfo} {z : Value} (hi0 : P.info? (ρ.t 25) = some i0) (hz0 : i0.zero = some z) {es : Nat} (hs : i0.size = es) (hs0 : 0 < es)
    (hzs : z.cells.size = es) (hby : i0.bytes ≤ 65536) (hcal : callable P f = true) :
    FOK P fm f (fun args H r H' => ∃ k xargs X v X', args = XV.avs k xargs ∧ H = Z k (heapA k X) ∧ growN es xargs X = some (v, X') ∧ X.length ≤ X'.length ∧ r = v.av k ∧ H' = Z k (heapA k X')) := by
  rintro args H r H' ⟨k, xargs, X, v, X', rfl, rfl, hg, _, rfl, rfl⟩
  refine ⟨hcal, fun w Lc vs hr hsz hv => ?_⟩
  unfold growN at hg
  split at hg
  · rename_i _ n
    split at hg
    · rename_i hn
      injection hg with hg; injection hg with e1 e2; subst e1; subst e2
      have h0 := hv 0 .emp (by simp [XV.avs, XV.av, PV.av])
      have h1 := hv 1 (.v (.int .i64 n)) (by simp [XV.avs, XV.av, PV.av])
      simp only [XV.avs, List.length_cons, List.length_nil] at hsz
      have h1' := vr_v h1
      obtain ⟨A, hA⟩ : ∃ A, vs.getD 0 undef = .slice A 0 0 := by
        generalize vs.getD 0 undef = x at h0
        cases h0 with
        | emp A => exact ⟨A, rfl⟩
      obtain ⟨m, rfl⟩ : ∃ m : Nat, n = m := ⟨n.toNat, by omega⟩
      have hvs : vs = #[.slice A 0 0, .int .i64 (m : Int)] := by
        apply Array.ext
        · simp [hsz]
        · intro i hi _
          have hi2 : i < 2 := by omega
          have : i = 0 ∨ i = 1 := by omega
          rcases this with rfl | rfl
          · simpa [Array.getD, hi] using hA
          · simpa [Array.getD, hi] using h1'
      subst hvs
      have hnid : hf (Z k (heapA k X)) (k + X.length) = none := by
        simp only [hf, z_get, heapA_get]
        simp
      have hH : appU (hf (Z k (heapA k X))) (k + X.length) (.push (some ⟨es, []⟩)) = hf (Z k (heapA k (X ++ [some (.pu es [])]))) := by
        have := hf_push (H := Z k (heapA k X)) (o := some ((XObj.pu es []).ao k))
        rw [z_heap_len, z_heap_push] at this
        exact this
      subst hf'
      by_cases hm : m = 0
      · subst hm
        obtain ⟨k1, k2⟩ := push_nil hr hnid hs0 w.heap.size
        rw [hH] at k2
        refine (Any8.slices_Grow_room L A 0 0 0 w (Nat.le_refl _) (by omega) (by omega) (Nat.le_refl _)).mono ?_
        rintro e w' ⟨rfl, rfl⟩
        exact ⟨_, _, rfl, Keep.refl _ _, k1, k2, .refNil A (k + X.length) (by simp)⟩
      · have hb : m * i0.bytes ≤ 140737488355328 := by
          have := Nat.mul_le_mul (show m ≤ 1048576 by omega) hby
          omega
        refine (Any8.slices_Grow_grow L i0 z hi0 hz0 (by omega) A 0 0 m [] w (Nat.le_refl _) (by omega) (by simpa using hb) (by omega) (by simp) (fun _ => rfl) (fun a _ j v h => by simp at h)).mono ?_
        rintro e w' ⟨rfl, rfl⟩
        have hge := grownCap_ge w (0 + m) 0 (ρ.t 25)
        have hle := grownCap_le_maxLen w (0 + m) 0 (ρ.t 25) (by unfold maxLen; omega)
        obtain ⟨k1, k2, k3⟩ := push_cells (w' := w.drew.alloc (.cells (([] : List Value).toArray ++ Builtin.zeroCells z.cells (0 + m - 0) ++ Builtin.zeroCells z.cells (grownCap w (0 + m) 0 (ρ.t 25) - (0 + m))) (ρ.t 25))) (cur := ([] : List Value).toArray ++ Builtin.zeroCells z.cells (0 + m - 0) ++ Builtin.zeroCells z.cells (grownCap w (0 + m) 0 (ρ.t 25) - (0 + m))) (ty := ρ.t 25) (es := es) (cap := grownCap w (0 + m) 0 (ρ.t 25)) (el := []) hr hnid rfl rfl rfl rfl hs0 (by simp) hle (by simp) (by
          simp only [Array.size_append, zeroCells_size, hzs, List.size_toArray, List.length_nil]
          rw [Nat.zero_add, ← Nat.add_mul]
          congr 1
          omega) (fun i e j c hi => by simp at hi)
        rw [hH] at k3
        refine ⟨_, _, rfl, k1, k2, k3, ?_⟩
        have := VR.refAt (fm := fm) (w := w.drew.alloc (.cells (([] : List Value).toArray ++ Builtin.zeroCells z.cells (0 + m - 0) ++ Builtin.zeroCells z.cells (grownCap w (0 + m) 0 (ρ.t 25) - (0 + m))) (ρ.t 25))) (L := fun a => if a = k + X.length then .cells w.heap.size es (grownCap w (0 + m) 0 (ρ.t 25)) else Lc a) w.heap.size es (grownCap w (0 + m) 0 (ρ.t 25)) (k + X.length) 0 0 (by simp) (by omega)
        simpa [XV.av] using this
    · cases hg
  · cases hg

/-- What is asked of the elements' type. -/
def growOK (P : Program) (t : TypeId) (es : Nat) : Bool :=
  match P.info? t with
  | some i => match i.zero with
    | some z => Nat.beq i.size es && Nat.beq z.cells.size es && Nat.ble i.bytes 65536
    | none => false
  | none => false

theorem tie_growN {P : Program} {fm : Nat → Nat} {T : XTab} {f g es : Nat} {ρ : Ren} (L : Lays8.n4 P ρ) (hf : ρ.f 4 = f) (ho : growOK P (ρ.t 25) es = true) (hs0 : 0 < es) (hcal : callable P f = true) (hg : fm f = g) (hF : T g = some (.primN (growN es))) : TieOK P fm T f := by
  unfold TieOK; rw [hg, hF]
  unfold growOK at ho
  split at ho
  · rename_i i hi
    split at ho
    · rename_i z hz
      simp only [Bool.and_eq_true, Nat.beq_eq, Nat.ble_eq] at ho
      exact fok_growN L hf hi hz ho.1.1 hs0 ho.1.2 ho.2 hcal
    · cases ho
  · cases ho
end Go.Abs
