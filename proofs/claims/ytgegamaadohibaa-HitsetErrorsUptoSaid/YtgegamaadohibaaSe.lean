/- The law HitsetErrors of chapter 39 returns true for every instance and list: all functions return the error of an instance that is not valid. Conditions: those of the given statement alone (the arguments are of bulk at most 1048576). -/
import Derived.Test.YtgegamaadohibaaHe
import Derived.Test.YtgegamaadohibaaSr
namespace Go.Proofs.Ytgegamaadohibaa.hitsetErrors
open Go.ChangeShapes Go.WideShapes Go.ChangeAt Go.RowKit Go.Abs
set_option linter.unusedVariables false
set_option maxRecDepth 100000
set_option linter.unusedSimpArgs false

theorem readable : ∀ t ∈ Try.f11.params.toList, Try.prog.readableRec t = true ∧ t < Try.prog.types.size := by
  rw [Try.params11]
  intro t ht
  have : t = 25 ∨ t = 36 := by simpa using ht
  rcases this with h | h
  · subst h; exact ⟨by kernel_rfl, of_decide_eq_true (by kernel_rfl)⟩
  · subst h; exact ⟨by kernel_rfl, of_decide_eq_true (by kernel_rfl)⟩

theorem contract (H : Type) (enc : TypeId × Value → H) (W : World) (base : Nat) (args : Array Value) (ds gs : List (DataW H)) (before : List MemPlace)
    (hval : ∀ (j : Nat) t v, Try.f11.params[j]? = some t → args[j]? = some v → Value.okWide Try.prog W .any base t v)
    (hW : DataW.Whole enc Try.prog Try.f11.params.toList Rows.hitsetErrorsSpec.vars false W args.toList ds gs before) (hk : Rows.uptoSmall H (ds ++ gs) = true) :
    Calls Try.prog 11 args W fun e W' => ∃ v, e = .returned v ∧ Rows.hitsetErrorsSpec.post enc Try.prog Try.f11 false true false false W args v W' := by
  have hW' := hW
  obtain ⟨p, q, hA0, hV, rfl, hfz, hnd⟩ := hW
  have hA : DataW.TrodAll enc Try.prog W 0 (fun _ => true) true Try.f11.params.toList args.toList ds p := hA0
  rw [Try.params11] at hA hval
  clear hA0
  obtain ⟨v0, vs0, d0, ds0, p0, q0, hargs0, hds0, hps0, h0, r0⟩ := trodAll_cons hA
  subst hds0; subst hps0
  obtain ⟨v1, vs1, d1, ds1, p1, q1, hargs1, hds1, hps1, h1, r1⟩ := trodAll_cons r0
  subst hds1; subst hps1
  subst hargs1
  obtain ⟨rfl, rfl, rfl⟩ := trodAll_nil r1
  obtain rfl : args = #[v0, v1] := by cases args; simp_all
  obtain ⟨rfl, rfl⟩ := trodVars_none hV
  obtain ⟨x, _, hsz, hvr⟩ := arg_agg (fm := YtgegamaadohibaaT.fm) Try.underlying25 (hval 0 25 v0 rfl rfl) h0 (readsIns (enc := enc))
  obtain ⟨l, _, hsl, hvl⟩ := arg_one (fm := YtgegamaadohibaaT.fm) (t := 36) (p := fun l : List Int => PV.rd 1 (l.map encI)) (fun fs h => by rw [Try.underlying36] at h; cases h) (fun n u h => by rw [Try.underlying36] at h; cases h) (hval 1 36 v1 rfl rfl) (fun cs h => by simp [Cell.okWide, Cell.ok, Try.underlying36] at h) h1 (fun _ => rfl) (readsInts (enc := enc))
  have hbulk := of_decide_eq_true hk
  simp only [List.append_nil, Rows.uptoBulkAll] at hbulk
  have b1 := len_le_sum x.e
  simp only [szIns] at hsz
  have hbI : x.w.length + (x.e.map fun l => l.length + 1).sum ≤ 1048576 := Nat.le_trans hsz (Nat.le_trans (Nat.le_add_right _ _) hbulk)
  have hbL : l.length ≤ 1048576 := Nat.le_trans hsl (Nat.le_trans (Nat.le_trans (Nat.le_add_right _ _) (Nat.le_add_left _ _)) hbulk)
  have c1 : ∀ l ∈ x.e, l.length ≤ 1048576 := fun l hl => Nat.le_trans (mem_le_sum x.e l hl) (Nat.le_trans (Nat.le_add_left _ _) hbI)
  have c2 : x.w.length ≤ 1048576 := Nat.le_trans (Nat.le_add_right _ _) hbI
  have c3 : x.e.length ≤ 1048576 := Nat.le_trans b1 (Nat.le_trans (Nat.le_add_left _ _) hbI)
  have hc := law399 x.w x.e l c1 c2 c3 hbL []
  refine (law_calls (fm := YtgegamaadohibaaT.fm) YtgegamaadohibaaT.ties (f := 11) (g := 399) (by kernel_rfl) P399 (args := #[v0, v1]) (pargs := [PV.agg (pIns x), PV.rd 1 (l.map encI)]) rfl (fun j a hj => ?_) hc).mono fun e W' ⟨he, hb⟩ => ?_
  · match j with
    | 0 => simp [PV.avs] at hj; subst hj; exact hvr
    | 1 => simp [PV.avs] at hj; subst hj; exact hvl
    | j + 2 => simp [PV.avs] at hj
  · subst he
    exact ⟨_, rfl, law_post laid (by kernel_rfl) Try.underlying4 readable rfl hW' rfl hb⟩

theorem lifted (os : Os) (started : os.Started) (H : Type) (enc : TypeId × Value → H) (F : Stop.Interp) :
    ReturnsInHanded {} Try.checked os 11 .any ((Rows.OpenSpec.upto Rows.hitsetErrorsSpec).pre6 enc Try.prog Try.f11 Rows.hitsetErrorsUptoRow.domain false) (((Rows.OpenSpec.upto Rows.hitsetErrorsSpec).at F).post enc Try.prog Try.f11 false true false false) := by
  refine returnsInHanded_of_cond (C := Try.checked) (s := Rows.OpenSpec.upto Rows.hitsetErrorsSpec) (k := Rows.uptoSmall) rfl own started (by kernel_rfl) Try.func11
    (OpenSpec.witness (enc := enc) (C := Try.checked) (s := Rows.OpenSpec.upto Rows.hitsetErrorsSpec) (k := Rows.uptoSmall) rfl false ⟨#[], #[.agg #[.slice none 0 0, .slice none 0 0], .slice none 0 0], []⟩ 8 (by kernel_rfl) (by kernel_rfl) (by kernel_rfl)
      (x := ([.agg [.nil, .nil], .nil], [], [])) (by kernel_rfl) rfl (by kernel_rfl)) ?_
  intro W base args ds gs before hval hW _ hk _
  exact contract H enc W base args ds gs before hval hW hk

theorem said : Rows.HitsetErrorsUptoSaid :=
  OpenClaim.holds_of_cond 11 Try.f11 rfl rfl rfl rfl rfl rfl rfl ⟨rfl, rfl, rfl, rfl, rfl⟩ rfl rfl rfl rfl rfl (by kernel_rfl) Try.func11 (by kernel_rfl)
    (of_decide_eq_true (by kernel_rfl)) (by unfold Func.isWrapper; first | (rw [if_pos (by decide +kernel)]; kernel_rfl) | (rw [if_neg (by decide +kernel)]; exact ⟨rfl, rfl⟩))
    (fun os started H enc _ F => lifted os started H enc F)
end Go.Proofs.Ytgegamaadohibaa.hitsetErrors
