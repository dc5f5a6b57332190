/- The law HitsetProve of chapter 39 returns true for every draft, bound and budget: Prove answers as it is specified, and its proofs are accepted. Conditions: those of the given statement alone (the arguments are of bulk at most 1048576). -/
import Derived.Test.YtgegamaadohibaaHn
import Derived.Test.YtgegamaadohibaaSr
namespace Go.Proofs.Ytgegamaadohibaa.hitsetProve
open Go.ChangeShapes Go.WideShapes Go.ChangeAt Go.RowKit Go.Abs
set_option linter.unusedVariables false
set_option maxRecDepth 100000
set_option linter.unusedSimpArgs false

theorem readable : ∀ t ∈ Try.f9.params.toList, Try.prog.readableRec t = true ∧ t < Try.prog.types.size := by
  rw [Try.params9]
  intro t ht
  have : t = 33 ∨ t = 2 ∨ t = 3 := by simpa using ht
  rcases this with h | h | h
  · subst h; exact ⟨by kernel_rfl, of_decide_eq_true (by kernel_rfl)⟩
  · subst h; exact ⟨by kernel_rfl, of_decide_eq_true (by kernel_rfl)⟩
  · subst h; exact ⟨by kernel_rfl, of_decide_eq_true (by kernel_rfl)⟩

theorem contract (H : Type) (enc : TypeId × Value → H) (W : World) (base : Nat) (args : Array Value) (ds gs : List (DataW H)) (before : List MemPlace)
    (hval : ∀ (j : Nat) t v, Try.f9.params[j]? = some t → args[j]? = some v → Value.okWide Try.prog W .any base t v)
    (hW : DataW.Whole enc Try.prog Try.f9.params.toList Rows.hitsetProveSpec.vars false W args.toList ds gs before) (hk : Rows.uptoSmall H (ds ++ gs) = true) :
    Calls Try.prog 9 args W fun e W' => ∃ v, e = .returned v ∧ Rows.hitsetProveSpec.post enc Try.prog Try.f9 false true false false W args v W' := by
  have hW' := hW
  obtain ⟨p, q, hA0, hV, rfl, hfz, hnd⟩ := hW
  have hA : DataW.TrodAll enc Try.prog W 0 (fun _ => true) true Try.f9.params.toList args.toList ds p := hA0
  rw [Try.params9] at hA hval
  clear hA0
  obtain ⟨v0, vs0, d0, ds0, p0, q0, hargs0, hds0, hps0, h0, r0⟩ := trodAll_cons hA
  subst hds0; subst hps0
  obtain ⟨v1, vs1, d1, ds1, p1, q1, hargs1, hds1, hps1, h1, r1⟩ := trodAll_cons r0
  subst hds1; subst hps1
  subst hargs1
  obtain ⟨v2, vs2, d2, ds2, p2, q2, hargs2, hds2, hps2, h2, r2⟩ := trodAll_cons r1
  subst hds2; subst hps2
  subst hargs2
  obtain ⟨rfl, rfl, rfl⟩ := trodAll_nil r2
  obtain rfl : args = #[v0, v1, v2] := by cases args; simp_all
  obtain ⟨rfl, rfl⟩ := trodVars_none hV
  obtain ⟨x, hx, _, hvr⟩ := arg_agg (fm := YtgegamaadohibaaT.fm) Try.underlying33 (hval 0 33 v0 rfl rfl) h0 (readsDra (enc := enc))
  obtain ⟨b, hb0, _, hvb⟩ := arg_one (fm := YtgegamaadohibaaT.fm) (t := 2) (p := fun n : Int => pI n) (fun fs h => by rw [Try.underlying2] at h; cases h) (fun n u h => by rw [Try.underlying2] at h; cases h) (hval 1 2 v1 rfl rfl) (fun cs h => by simp [Cell.okWide, Cell.ok, Try.underlying2] at h) h1 (fun _ => rfl) (readsI64 (enc := enc) 2 Try.underlying2)
  obtain ⟨bud, hbud, _, hvn⟩ := arg_one (fm := YtgegamaadohibaaT.fm) (t := 3) (p := fun n : Int => pI n) (fun fs h => by rw [Try.underlying3] at h; cases h) (fun n u h => by rw [Try.underlying3] at h; cases h) (hval 2 3 v2 rfl rfl) (fun cs h => by simp [Cell.okWide, Cell.ok, Try.underlying3] at h) h2 (fun _ => rfl) (readsI64 (enc := enc) 3 Try.underlying3)
  have hc := law397 x.w x.e hx b bud hbud.2 []
  refine (law_calls (fm := YtgegamaadohibaaT.fm) YtgegamaadohibaaT.ties (f := 9) (g := 397) (by kernel_rfl) P397 (args := #[v0, v1, v2]) (pargs := [PV.agg (pDra x), pI b, pI bud]) rfl (fun j a hj => ?_) hc).mono fun e W' ⟨he, hb⟩ => ?_
  · match j with
    | 0 => simp [PV.avs] at hj; subst hj; exact hvr
    | 1 => simp [PV.avs] at hj; subst hj; exact hvb
    | 2 => simp [PV.avs] at hj; subst hj; exact hvn
    | j + 3 => simp [PV.avs] at hj
  · subst he
    exact ⟨_, rfl, law_post laid (by kernel_rfl) Try.underlying4 readable rfl hW' rfl hb⟩

theorem lifted (os : Os) (started : os.Started) (H : Type) (enc : TypeId × Value → H) (F : Stop.Interp) :
    ReturnsInHanded {} Try.checked os 9 .any ((Rows.OpenSpec.upto Rows.hitsetProveSpec).pre6 enc Try.prog Try.f9 Rows.hitsetProveUptoRow.domain false) (((Rows.OpenSpec.upto Rows.hitsetProveSpec).at F).post enc Try.prog Try.f9 false true false false) := by
  refine returnsInHanded_of_cond (C := Try.checked) (s := Rows.OpenSpec.upto Rows.hitsetProveSpec) (k := Rows.uptoSmall) rfl own started (by kernel_rfl) Try.func9
    (OpenSpec.witness (enc := enc) (C := Try.checked) (s := Rows.OpenSpec.upto Rows.hitsetProveSpec) (k := Rows.uptoSmall) rfl false ⟨#[], #[.agg #[.slice none 0 0, .slice none 0 0], .int .i64 0, .int .i64 0], []⟩ 8 (by kernel_rfl) (by kernel_rfl) (by kernel_rfl)
      (x := ([.agg [.nil, .nil], .lit (.int .i64 0), .lit (.int .i64 0)], [], [])) (by kernel_rfl) rfl (by kernel_rfl)) ?_
  intro W base args ds gs before hval hW _ hk _
  exact contract H enc W base args ds gs before hval hW hk

theorem said : Rows.HitsetProveUptoSaid :=
  OpenClaim.holds_of_cond 9 Try.f9 rfl rfl rfl rfl rfl rfl rfl ⟨rfl, rfl, rfl, rfl, rfl⟩ rfl rfl rfl rfl rfl (by kernel_rfl) Try.func9 (by kernel_rfl)
    (of_decide_eq_true (by kernel_rfl)) (by unfold Func.isWrapper; first | (rw [if_pos (by decide +kernel)]; kernel_rfl) | (rw [if_neg (by decide +kernel)]; exact ⟨rfl, rfl⟩))
    (fun os started H enc _ F => lifted os started H enc F)
end Go.Proofs.Ytgegamaadohibaa.hitsetProve
