/- The law HitsetValid of chapter 39 returns true for every instance: the function Valid of the program and that of the reference answer the same. Conditions: those of the given statement alone (the arguments are of bulk at most 1048576). -/
import Derived.Test.YtgegamaadohibaaHa
import Derived.Test.YtgegamaadohibaaTies
import Derived.Test.YtgegamaadohibaaRows
import Derived.JoinedCond
namespace Go.Proofs.Ytgegamaadohibaa.hitsetValid
open Go.ChangeShapes Go.WideShapes Go.ChangeAt Go.RowKit Go.Abs
set_option linter.unusedVariables false
set_option maxRecDepth 100000
set_option linter.unusedSimpArgs false

theorem own : ownKnob Try.prog.godebug = none := by kernel_rfl
theorem laid : laidOutB Try.prog = true := by kernel_rfl
theorem readable : ∀ t ∈ Try.f3.params.toList, Try.prog.readableRec t = true ∧ t < Try.prog.types.size := by
  rw [Try.params3]
  intro t ht
  have : t = 25 := by simpa using ht
  subst this
  exact ⟨by kernel_rfl, of_decide_eq_true (by kernel_rfl)⟩

theorem bulkOK (H : Type) : BulkOK (Rows.uptoBulk (H := H)) Rows.uptoBulkAll :=
  ⟨fun l => by simp [Rows.uptoBulk], fun e s => by simp only [Rows.uptoBulk]; omega, fun e => by simp only [Rows.uptoBulk]; omega, by simp [Rows.uptoBulk], fun l => by cases l <;> simp [Rows.uptoBulk],
    fun d r => by simp only [Rows.uptoBulkAll]; omega⟩

/-- An instance, as it is read. -/
structure Ins where
  w : List Int
  e : List (List Int)

def pIns (x : Ins) : List PV := [.rd 1 (x.w.map encI), .rd 1 (x.e.map fun l => [PV.rd 1 (l.map encI)])]
def szIns (x : Ins) : Nat := x.w.length + (x.e.map fun l => l.length + 1).sum

theorem sum_one : ∀ l : List Int, (l.map fun _ => 1).sum = l.length
  | [] => rfl
  | _ :: r => by simp only [List.map_cons, List.sum_cons, sum_one r, List.length_cons]; omega

theorem readsIns {H : Type} {enc : TypeId × Value → H} {W : World} {b : Nat} {sp : Nat → Bool} {held : Bool} :
    Reads enc Try.prog W b sp held YtgegamaadohibaaT.fm (Rows.uptoBulk (H := H)) 25 2 (fun x : Ins => PV.avs (pIns x)) szIns (fun _ => True) := by
  have hb := bulkOK H
  have u22 : Try.prog.underlying 22 = some (.slice 2) := Try.underlying22
  have u23 : Try.prog.underlying 23 = some (.slice 36) := Try.underlying23
  have u36 : Try.prog.underlying 36 = some (.slice 3) := Try.underlying36
  have r2 := reads_int (enc := enc) (P := Try.prog) (w := W) (base := b) (spare := sp) (held := held) (fm := YtgegamaadohibaaT.fm) hb (t := 2) (k := .i64) Try.underlying2
  have r3 := reads_int (enc := enc) (P := Try.prog) (w := W) (base := b) (spare := sp) (held := held) (fm := YtgegamaadohibaaT.fm) hb (t := 3) (k := .i64) Try.underlying3
  have r22 := reads_slice (fm := YtgegamaadohibaaT.fm) hb u22 (by kernel_rfl) (by decide) r2
  have r36 := reads_slice (fm := YtgegamaadohibaaT.fm) hb u36 (by kernel_rfl) (by decide) r3
  have r23 := reads_slice (fm := YtgegamaadohibaaT.fm) hb u23 (by kernel_rfl) (by decide) r36
  obtain ⟨fs, hfs⟩ : ∃ fs, Try.prog.underlying 25 = some (.struct fs) := ⟨_, Try.underlying25⟩
  have hf : ∃ f g, fs.toList = [f, g] ∧ f.offset = 0 ∧ f.type = 22 ∧ g.offset = 1 ∧ g.type = 23 := by
    have e := Option.some.inj (hfs.symm.trans Try.underlying25)
    injection e with e
    subst e
    exact ⟨_, _, rfl, rfl, rfl, rfl, rfl⟩
  obtain ⟨f, g, hl, f1, f2, g1, g2⟩ := hf
  have rF := readsF_cons (o := 0) (f := f) (r := [g]) hb f1 (by rw [f2] <;> kernel_rfl) (by rw [f2]; exact r22) (readsF_cons (f := g) (r := []) hb g1 (by rw [g2] <;> kernel_rfl) (by rw [g2]; exact r23) (readsF_nil _))
  have rS := reads_struct (fm := YtgegamaadohibaaT.fm) hb hfs (by kernel_rfl) (by rw [hl]; exact rF)
  refine rS.conv ?_
  rintro ⟨ws, es, _⟩ _
  refine ⟨⟨ws, es⟩, trivial, ?_, ?_⟩
  · simp [pIns, PV.avs, PV.av, avss_map, avs_map, encI, List.map_map, Function.comp_def]
  · simp only [szIns]
    have h1 := sum_one ws
    have h2 : (es.map fun l => (l.map fun _ => 1).sum + 1) = es.map fun l => l.length + 1 := List.map_congr_left (fun l _ => by rw [sum_one])
    simp only [h1, h2]; omega

theorem len_le_sum : ∀ (e : List (List Int)), e.length ≤ (e.map fun l => l.length + 1).sum
  | [] => Nat.le_refl _
  | _ :: r => by have := len_le_sum r; simp; omega
theorem mem_le_sum : ∀ (e : List (List Int)) (l : List Int), l ∈ e → l.length ≤ (e.map fun l => l.length + 1).sum
  | _ :: r, l, h => by
    rcases List.mem_cons.1 h with rfl | h
    · simp; omega
    · have := mem_le_sum r l h; simp; omega

theorem contract (H : Type) (enc : TypeId × Value → H) (W : World) (base : Nat) (args : Array Value) (ds gs : List (DataW H)) (before : List MemPlace)
    (hval : ∀ (j : Nat) t v, Try.f3.params[j]? = some t → args[j]? = some v → Value.okWide Try.prog W .any base t v)
    (hW : DataW.Whole enc Try.prog Try.f3.params.toList Rows.hitsetValidSpec.vars false W args.toList ds gs before) (hk : Rows.uptoSmall H (ds ++ gs) = true) :
    Calls Try.prog 3 args W fun e W' => ∃ v, e = .returned v ∧ Rows.hitsetValidSpec.post enc Try.prog Try.f3 false true false false W args v W' := by
  have hW' := hW
  obtain ⟨p, q, hA0, hV, rfl, hfz, hnd⟩ := hW
  have hA : DataW.TrodAll enc Try.prog W 0 (fun _ => true) true Try.f3.params.toList args.toList ds p := hA0
  rw [Try.params3] at hA hval
  obtain ⟨v0, vs0, d0, ds0, p0, q0, hargs, rfl, rfl, h0, r0⟩ := trodAll_cons hA
  obtain ⟨rfl, rfl, rfl⟩ := trodAll_nil r0
  obtain rfl : args = #[v0] := by cases args; simp_all
  obtain ⟨rfl, rfl⟩ := trodVars_none hV
  clear hA0
  obtain ⟨x, _, hsz, hvr⟩ := arg_agg (fm := YtgegamaadohibaaT.fm) Try.underlying25 (hval 0 25 v0 rfl rfl) h0 (readsIns (enc := enc))
  have hbulk : szIns x ≤ 1048576 := by
    have h := of_decide_eq_true hk
    simp only [List.append_nil, Rows.uptoBulkAll] at h
    omega
  have b1 := len_le_sum x.e
  simp only [szIns] at hbulk
  have c1 : ∀ l ∈ x.e, l.length ≤ 1048576 := fun l hl => Nat.le_trans (mem_le_sum x.e l hl) (Nat.le_trans (Nat.le_add_left _ _) hbulk)
  have c2 : x.w.length ≤ 1048576 := Nat.le_trans (Nat.le_add_right _ _) hbulk
  have c3 : x.e.length ≤ 1048576 := Nat.le_trans b1 (Nat.le_trans (Nat.le_add_left _ _) hbulk)
  have hc := law391 x.w x.e c1 c2 c3 []
  refine (law_calls (fm := YtgegamaadohibaaT.fm) YtgegamaadohibaaT.ties (f := 3) (g := 391) (by kernel_rfl) P391 (args := #[v0]) (pargs := [PV.agg (pIns x)]) rfl (fun j a hj => ?_) hc).mono fun e W' ⟨he, hb⟩ => ?_
  · cases j with
    | zero => simp [PV.avs] at hj; subst hj; exact hvr
    | succ j => simp [PV.avs] at hj
  · subst he
    exact ⟨_, rfl, law_post laid (by kernel_rfl) Try.underlying4 readable rfl hW' rfl hb⟩

set_option maxRecDepth 100000 in
theorem lifted (os : Os) (started : os.Started) (H : Type) (enc : TypeId × Value → H) (F : Stop.Interp) :
    ReturnsInHanded {} Try.checked os 3 .any ((Rows.OpenSpec.upto Rows.hitsetValidSpec).pre6 enc Try.prog Try.f3 Rows.hitsetValidUptoRow.domain false) (((Rows.OpenSpec.upto Rows.hitsetValidSpec).at F).post enc Try.prog Try.f3 false true false false) := by
  refine returnsInHanded_of_cond (C := Try.checked) (s := Rows.OpenSpec.upto Rows.hitsetValidSpec) (k := Rows.uptoSmall) rfl own started (by kernel_rfl) Try.func3
    (OpenSpec.witness (enc := enc) (C := Try.checked) (s := Rows.OpenSpec.upto Rows.hitsetValidSpec) (k := Rows.uptoSmall) rfl false ⟨#[], #[.agg #[.slice none 0 0, .slice none 0 0]], []⟩ 8 (by kernel_rfl) (by kernel_rfl) (by kernel_rfl)
      (x := ([.agg [.nil, .nil]], [], [])) (by kernel_rfl) rfl (by kernel_rfl)) ?_
  intro W base args ds gs before hval hW _ hk _
  exact contract H enc W base args ds gs before hval hW hk

theorem said : Rows.HitsetValidUptoSaid :=
  OpenClaim.holds_of_cond 3 Try.f3 rfl rfl rfl rfl rfl rfl rfl ⟨rfl, rfl, rfl, rfl, rfl⟩ rfl rfl rfl rfl rfl (by kernel_rfl) Try.func3 (by kernel_rfl)
    (of_decide_eq_true (by kernel_rfl)) (by unfold Func.isWrapper; first | (rw [if_pos (by decide +kernel)]; kernel_rfl) | (rw [if_neg (by decide +kernel)]; exact ⟨rfl, rfl⟩))
    (fun os started H enc _ F => lifted os started H enc F)
end Go.Proofs.Ytgegamaadohibaa.hitsetValid
