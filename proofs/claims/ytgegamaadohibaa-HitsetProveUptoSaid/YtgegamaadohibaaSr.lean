/- Arguments of the laws of chapter 39, as they are read. No condition. -/
import Derived.Test.YtgegamaadohibaaTies
import Derived.Test.YtgegamaadohibaaX
import Derived.Test.YtgegamaadohibaaRows
import Derived.JoinedCond
import Derived.Test.YtgegamaadohibaaHg
import Derived.Test.YtgegamaadohibaaHj
namespace Go.Proofs.Ytgegamaadohibaa
open Go.ChangeShapes Go.WideShapes Go.ChangeAt Go.RowKit Go.Abs
set_option linter.unusedVariables false
set_option maxRecDepth 100000
set_option linter.unusedSimpArgs false

theorem own : ownKnob Try.prog.godebug = none := by kernel_rfl
theorem laid : laidOutB Try.prog = true := by kernel_rfl
theorem bulkOK (H : Type) : BulkOK (Rows.uptoBulk (H := H)) Rows.uptoBulkAll :=
  ⟨fun l => by simp [Rows.uptoBulk], fun e s => by simp only [Rows.uptoBulk]; omega, fun e => by simp only [Rows.uptoBulk]; omega, by simp [Rows.uptoBulk], fun l => by cases l <;> simp [Rows.uptoBulk],
    fun d r => by simp only [Rows.uptoBulkAll]; omega⟩

/-- An instance, as it is read. -/
structure Ins where
  w : List Int
  e : List (List Int)

def pIns (x : Ins) : List PV := [.rd 1 (x.w.map encI), .rd 1 (x.e.map fun l => [PV.rd 1 (l.map encI)])]
def szIns (x : Ins) : Nat := x.w.length + (x.e.map fun l => l.length + 1).sum

theorem sum_one : ∀ l : List Int, (l.map fun _ => 1).sum = l.length
  | [] => rfl
  | _ :: r => by simp only [List.map_cons, List.sum_cons, sum_one r, List.length_cons]; omega

theorem readsIns {H : Type} {enc : TypeId × Value → H} {W : World} {b : Nat} {sp : Nat → Bool} {held : Bool} :
    Reads enc Try.prog W b sp held YtgegamaadohibaaT.fm (Rows.uptoBulk (H := H)) 25 2 (fun x : Ins => PV.avs (pIns x)) szIns (fun _ => True) := by
  have hb := bulkOK H
  have u22 : Try.prog.underlying 22 = some (.slice 2) := Try.underlying22
  have u23 : Try.prog.underlying 23 = some (.slice 36) := Try.underlying23
  have u36 : Try.prog.underlying 36 = some (.slice 3) := Try.underlying36
  have r2 := reads_int (enc := enc) (P := Try.prog) (w := W) (base := b) (spare := sp) (held := held) (fm := YtgegamaadohibaaT.fm) hb (t := 2) (k := .i64) Try.underlying2
  have r3 := reads_int (enc := enc) (P := Try.prog) (w := W) (base := b) (spare := sp) (held := held) (fm := YtgegamaadohibaaT.fm) hb (t := 3) (k := .i64) Try.underlying3
  have r22 := reads_slice (fm := YtgegamaadohibaaT.fm) hb u22 (by kernel_rfl) (by decide) r2
  have r36 := reads_slice (fm := YtgegamaadohibaaT.fm) hb u36 (by kernel_rfl) (by decide) r3
  have r23 := reads_slice (fm := YtgegamaadohibaaT.fm) hb u23 (by kernel_rfl) (by decide) r36
  obtain ⟨fs, hfs⟩ : ∃ fs, Try.prog.underlying 25 = some (.struct fs) := ⟨_, Try.underlying25⟩
  have hf : ∃ f g, fs.toList = [f, g] ∧ f.offset = 0 ∧ f.type = 22 ∧ g.offset = 1 ∧ g.type = 23 := by
    have e := Option.some.inj (hfs.symm.trans Try.underlying25)
    injection e with e
    subst e
    exact ⟨_, _, rfl, rfl, rfl, rfl, rfl⟩
  obtain ⟨f, g, hl, f1, f2, g1, g2⟩ := hf
  have rF := readsF_cons (o := 0) (f := f) (r := [g]) hb f1 (by rw [f2] <;> kernel_rfl) (by rw [f2]; exact r22) (readsF_cons (f := g) (r := []) hb g1 (by rw [g2] <;> kernel_rfl) (by rw [g2]; exact r23) (readsF_nil _))
  have rS := reads_struct (fm := YtgegamaadohibaaT.fm) hb hfs (by kernel_rfl) (by rw [hl]; exact rF)
  refine rS.conv ?_
  rintro ⟨ws, es, _⟩ _
  refine ⟨⟨ws, es⟩, trivial, ?_, ?_⟩
  · simp [pIns, PV.avs, PV.av, avss_map, avs_map, encI, List.map_map, Function.comp_def]
  · simp only [szIns]
    have h1 := sum_one ws
    have h2 : (es.map fun l => (l.map fun _ => 1).sum + 1) = es.map fun l => l.length + 1 := List.map_congr_left (fun l _ => by rw [sum_one])
    simp only [h1, h2]; omega

theorem len_le_sum : ∀ (e : List (List Int)), e.length ≤ (e.map fun l => l.length + 1).sum
  | [] => Nat.le_refl _
  | _ :: r => by have := len_le_sum r; simp; omega
theorem mem_le_sum : ∀ (e : List (List Int)) (l : List Int), l ∈ e → l.length ≤ (e.map fun l => l.length + 1).sum
  | _ :: r, l, h => by
    rcases List.mem_cons.1 h with rfl | h
    · simp; omega
    · have := mem_le_sum r l h; simp; omega


/-- A list of numbers that is read. -/
theorem readsInts {H : Type} {enc : TypeId × Value → H} {W : World} {b : Nat} {sp : Nat → Bool} {held : Bool} :
    Reads enc Try.prog W b sp held YtgegamaadohibaaT.fm (Rows.uptoBulk (H := H)) 36 1 (fun l : List Int => PV.avs [.rd 1 (l.map encI)]) (fun l => l.length) (fun _ => True) := by
  have hb := bulkOK H
  have u36 : Try.prog.underlying 36 = some (.slice 3) := Try.underlying36
  have r3 := reads_int (enc := enc) (P := Try.prog) (w := W) (base := b) (spare := sp) (held := held) (fm := YtgegamaadohibaaT.fm) hb (t := 3) (k := .i64) Try.underlying3
  have r36 := reads_slice (fm := YtgegamaadohibaaT.fm) hb u36 (by kernel_rfl) (by decide) r3
  refine r36.conv ?_
  intro l _
  refine ⟨l, trivial, ?_, ?_⟩
  · simp [PV.avs, PV.av, avss_map, avs_map, encI, List.map_map, Function.comp_def]
  · have := sum_one l
    simp only [this]; omega
end Go.Proofs.Ytgegamaadohibaa

namespace Go.Proofs.Ytgegamaadohibaa
open Go.ChangeShapes Go.WideShapes Go.ChangeAt Go.RowKit Go.Abs
set_option linter.unusedVariables false
set_option maxRecDepth 100000
set_option linter.unusedSimpArgs false

/-- A draft, as it is read. -/
structure Dra where
  w : List Nat
  e : List Nat

def pDra (x : Dra) : List PV := [.rd 1 (x.w.map enc8), .rd 1 (x.e.map enc16)]

theorem avs8 : ∀ ws : List Int, (∀ n ∈ ws, 0 ≤ n) → (ws.map fun n => [AV.v (.int .u8 n)]) = PV.avss ((ws.map Int.toNat).map enc8)
  | [], _ => rfl
  | n :: r, h => by
    have h0 : ((n.toNat : Nat) : Int) = n := by have := h n (List.mem_cons_self ..); omega
    simp only [List.map_cons, PV.avss, enc8, PV.avs, PV.av, h0]
    rw [avs8 r fun m hm => h m (List.mem_cons_of_mem _ hm)]
theorem avs16 : ∀ ws : List Int, (∀ n ∈ ws, 0 ≤ n) → (ws.map fun n => [AV.v (.int .u16 n)]) = PV.avss ((ws.map Int.toNat).map enc16)
  | [], _ => rfl
  | n :: r, h => by
    have h0 : ((n.toNat : Nat) : Int) = n := by have := h n (List.mem_cons_self ..); omega
    simp only [List.map_cons, PV.avss, enc16, PV.avs, PV.av, h0]
    rw [avs16 r fun m hm => h m (List.mem_cons_of_mem _ hm)]

theorem readsDra {H : Type} {enc : TypeId × Value → H} {W : World} {b : Nat} {sp : Nat → Bool} {held : Bool} :
    Reads enc Try.prog W b sp held YtgegamaadohibaaT.fm (Rows.uptoBulk (H := H)) 33 2 (fun x : Dra => PV.avs (pDra x)) (fun _ => 0) (fun x => ∀ n ∈ x.e, n < 65536) := by
  have hb := bulkOK H
  have u30 : Try.prog.underlying 30 = some (.slice 5) := Try.underlying30
  have u31 : Try.prog.underlying 31 = some (.slice 75) := Try.underlying31
  have r5 := reads_int (enc := enc) (P := Try.prog) (w := W) (base := b) (spare := sp) (held := held) (fm := YtgegamaadohibaaT.fm) hb (t := 5) (k := .u8) Try.underlying5
  have r75 := reads_int (enc := enc) (P := Try.prog) (w := W) (base := b) (spare := sp) (held := held) (fm := YtgegamaadohibaaT.fm) hb (t := 75) (k := .u16) Try.underlying75
  have r30 := reads_slice (fm := YtgegamaadohibaaT.fm) hb u30 (by kernel_rfl) (by decide) r5
  have r31 := reads_slice (fm := YtgegamaadohibaaT.fm) hb u31 (by kernel_rfl) (by decide) r75
  obtain ⟨fs, hfs⟩ : ∃ fs, Try.prog.underlying 33 = some (.struct fs) := ⟨_, Try.underlying33⟩
  have hf : ∃ f g, fs.toList = [f, g] ∧ f.offset = 0 ∧ f.type = 30 ∧ g.offset = 1 ∧ g.type = 31 := by
    have e := Option.some.inj (hfs.symm.trans Try.underlying33)
    injection e with e
    subst e
    exact ⟨_, _, rfl, rfl, rfl, rfl, rfl⟩
  obtain ⟨f, g, hl, f1, f2, g1, g2⟩ := hf
  have rF := readsF_cons (o := 0) (f := f) (r := [g]) hb f1 (by rw [f2] <;> kernel_rfl) (by rw [f2]; exact r30) (readsF_cons (f := g) (r := []) hb g1 (by rw [g2] <;> kernel_rfl) (by rw [g2]; exact r31) (readsF_nil _))
  have rS := reads_struct (fm := YtgegamaadohibaaT.fm) hb hfs (by kernel_rfl) (by rw [hl]; exact rF)
  refine rS.conv ?_
  rintro ⟨ws, es, _⟩ ⟨hw, he, _⟩
  have hw0 : ∀ n ∈ ws, 0 ≤ n := fun n hn => by
    have := hw n hn
    simp only [Lit.wf, Bool.and_eq_true, decide_eq_true_eq] at this
    have : IntKind.u8.min = 0 := rfl
    omega
  have he0 : ∀ n ∈ es, 0 ≤ n ∧ n < 65536 := fun n hn => by
    have := he n hn
    simp only [Lit.wf, Bool.and_eq_true, decide_eq_true_eq] at this
    have h1 : IntKind.u16.min = 0 := rfl
    have h2 : IntKind.u16.max = 65535 := rfl
    omega
  refine ⟨⟨ws.map Int.toNat, es.map Int.toNat⟩, fun n hn => ?_, ?_, Nat.zero_le _⟩
  · obtain ⟨m, hm, rfl⟩ := List.mem_map.1 hn
    have := he0 m hm; omega
  · have a1 := avs8 ws hw0
    have a2 := avs16 es fun n hn => (he0 n hn).1
    simp only [pDra, PV.avs, PV.av, ← a1, ← a2]
    simp
end Go.Proofs.Ytgegamaadohibaa

namespace Go.Proofs.Ytgegamaadohibaa
open Go.ChangeShapes Go.WideShapes Go.ChangeAt Go.RowKit Go.Abs
set_option linter.unusedVariables false
set_option maxRecDepth 100000
set_option linter.unusedSimpArgs false

theorem sum1 {α : Type} : ∀ l : List α, (l.map fun _ => 1).sum = l.length
  | [] => rfl
  | _ :: r => by simp only [List.map_cons, List.sum_cons, sum1 r, List.length_cons]; omega
theorem readsShare {H : Type} {enc : TypeId × Value → H} {W : World} {b : Nat} {sp : Nat → Bool} {held : Bool} :
    Reads enc Try.prog W b sp held YtgegamaadohibaaT.fm (Rows.uptoBulk (H := H)) 56 2 (fun y : Int × Int => PV.avs (encSI y)) (fun _ => 1) (fun _ => True) := by
  have hb := bulkOK H
  have r2 := reads_int (enc := enc) (P := Try.prog) (w := W) (base := b) (spare := sp) (held := held) (fm := YtgegamaadohibaaT.fm) hb (t := 2) (k := .i64) Try.underlying2
  have r3 := reads_int (enc := enc) (P := Try.prog) (w := W) (base := b) (spare := sp) (held := held) (fm := YtgegamaadohibaaT.fm) hb (t := 3) (k := .i64) Try.underlying3
  obtain ⟨fs, hfs⟩ : ∃ fs, Try.prog.underlying 56 = some (.struct fs) := ⟨_, Try.underlying56⟩
  have hf : ∃ f g, fs.toList = [f, g] ∧ f.offset = 0 ∧ f.type = 3 ∧ g.offset = 1 ∧ g.type = 2 := by
    have e := Option.some.inj (hfs.symm.trans Try.underlying56)
    injection e with e
    subst e
    exact ⟨_, _, rfl, rfl, rfl, rfl, rfl⟩
  obtain ⟨f, g, hl, f1, f2, g1, g2⟩ := hf
  have rF := readsF_cons (o := 0) (f := f) (r := [g]) hb f1 (by rw [f2] <;> kernel_rfl) (by rw [f2]; exact r3) (readsF_cons (f := g) (r := []) hb g1 (by rw [g2] <;> kernel_rfl) (by rw [g2]; exact r2) (readsF_nil _))
  have rS := reads_struct (fm := YtgegamaadohibaaT.fm) hb hfs (by kernel_rfl) (by rw [hl]; exact rF)
  refine rS.conv ?_
  rintro ⟨i, a, _⟩ _
  exact ⟨(i, a), trivial, by simp [encSI, PV.avs, PV.av], by omega⟩

theorem readsNodes {H : Type} {enc : TypeId × Value → H} {W : World} {b : Nat} {sp : Nat → Bool} {held : Bool} :
    Reads enc Try.prog W b sp held YtgegamaadohibaaT.fm (Rows.uptoBulk (H := H)) 48 1 (fun nd : List Nd => PV.avs [.rd 2 (nd.map fun n => [pI n.1, .rd 2 (n.2.map encSI)])]) (fun nd => (nd.map fun n => n.2.length + 1).sum) (fun _ => True) := by
  have hb := bulkOK H
  have u48 : Try.prog.underlying 48 = some (.slice 70) := Try.underlying48
  have u52 : Try.prog.underlying 52 = some (.slice 56) := Try.underlying52
  have r3 := reads_int (enc := enc) (P := Try.prog) (w := W) (base := b) (spare := sp) (held := held) (fm := YtgegamaadohibaaT.fm) hb (t := 3) (k := .i64) Try.underlying3
  have r52 := reads_slice (fm := YtgegamaadohibaaT.fm) hb u52 (by kernel_rfl) (by decide) (readsShare (enc := enc) (W := W) (b := b) (sp := sp) (held := held))
  obtain ⟨fs, hfs⟩ : ∃ fs, Try.prog.underlying 70 = some (.struct fs) := ⟨_, Try.underlying70⟩
  have hf : ∃ f g, fs.toList = [f, g] ∧ f.offset = 0 ∧ f.type = 3 ∧ g.offset = 1 ∧ g.type = 52 := by
    have e := Option.some.inj (hfs.symm.trans Try.underlying70)
    injection e with e
    subst e
    exact ⟨_, _, rfl, rfl, rfl, rfl, rfl⟩
  obtain ⟨f, g, hl, f1, f2, g1, g2⟩ := hf
  have rF := readsF_cons (o := 0) (f := f) (r := [g]) hb f1 (by rw [f2] <;> kernel_rfl) (by rw [f2]; exact r3) (readsF_cons (f := g) (r := []) hb g1 (by rw [g2] <;> kernel_rfl) (by rw [g2]; exact r52) (readsF_nil _))
  have rS := reads_struct (fm := YtgegamaadohibaaT.fm) hb hfs (by kernel_rfl) (by rw [hl]; exact rF)
  have rN : Reads enc Try.prog W b sp held YtgegamaadohibaaT.fm (Rows.uptoBulk (H := H)) 70 2 (fun n : Nd => PV.avs [pI n.1, .rd 2 (n.2.map encSI)]) (fun n => n.2.length + 1) (fun _ => True) := by
    refine rS.conv ?_
    rintro ⟨i, l, _⟩ _
    refine ⟨(i, l), trivial, by simp [PV.avs, PV.av, avss_map, avs_map, List.map_map, Function.comp_def], ?_⟩
    have := sum1 l
    simp only [this]; omega
  have r48 := reads_slice (fm := YtgegamaadohibaaT.fm) hb u48 (by kernel_rfl) (by decide) rN
  refine r48.conv ?_
  intro l _
  exact ⟨l, trivial, by simp [PV.avs, PV.av, avss_map, avs_map, List.map_map, Function.comp_def], by omega⟩

theorem nodes_le : ∀ nd : List Nd, nd.length ≤ (nd.map fun n => n.2.length + 1).sum ∧ ∀ n ∈ nd, n.2.length ≤ (nd.map fun n => n.2.length + 1).sum
  | [] => ⟨Nat.le_refl _, fun n hn => by cases hn⟩
  | x :: r => by
    obtain ⟨h1, h2⟩ := nodes_le r
    simp only [List.length_cons, List.map_cons, List.sum_cons]
    refine ⟨by omega, fun n hn => ?_⟩
    rcases List.mem_cons.1 hn with rfl | hn
    · omega
    · have := h2 n hn; omega

theorem readsI64 {H : Type} {enc : TypeId × Value → H} {W : World} {b : Nat} {sp : Nat → Bool} {held : Bool} (t : TypeId) (ht : Try.prog.underlying t = some (.int .i64)) :
    Reads enc Try.prog W b sp held YtgegamaadohibaaT.fm (Rows.uptoBulk (H := H)) t 1 (fun n : Int => PV.avs [pI n]) (fun _ => 0) (fun n => -9223372036854775808 ≤ n ∧ n ≤ 9223372036854775807) := by
  have r := reads_int (enc := enc) (P := Try.prog) (w := W) (base := b) (spare := sp) (held := held) (fm := YtgegamaadohibaaT.fm) (bulkOK H) (t := t) (k := .i64) ht
  refine r.conv ?_
  intro n hn
  refine ⟨n, ?_, by simp [PV.avs, PV.av], Nat.zero_le _⟩
  simp only [Lit.wf, Bool.and_eq_true, decide_eq_true_eq] at hn
  have h1 : IntKind.i64.min = -9223372036854775808 := rfl
  have h2 : IntKind.i64.max = 9223372036854775807 := rfl
  omega
end Go.Proofs.Ytgegamaadohibaa
