/- Rules for abstract code; functions by contracts; arguments as they are read. No condition. -/
import Derived.Test.YtgegamaadohibaaA2
import Derived.ProofKit
namespace Go.Abs
open Go Go.RowKit

/-- What is asked behind code, in the model's words. -/
def PostA (fm : Nat → Nat) (n : Nat) (w0 : World) (L0 : Nat → Loc) (Q : Ex → ASt → Prop) : Exit → Act → World → Prop
  | .normal, a, w => ∃ st, Q .nor st ∧ SR fm n w0 L0 st a w
  | .exit id, a, w => ∃ st, Q (.exit id) st ∧ SR fm n w0 L0 st a w
  | .ret, a, w => ∃ st, Q .ret st ∧ SR fm n w0 L0 st a w
  | _, _, _ => False

/-- Code that begins in this abstract state comes to its end, and what is asked holds there. -/
def Sat (C : Ctx) (c : ACode) (Q : Ex → ASt → Prop) (st : ASt) : Prop :=
  ∀ (P : Program) (fm : Nat → Nat) (n : Nat) (code : Code), CtxOK P fm C → P.follows .mixedOrders = true → tr P fm C.pf n code = some c →
    ∀ w0 L0 a w, SR fm n w0 L0 st a w → code.wp P (PostA fm n w0 L0 Q) a w

/-- What is known less well is known too. -/
def Wk (st st' : ASt) : Prop := ∀ (fm : Nat → Nat) (n : Nat) (w0 : World) (L0 : Nat → Loc) (a : Act) (w : World), SR fm n w0 L0 st a w → SR fm n w0 L0 st' a w

theorem Wk.refl (st : ASt) : Wk st st := fun _ _ _ _ _ _ h => h
theorem Wk.trans {a b c : ASt} (h : Wk a b) (k : Wk b c) : Wk a c := fun _ _ _ _ _ _ x => k _ _ _ _ _ _ (h _ _ _ _ _ _ x)

theorem PostA.mono {fm : Nat → Nat} {n : Nat} {w0 : World} {L0 : Nat → Loc} {Q Q' : Ex → ASt → Prop} (h : ∀ e s, Q e s → Q' e s) {e : Exit} {a : Act} {w : World} (hp : PostA fm n w0 L0 Q e a w) :
    PostA fm n w0 L0 Q' e a w := by
  cases e <;> first | exact hp | (obtain ⟨s, hq, hs⟩ := hp; exact ⟨s, h _ _ hq, hs⟩)

section
variable {C : Ctx} {Q : Ex → ASt → Prop} {st : ASt}

theorem Sat.mono {c : ACode} {Q' : Ex → ASt → Prop} (h : Sat C c Q st) (hq : ∀ e s, Q e s → Q' e s) : Sat C c Q' st :=
  fun P fm n code hC hm ht w0 L0 a w hs => wp_mono (h P fm n code hC hm ht w0 L0 a w hs) (fun _ _ _ hp => hp.mono hq)

theorem Sat.wk {c : ACode} {s : ASt} (hw : Wk st s) (h : Sat C c Q s) : Sat C c Q st :=
  fun P fm n code hC hm ht w0 L0 a w hs => h P fm n code hC hm ht w0 L0 a w (hw _ _ _ _ _ _ hs)

theorem tr_region {P : Program} {fm : Nat → Nat} {pf : Nat → Bool} {n id : Nat} {ops : Array Oper} {draw : Bool} {c : ACode} (h : tr P fm pf n (.region id ops draw) = some c) (hb : c ≠ .bad) :
    ∃ is ys, mapOpt (trAI P fm n ops) ops.toList = some is ∧ c = .reg ys ∧ (draw = true ∧ edgeOK ops.toList 0 = true ∧ trDraw pf (ancs ops.toList []) is = some ys ∨ draw = false ∧ ys = is) := by
  simp only [tr] at h
  split at h
  · rename_i ys hr
    injection h with h
    simp only [trReg] at hr
    cases hm : mapOpt (trAI P fm n ops) ops.toList with
    | none => simp [hm] at hr
    | some is =>
      simp only [hm] at hr
      cases draw with
      | true =>
        simp only [if_true] at hr
        by_cases hE : edgeOK ops.toList 0 = true
        · rw [if_pos hE] at hr
          exact ⟨is, ys, rfl, h.symm, .inl ⟨rfl, hE, hr⟩⟩
        · rw [if_neg hE] at hr; cases hr
      | false =>
        simp at hr
        exact ⟨is, ys, rfl, h.symm, .inr ⟨rfl, hr.symm⟩⟩
  · injection h with h; exact absurd h.symm hb

theorem sat_reg {ys : List AI} (h : evOps C st.heap.length ys (Q .nor) st) : Sat C (.reg ys) Q st := by
  intro P fm n code hC hm ht w0 L0 a w hs
  cases code with
  | region id ops draw =>
    obtain ⟨is, zs, h1, h2, h3⟩ := tr_region ht (fun e => by cases e)
    injection h2 with h2
    subst h2
    have hQ : ∀ st a w, Q .nor st → SR fm n w0 L0 st a w → PostA fm n w0 L0 Q .normal a w := fun st a w hq hs => ⟨st, hq, hs⟩
    rcases h3 with ⟨rfl, hE, h3⟩ | ⟨rfl, rfl⟩
    · exact draw_sound hC hm h1 hE h3 h hs hQ
    · obtain ⟨ops⟩ := ops
      exact wp_region_lit (list_sound hC hQ ops _ st a w h1 h hs)
  | seq x y => simp only [tr] at ht; split at ht <;> cases ht
  | cond c x y => simp only [tr] at ht; split at ht <;> cases ht
  | block id b => simp [tr] at ht
  | loop b => simp [tr] at ht
  | _ => cases ht

theorem sat_skip (h : Q .nor st) : Sat C .skip Q st := by
  intro P fm n code hC hm ht w0 L0 a w hs
  cases code with
  | skip => exact wp_skip ⟨st, h, hs⟩
  | region id ops draw => obtain ⟨_, _, _, h2, _⟩ := tr_region ht (fun e => by cases e); cases h2
  | seq x y => simp only [tr] at ht; split at ht <;> cases ht
  | cond c x y => simp only [tr] at ht; split at ht <;> cases ht
  | block id b => simp [tr] at ht
  | loop b => simp [tr] at ht
  | _ => cases ht

theorem sat_exit {id : Nat} (h : Q (.exit id) st) : Sat C (.exit id) Q st := by
  intro P fm n code hC hm ht w0 L0 a w hs
  cases code with
  | exit id' => injection ht with ht; injection ht with ht; subst ht; exact wp_exit ⟨st, h, hs⟩
  | region id ops draw => obtain ⟨_, _, _, h2, _⟩ := tr_region ht (fun e => by cases e); cases h2
  | seq x y => simp only [tr] at ht; split at ht <;> cases ht
  | cond c x y => simp only [tr] at ht; split at ht <;> cases ht
  | block id b => simp [tr] at ht
  | loop b => simp [tr] at ht
  | _ => cases ht

theorem sat_ret (h : Q .ret st) : Sat C .ret Q st := by
  intro P fm n code hC hm ht w0 L0 a w hs
  cases code with
  | ret => exact wp_ret ⟨st, h, hs⟩
  | region id ops draw => obtain ⟨_, _, _, h2, _⟩ := tr_region ht (fun e => by cases e); cases h2
  | seq x y => simp only [tr] at ht; split at ht <;> cases ht
  | cond c x y => simp only [tr] at ht; split at ht <;> cases ht
  | block id b => simp [tr] at ht
  | loop b => simp [tr] at ht
  | _ => cases ht

/-- What is asked between two pieces. -/
def Ex.then (N : ASt → Prop) (Q : Ex → ASt → Prop) : Ex → ASt → Prop
  | .nor, s => N s
  | .exit id, s => Q (.exit id) s
  | .ret, s => Q .ret s

theorem sat_seq {x y : ACode} (h : Sat C x (Ex.then (Sat C y Q) Q) st) : Sat C (.seq x y) Q st := by
  intro P fm n code hC hm ht w0 L0 a w hs
  cases code with
  | seq cx cy =>
    simp only [tr] at ht
    split at ht
    · rename_i x' y' hx hy
      injection ht with ht; injection ht with e1 e2; subst e1; subst e2
      refine wp_seq (wp_mono (h P fm n cx hC hm hx w0 L0 a w hs) ?_)
      intro e a' w' hp
      cases e with
      | normal => obtain ⟨s, hq, hs'⟩ := hp; exact hq P fm n cy hC hm hy w0 L0 a' w' hs'
      | exit id => obtain ⟨s, hq, hs'⟩ := hp; exact ⟨s, hq, hs'⟩
      | ret => obtain ⟨s, hq, hs'⟩ := hp; exact ⟨s, hq, hs'⟩
      | goto l => exact hp.elim
      | panic ch => exact hp.elim
      | outgrown => exact hp.elim
    · cases ht
  | region id ops draw => obtain ⟨_, _, _, h2, _⟩ := tr_region ht (fun e => by cases e); cases h2
  | cond c x y => simp only [tr] at ht; split at ht <;> cases ht
  | block id b => simp [tr] at ht
  | loop b => simp [tr] at ht
  | _ => cases ht

/-- The condition's slot is known on each side. -/
def refine1 (st : ASt) : Opd → Bool → ASt
  | .t g, b => ⟨(g, .v (.bool b)) :: st.env, st.heap, st.base⟩
  | .c _, _ => st

theorem sr_refine {fm : Nat → Nat} {n : Nat} {w0 : World} {L0 : Nat → Loc} {a : Act} {w : World} (hs : SR fm n w0 L0 st a w) {c : Opd} {b : Bool} (h : opd st.env c = .v (.bool b)) :
    SR fm n w0 L0 (refine1 st c b) a w := by
  cases c with
  | c v => exact hs
  | t g =>
    obtain ⟨h1, h2, h3, L, h4, h5, h6, h7⟩ := hs
    exact ⟨h1, h2, h3, L, h4, h5, h6, er_refine h7 h⟩

theorem sat_cond {c : Opd} {x y : ACode} {b : Bool} (hc : opd st.env c = .v (.bool b)) (h1 : b = true → Sat C x Q (refine1 st c true)) (h2 : b = false → Sat C y Q (refine1 st c false)) :
    Sat C (.cond c x y) Q st := by
  intro P fm n code hC hm ht w0 L0 a w hs
  cases code with
  | cond c' cx cy =>
    simp only [tr] at ht
    split at ht
    · rename_i x' y' hx hy
      injection ht with ht; injection ht with e0 e1 e2; subst e0; subst e1; subst e2
      obtain ⟨L, k1, k2, k3, k4⟩ := hs.rel
      have hv := opd_rel k4 c'
      rw [hc] at hv
      have hv' := vr_v hv
      refine wp_cond_split hv' (fun hb => ?_) (fun hb => ?_)
      · subst hb; exact h1 rfl P fm n cx hC hm hx w0 L0 a w (sr_refine hs hc)
      · subst hb; exact h2 rfl P fm n cy hC hm hy w0 L0 a w (sr_refine hs hc)
    · cases ht
  | region id ops draw => obtain ⟨_, _, _, h2, _⟩ := tr_region ht (fun e => by cases e); cases h2
  | seq x y => simp only [tr] at ht; split at ht <;> cases ht
  | block id b => simp [tr] at ht
  | loop b => simp [tr] at ht
  | _ => cases ht

def Ex.blk (id : Nat) (Q : Ex → ASt → Prop) : Ex → ASt → Prop
  | .nor, s => Q .nor s
  | .exit id', s => bif id' == id then Q .nor s else Q (.exit id') s
  | .ret, s => Q .ret s

theorem sat_blk {id : Nat} {b : ACode} (h : Sat C b (Ex.blk id Q) st) : Sat C (.blk id b) Q st := by
  intro P fm n code hC hm ht w0 L0 a w hs
  cases code with
  | block id' cb =>
    simp only [tr, Option.map_eq_some_iff] at ht
    obtain ⟨b', hb, ht⟩ := ht
    injection ht with e1 e2; subst e1; subst e2
    refine wp_block (wp_mono (h P fm n cb hC hm hb w0 L0 a w hs) ?_)
    intro e a' w' hp
    cases e with
    | normal => obtain ⟨s, hq, hs'⟩ := hp; exact ⟨s, hq, hs'⟩
    | exit id =>
      obtain ⟨s, hq, hs'⟩ := hp
      by_cases e : id = id'
      · subst e
        simp only [Ex.blk, beq_self_eq_true, cond_true] at hq
        simp only [Exit.inBlock, if_true]
        exact ⟨s, hq, hs'⟩
      · have e1 : (id == id') = false := by simp [e]
        simp only [Ex.blk, e1, cond_false] at hq
        simp only [Exit.inBlock, e, if_false]
        exact ⟨s, hq, hs'⟩
    | ret => obtain ⟨s, hq, hs'⟩ := hp; exact ⟨s, hq, hs'⟩
    | goto l => exact hp.elim
    | panic ch => exact hp.elim
    | outgrown => exact hp.elim
  | region id ops draw => obtain ⟨_, _, _, h2, _⟩ := tr_region ht (fun e => by cases e); cases h2
  | seq x y => simp only [tr] at ht; split at ht <;> cases ht
  | cond c x y => simp only [tr] at ht; split at ht <;> cases ht
  | loop b => simp [tr] at ht
  | _ => cases ht

/-- A loop: 'J' holds at each round's begin, by a number that falls. -/
theorem sat_loop {b : ACode} (J : Nat → ASt → Prop) (h0 : ∃ m s, J m s ∧ Wk st s)
    (hb : ∀ m s, J m s → Sat C b (Ex.then (fun t => ∃ m' s', J m' s' ∧ m' < m ∧ Wk t s') Q) s) : Sat C (.loop b) Q st := by
  intro P fm n code hC hm ht w0 L0 a w hs
  cases code with
  | loop cb =>
    simp only [tr, Option.map_eq_some_iff] at ht
    obtain ⟨b', hcb, ht⟩ := ht
    injection ht with e1; subst e1
    obtain ⟨m0, s0, hJ0, hw0⟩ := h0
    intro fr k cs
    have key : ∀ m s a w, J m s → SR fm n w0 L0 s a w →
        ∃ e a' w', PostA fm n w0 L0 Q e a' w' ∧ Arrives P (lone (fr.at a (.code cb :: .inLoop cb :: k)) cs w) fr k cs e a' w' := by
      intro m
      induction m using Nat.strongRecOn with
      | _ m ih =>
        intro s a w hJ hs
        obtain ⟨e, a₁, w₁, hq, harr⟩ := hb m s hJ P fm n cb hC hm hcb w0 L0 a w hs fr (.inLoop cb :: k) cs
        cases e with
        | normal =>
          obtain ⟨s1, ⟨m', s', hJ', hlt, hwk⟩, hs1⟩ := hq
          obtain ⟨e₂, a₂, w₂, hq₂, harr₂⟩ := ih m' hlt s' a₁ w₁ hJ' (hwk _ _ _ _ _ _ hs1)
          exact ⟨e₂, a₂, w₂, hq₂, .of_steps (Steps.trans harr (.one step_inLoop)) harr₂⟩
        | exit id => obtain ⟨s1, hq, hs1⟩ := hq; refine ⟨.exit id, a₁, w₁, ?_, .pass (x := .inLoop cb) rfl (fun _ _ => .inl (by simp)) harr⟩; exact ⟨s1, hq, hs1⟩
        | ret => obtain ⟨s1, hq, hs1⟩ := hq; refine ⟨.ret, a₁, w₁, ?_, .pass (x := .inLoop cb) rfl (fun _ _ => .inl (by simp)) harr⟩; exact ⟨s1, hq, hs1⟩
        | goto l => exact hq.elim
        | panic ch => exact hq.elim
        | outgrown => exact hq.elim
    obtain ⟨e, a', w', hq, harr⟩ := key m0 s0 a w hJ0 (hw0 _ _ _ _ _ _ hs)
    exact ⟨e, a', w', hq, .of_steps (.one step_loop) harr⟩
  | region id ops draw => obtain ⟨_, _, _, h2, _⟩ := tr_region ht (fun e => by cases e); cases h2
  | seq x y => simp only [tr] at ht; split at ht <;> cases ht
  | cond c x y => simp only [tr] at ht; split at ht <;> cases ht
  | block id b => simp [tr] at ht
  | _ => cases ht

end
end Go.Abs

namespace Go.Abs
open Go Go.RowKit

/-- The new names 'ρ' of objects; those that are frozen 'Fz' may be read as plain memory: what a value of the old form is in the new. -/
inductive Cz (ρ : Nat → Nat) (Fz : Nat → Prop) (H H' : HF) : AV → AV → Prop
  | u (a : AV) : Cz ρ Fz H H' a .u
  | v (x : Value) : Cz ρ Fz H H' (.v x) (.v x)
  | emp : Cz ρ Fz H H' .emp .emp
  | empRd (es : Nat) : Cz ρ Fz H H' .emp (.rd es [])
  | rd (es : Nat) (l l' : List (List AV)) (hl : l.length = l'.length) (hz : ∀ (i : Nat) (e e' : List AV), l[i]? = some e → l'[i]? = some e' → e.length = e'.length)
      (h : ∀ (i : Nat) (e e' : List AV) (j : Nat) (x x' : AV), l[i]? = some e → l'[i]? = some e' → e[j]? = some x → e'[j]? = some x' → Cz ρ Fz H H' x x') : Cz ρ Fz H H' (.rd es l) (.rd es l')
  | rp (cs cs' : List AV) (hl : cs.length = cs'.length) (h : ∀ (j : Nat) (x x' : AV), cs[j]? = some x → cs'[j]? = some x' → Cz ρ Fz H H' x x') : Cz ρ Fz H H' (.rp cs) (.rp cs')
  | agg (cs cs' : List AV) (hl : cs.length = cs'.length) (h : ∀ (j : Nat) (x x' : AV), cs[j]? = some x → cs'[j]? = some x' → Cz ρ Fz H H' x x') : Cz ρ Fz H H' (.agg cs) (.agg cs')
  | tup (cs cs' : List AV) (hl : cs.length = cs'.length) (h : ∀ (j : Nat) (x x' : AV), cs[j]? = some x → cs'[j]? = some x' → Cz ρ Fz H H' x x') : Cz ρ Fz H H' (.tup cs) (.tup cs')
  | clo (f : Nat) (cs cs' : List AV) (hl : cs.length = cs'.length) (h : ∀ (j : Nat) (x x' : AV), cs[j]? = some x → cs'[j]? = some x' → Cz ρ Fz H H' x x') : Cz ρ Fz H H' (.clo f cs) (.clo f cs')
  | ref (a off len : Nat) (o : AObj) (h : H' a = some (some o)) : Cz ρ Fz H H' (.ref (ρ a) off len) (.ref a off len)
  | ptr (a i j : Nat) (o : AObj) (h : H' a = some (some o)) : Cz ρ Fz H H' (.ptr (ρ a) i j) (.ptr a i j)
  | frz (i off len : Nat) (o : AObj) (l' : List (List AV)) (hz : Fz i) (ho : H i = some (some o)) (hle : off + len ≤ o.el.length) (hl : len = l'.length)
      (hlz : ∀ (k : Nat) (e e' : List AV), o.el[off + k]? = some e → l'[k]? = some e' → e.length = e'.length)
      (h : ∀ (k : Nat) (e e' : List AV) (j : Nat) (x x' : AV), o.el[off + k]? = some e → l'[k]? = some e' → e[j]? = some x → e'[j]? = some x' → Cz ρ Fz H H' x x') :
      Cz ρ Fz H H' (.ref i off len) (.rd o.es l')

/-- The new objects. -/
structure HCz (ρ : Nat → Nat) (Fz : Nat → Prop) (H H' : HF) (base : Nat) : Prop where
  inj : ∀ a b o o', H' a = some (some o) → H' b = some (some o') → ρ a = ρ b → a = b
  low : ∀ a, a < base → ρ a = a ∧ (H a ≠ none → H' a ≠ none)
  obj : ∀ a o', H' a = some (some o') → ¬ Fz (ρ a) ∧ ∃ o, H (ρ a) = some (some o) ∧ o'.es = o.es ∧ o'.el.length = o.el.length ∧
    ∀ (i : Nat) (e e' : List AV), o.el[i]? = some e → o'.el[i]? = some e' → e.length = e'.length ∧ ∀ (j : Nat) (x x' : AV), e[j]? = some x → e'[j]? = some x' → Cz ρ Fz H H' x x'

/-- Where the new objects lie. -/
def locs (ρ : Nat → Nat) (H' : HF) (L : Nat → Loc) : Nat → Loc := fun a =>
  match H' a with
  | none => .fresh
  | some none => match L a with
    | .hid g => .hid g
    | _ => .dead
  | some (some _) => L (ρ a)

section
variable {fm : Nat → Nat} {w : World} {L : Nat → Loc} {ρ : Nat → Nat} {Fz : Nat → Prop} {H H' : HF} {base : Nat}

theorem locs_cells {a g e c : Nat} (h : locs ρ H' L a = .cells g e c) : (∃ o, H' a = some (some o)) ∧ L (ρ a) = .cells g e c := by
  unfold locs at h
  split at h
  · cases h
  · split at h <;> cases h
  · rename_i o ho; exact ⟨⟨o, ho⟩, h⟩

theorem locs_live {a : Nat} {o : AObj} (h : H' a = some (some o)) : locs ρ H' L a = L (ρ a) := by simp [locs, h]

theorem locs_ownc {b : Nat} (h : OwnC (locs ρ H' L) b) : OwnC L b := by
  obtain ⟨a, e, c, h⟩ := h
  exact ⟨_, e, c, (locs_cells h).2⟩

theorem locs_hid {a g : Nat} (h : locs ρ H' L a = .hid g) : ∃ b, L b = .hid g := by
  unfold locs at h
  split at h
  · cases h
  · split at h
    · rename_i g' hg; injection h with h; subst h; exact ⟨a, hg⟩
    · cases h
  · exact ⟨_, h⟩

theorem locs_owned {b : Nat} (h : Owned (locs ρ H' L) b) : Owned L b := by
  rcases h with h | ⟨a, h⟩
  · exact .inl (locs_ownc h)
  · exact .inr (locs_hid h)

theorem vr_cz (hz : HCz ρ Fz H H' base) (hr : HR fm w L H) {a a' : AV} (hc : Cz ρ Fz H H' a a') : ∀ {x : Value}, VR fm w L x a → VR fm w (locs ρ H' L) x a' := by
  induction hc with
  | u a => intro x _; exact .u x
  | v y => intro x h; rw [vr_v h]; exact .v y
  | emp => intro x h; obtain ⟨A, rfl⟩ := vr_emp_inv h; exact .emp A
  | empRd es => intro x h; obtain ⟨A, rfl⟩ := vr_emp_inv h; exact .rd0 A es 0
  | rd es l l' hl hlz h ih =>
    intro x hx
    rcases vr_rd_inv hx with ⟨rfl, A, c, rfl⟩ | ⟨b, o, c, vals, rfl, hne, hes, hes0, hlc, hb, hbs, hcl, h1, hrr⟩
    · have : l' = [] := List.length_eq_zero_iff.1 hl.symm
      subst this; exact .rd0 A es c
    · have g2 : ∀ (i : Nat) (e' : List AV) (j : Nat) (y' : AV), l'[i]? = some e' → e'[j]? = some y' → ∃ e y, l[i]? = some e ∧ e[j]? = some y := by
        intro i e' j y' hi hj
        obtain ⟨e, he⟩ := get_pair hl hi
        obtain ⟨y, hy⟩ := get_pair (hlz i e e' he hi) hj
        exact ⟨e, y, he, hy⟩
      rw [hl]
      exact .rd b o c es l' vals (fun e => hne (List.length_eq_zero_iff.1 (by rw [hl, e]; rfl))) (fun e' he' => by
          obtain ⟨i, hi, he⟩ := List.mem_iff_getElem.1 he'
          have hi' : l'[i]? = some e' := by rw [List.getElem?_eq_getElem hi, he]
          obtain ⟨e, hie⟩ := get_pair hl hi'
          rw [← hlz i e e' hie hi']
          exact hes e (List.mem_of_getElem? hie)) hes0 (by omega) (fun ho => hb (locs_owned ho)) hbs
        (fun i e' j y' hi hj => by obtain ⟨e, y, h2, h3⟩ := g2 i e' j y' hi hj; exact hcl i e j y h2 h3)
        (fun i e' j y' hi hj => by obtain ⟨e, y, h2, h3⟩ := g2 i e' j y' hi hj; exact h1 i e j y h2 h3)
        (fun i e' j y' hi hj => by obtain ⟨e, y, h2, h3⟩ := g2 i e' j y' hi hj; exact ih i e e' j y y' h2 hi h3 hj (hrr i e j y h2 h3))
  | rp cs cs' hl h ih =>
    intro x hx
    obtain ⟨b, o, vals, rfl, hb, hbs, hcl, h1, hrr⟩ := vr_rp_inv hx
    exact .rp b o cs' vals (fun ho => hb (locs_owned ho)) hbs
      (fun j y' hj => by obtain ⟨y, hy⟩ := get_pair hl hj; exact hcl j y hy)
      (fun j y' hj => by obtain ⟨y, hy⟩ := get_pair hl hj; exact h1 j y hy)
      (fun j y' hj => by obtain ⟨y, hy⟩ := get_pair hl hj; exact ih j y y' hy hj (hrr j y hy))
  | agg cs cs' hl h ih =>
    intro x hx
    obtain ⟨xs, rfl, hs, hall⟩ := vr_agg_inv hx
    exact .agg xs cs' (by omega) (fun j y' hj => by obtain ⟨y, hy⟩ := get_pair hl hj; exact (hall j y hy).1)
      (fun j y' hj => by obtain ⟨y, hy⟩ := get_pair hl hj; exact ih j y y' hy hj (hall j y hy).2)
  | tup cs cs' hl h ih =>
    intro x hx
    obtain ⟨xs, rfl, hs, hall⟩ := vr_tup_inv hx
    exact .tup xs cs' (by omega) (fun j y' hj => by obtain ⟨y, hy⟩ := get_pair hl hj; exact ih j y y' hy hj (hall j y hy))
  | clo f cs cs' hl h ih =>
    intro x hx
    obtain ⟨g, xs, rfl, hf, hs, hall⟩ := vr_clo_inv hx
    subst hf
    exact .clo g xs cs' (by omega) (fun j y' hj => by obtain ⟨y, hy⟩ := get_pair hl hj; exact ih j y y' hy hj (hall j y hy))
  | ref a off len o h =>
    intro x hx
    obtain ⟨_, o2, ho2, _⟩ := hz.obj a o h
    rcases vr_live_ref hr ho2 hx with ⟨g, es, cap, hL, e1, e2, rfl⟩ | ⟨A, hL, rfl, rfl, rfl⟩
    · exact .refAt g es cap a off len (by rw [locs_live h]; exact hL) e2
    · exact .refNil A a (by rw [locs_live h]; exact hL)
  | ptr a i j o h =>
    intro x hx
    obtain ⟨_, o2, ho2, _⟩ := hz.obj a o h
    obtain ⟨g, es, cap, hL, e1, rfl⟩ := vr_live_ptr hr ho2 hx
    exact .ptrAt g es cap a i j (by rw [locs_live h]; exact hL)
  | frz i off len o l' hfz ho hle hl hlz h ih =>
    intro x hx
    rcases vr_live_ref hr ho hx with ⟨g, es, cap, hL, e1, e2, rfl⟩ | ⟨A, hL, rfl, rfl, rfl⟩
    · subst e1
      by_cases hl0 : l' = []
      · subst hl0; simp at hl; subst hl; exact .rd0 _ _ _
      · have hob := hr.obj i o ho
        rw [hL] at hob
        obtain ⟨_, hes, hlc, hcm, hall, cur, ty, hg, hcs, hrr⟩ := hob
        have hlt := (Array.getElem?_eq_some_iff.1 hg).1
        have g2 : ∀ (k : Nat) (e' : List AV), l'[k]? = some e' → ∃ e, o.el[off + k]? = some e := by
          intro k e' hk
          have := (List.getElem?_eq_some_iff.1 hk).1
          exact ⟨o.el[off + k], List.getElem?_eq_getElem (by omega)⟩
        have key : ∀ k e j' y, o.el[off + k]? = some e → e[j']? = some y → (off + k) * o.es + j' < cur.size := by
          intro k e j' y h1 hj
          have h2 := (List.getElem?_eq_some_iff.1 h1).1
          have h3 := hall e (List.mem_of_getElem? h1)
          have h4 := (List.getElem?_eq_some_iff.1 hj).1
          have h5 : (off + k + 1) * o.es ≤ cap * o.es := Nat.mul_le_mul_right _ (by omega)
          rw [Nat.add_mul] at h5
          rw [hcs]; omega
        have hno : ¬ Owned (locs ρ H' L) g := by
          rintro (⟨b, e, c, hb⟩ | ⟨b, hb⟩)
          · obtain ⟨⟨ob, hob⟩, hb2⟩ := locs_cells hb
            have := hr.inj _ _ _ _ _ _ _ hb2 hL
            exact (hz.obj b ob hob).1 (by rw [this]; exact hfz)
          · obtain ⟨b', hb'⟩ := locs_hid hb
            exact (hr.hid b' g hb').2 ⟨i, _, _, hL⟩
        rw [hl]
        refine .rd g (off * o.es) (cap - off) o.es l' (fun k j' => cur.getD ((off + k) * o.es + j') undef) hl0 (fun e' he' => ?_) hes (by omega) hno hlt (fun k e' j' y' hk hj => ?_) (fun k e' j' y' hk hj => ?_) (fun k e' j' y' hk hj => ?_)
        · obtain ⟨k, hk, he⟩ := List.mem_iff_getElem.1 he'
          have hk' : l'[k]? = some e' := by rw [List.getElem?_eq_getElem hk, he]
          obtain ⟨e, hke⟩ := g2 k e' hk'
          rw [← hlz k e e' hke hk']
          exact hall e (List.mem_of_getElem? hke)
        · obtain ⟨e, hke⟩ := g2 k e' hk
          obtain ⟨y, hy⟩ := get_pair (hlz k e e' hke hk) hj
          rw [cell_of_row w g _ cur ty (0, 0) hg, ← Nat.add_mul]
          exact getD_of_lt (key k e j' y hke hy)
        · obtain ⟨e, hke⟩ := g2 k e' hk
          obtain ⟨y, hy⟩ := get_pair (hlz k e e' hke hk) hj
          exact (hrr _ e j' y hke hy).1
        · obtain ⟨e, hke⟩ := g2 k e' hk
          obtain ⟨y, hy⟩ := get_pair (hlz k e e' hke hk) hj
          exact ih k e e' j' y y' hke hk hy hj (hrr _ e j' y hke hy).2
    · have : l' = [] := List.length_eq_zero_iff.1 hl.symm
      subst this; exact .rd0 _ _ _

theorem hr_cz (hz : HCz ρ Fz H H' base) (hr : HR fm w L H) : HR fm w (locs ρ H' L) H' := by
  refine ⟨fun a o' ha => ?_, fun a ha => ?_, fun a => ?_, fun a b g e c e' c' ha hb => ?_, fun a g ha => ?_⟩
  · obtain ⟨_, o, ho, hes, hlen, hall⟩ := hz.obj a o' ha
    rw [locs_live ha]
    have hob := hr.obj (ρ a) o ho
    revert hob
    cases hL : L (ρ a) with
    | fresh => exact id
    | dead => exact id
    | hid g => exact id
    | nil => rintro ⟨h1, h2⟩; exact ⟨List.length_eq_zero_iff.1 (by rw [hlen, h1]; rfl), by rw [hes]; exact h2⟩
    | cells g es cap =>
      rintro ⟨h0, h1, h2, h3, h4, cur, ty, h5, h6, h7⟩
      refine ⟨by rw [hes]; exact h0, h1, by omega, h3, fun e' he' => ?_, cur, ty, h5, h6, fun i e' j x' hi hj => ?_⟩
      · obtain ⟨k, hk, he⟩ := List.mem_iff_getElem.1 he'
        have hk' : o'.el[k]? = some e' := by rw [List.getElem?_eq_getElem hk, he]
        obtain ⟨e, hke⟩ := get_pair hlen.symm hk'
        rw [← (hall k e e' hke hk').1]
        exact h4 e (List.mem_of_getElem? hke)
      · obtain ⟨e, hke⟩ := get_pair hlen.symm hi
        obtain ⟨y, hy⟩ := get_pair (hall i e e' hke hi).1 hj
        exact ⟨(h7 i e j y hke hy).1, vr_cz hz hr ((hall i e e' hke hi).2 j y x' hy hj) (h7 i e j y hke hy).2⟩
  · cases h : H' a with
    | none => simp [locs, h] at ha
    | some oo =>
      cases oo with
      | some o => exact ⟨o, rfl⟩
      | none =>
        simp only [locs, h] at ha
        exfalso
        rcases ha with ⟨g, es, cap, ha⟩ | ha <;> (split at ha <;> cases ha)
  · cases h : H' a with
    | none => simp [locs, h]
    | some oo =>
      cases oo with
      | some o =>
        rw [locs_live h]
        obtain ⟨_, o2, ho2, _⟩ := hz.obj a o h
        constructor
        · intro hf; have := (hr.fresh _).1 hf; rw [ho2] at this; cases this
        · intro hn; cases hn
      | none =>
        simp only [locs, h]
        constructor
        · intro hf; split at hf <;> cases hf
        · intro hn; cases hn
  · obtain ⟨⟨o, ho⟩, h1⟩ := locs_cells ha
    obtain ⟨⟨o', ho'⟩, h2⟩ := locs_cells hb
    exact hz.inj a b o o' ho ho' (hr.inj _ _ _ _ _ _ _ h1 h2)
  · obtain ⟨b, hb⟩ := locs_hid ha
    exact ⟨(hr.hid b g hb).1, fun hc => (hr.hid b g hb).2 (locs_ownc hc)⟩

theorem locs_old (hz : HCz ρ Fz H H' base) (hr : HR fm w L H) {a : Nat} (ha : a < base) (hn : L a ≠ .fresh) : locs ρ H' L a = L a ∨ (locs ρ H' L a = .dead ∧ ∀ g, L a ≠ .hid g) := by
  obtain ⟨h1, h2⟩ := hz.low a ha
  have hHn : H a ≠ none := fun e => hn ((hr.fresh a).2 e)
  cases h : H' a with
  | none => exact absurd h (h2 hHn)
  | some oo =>
    cases oo with
    | some o => rw [locs_live h, h1]; exact .inl rfl
    | none =>
      cases hL : L a with
      | hid g => left; simp [locs, h, hL]
      | _ => right; simp [locs, h, hL]

theorem lstep_cz (hz : HCz ρ Fz H H' base) (hr : HR fm w L H) {L0 : Nat → Loc} {n : Nat} (hb : ∀ b, L0 b ≠ .fresh → b < base) (hs : LStep L0 L n) : LStep L0 (locs ρ H' L) n := by
  refine ⟨fun a ha => ?_, fun b hb => hs.own b (locs_owned hb), fun b hb => hs.ownc b (locs_ownc hb)⟩
  rcases hs.old a ha with e | ⟨e, hg⟩
  · rcases locs_old hz hr (hb a ha) (by rw [e]; exact ha) with e' | ⟨e', hg⟩
    · exact .inl (e'.trans e)
    · exact .inr ⟨e', fun g => by rw [← e]; exact hg g⟩
  · rcases locs_old hz hr (hb a ha) (by rw [e]; exact fun h => by cases h) with e' | ⟨e', _⟩
    · exact .inr ⟨e'.trans e, hg⟩
    · exact .inr ⟨e', hg⟩

end

/-- The one way to know less. -/
theorem wk_cz {st st' : ASt} (ρ : Nat → Nat) (Fz : Nat → Prop) (hz : HCz ρ Fz (hf st.heap) (hf st'.heap) st.base) (hb : st'.base = st.base)
    (he : ∀ t, Cz ρ Fz (hf st.heap) (hf st'.heap) (lookE st.env t) (lookE st'.env t)) : Wk st st' := by
  intro fm n w0 L0 a w hs
  obtain ⟨h1, h2, h3, L, h4, h5, h6, h7⟩ := hs
  exact ⟨h1, h2, fun b hb' => by rw [hb]; exact h3 b hb', _, h4, lstep_cz hz h6 h3 h5, hr_cz hz h6, fun t => vr_cz hz h6 (he t) (h7 t)⟩

end Go.Abs

namespace Go.Abs
open Go Go.RowKit

/-- A result: a slot, or what a slot leads to. -/
inductive RV where
  | t (n : Nat)
  | c (n : Nat) (g : Bool) (sz : Nat)

def resT (P : Program) : List ResultVar → Option (List RV)
  | [] => some []
  | .tmp t :: r => (resT P r).map (.t t :: ·)
  | .cell a t :: r => match aggT P t, sizeT P t, resT P r with
    | some g, some n, some l => some (.c a g n :: l)
    | _, _, _ => none

def fnTr (P : Program) (fm : Nat → Nat) (pf : Nat → Bool) (f : FuncId) : Option (Nat × List RV × ACode) :=
  match P.funcs[f]? with
  | some fn => match fn.body with
    | some c => match fn.name == "runtime.NumGoroutine", resT P fn.results.toList, tr P fm pf fn.ntmps c with
      | false, some ts, some ac => some (fn.ntmps, ts, ac)
      | _, _, _ => none
    | none => none
  | none => none

def entryE : Nat → List AV → Env
  | _, [] => []
  | i, a :: r => (i, a) :: entryE (i + 1) r

def resOne (s : ASt) (r : RV) (v : AV) : Prop :=
  match r with
  | .t n => v = lookE s.env n
  | .c n g sz => evG (.load g sz (.t n)) s.env (hf s.heap) 0 (fun v' _ => v' = v)

def resAll (s : ASt) : List RV → List AV → Prop
  | [], [] => True
  | r :: rs, v :: vs => resOne s r v ∧ resAll s rs vs
  | _, _ => False

def tupR : List AV → AV
  | [v] => v
  | vs => .tup vs

/-- What is handed back, and the objects that stay. -/
def Fin (s : ASt) (rv r : AV) (H' : Heap) : Prop := ∀ (fm : Nat → Nat) (w : World) (L : Nat → Loc) (x : Value), HR fm w L (hf s.heap) → VR fm w L x rv →
  ∃ L', (∀ (L0 : Nat → Loc) (n : Nat), (∀ b, L0 b ≠ .fresh → b < s.base) → LStep L0 L n → LStep L0 L' n) ∧ HR fm w L' (hf H') ∧ VR fm w L' x r

theorem fin_cz {s : ASt} {rv r : AV} {H' : Heap} (ρ : Nat → Nat) (Fz : Nat → Prop) (hz : HCz ρ Fz (hf s.heap) (hf H') s.base) (hc : Cz ρ Fz (hf s.heap) (hf H') rv r) : Fin s rv r H' :=
  fun _ _ _ _ hr hv => ⟨_, fun _ _ hb hs => lstep_cz hz hr hb hs, hr_cz hz hr, vr_cz hz hr hc hv⟩

/-- The objects stay as they are. -/
theorem fin_same {s : ASt} {rv r : AV} (hc : Coe rv r) : Fin s rv r s.heap :=
  fun _ _ L _ hr hv => ⟨L, fun _ _ _ hs => hs, hr, vr_coe hc hv⟩

def RetQ (ts : List RV) (r : AV) (H' : Heap) : Ex → ASt → Prop
  | .exit _, _ => False
  | _, s => ∃ vs, resAll s ts vs ∧ Fin s (tupR vs) r H'

theorem lookE_entry : ∀ (args : List AV) (i t : Nat), lookE (entryE i args) t = if i ≤ t then (args[t - i]?).getD .u else .u
  | [], i, t => by simp [entryE, lookE]
  | a :: r, i, t => by
    simp only [entryE, lookE]
    by_cases h : i = t
    · subst h; simp
    · have h1 : (i == t) = false := by simp [h]
      rw [h1, cond_false, lookE_entry r (i + 1) t]
      by_cases hle : i ≤ t
      · have h2 : i + 1 ≤ t := by omega
        rw [if_pos h2, if_pos hle, show t - i = (t - (i + 1)) + 1 by omega, List.getElem?_cons_succ]
      · rw [if_neg hle, if_neg (by omega)]

def resOf (tmps : Array Value) : ResultVar → Sem Value
  | .tmp t => pure (tmps.getD t undef)
  | .cell a t => do loadVar t (← asAddr (tmps.getD a undef))

def valR : List Value → Value
  | [v] => v
  | vs => .tuple vs.toArray

def RunsTo (P : Program) (tmps : Array Value) (w : World) : List ResultVar → List Value → Prop
  | [], [] => True
  | r :: rs, y :: ys => (resOf tmps r).run P w = .ok y w ∧ RunsTo P tmps w rs ys
  | _, _ => False

theorem results_run {P : Program} {fn : Func} {rs : List ResultVar} (h2 : fn.results = rs.toArray) (h4 : rs.length ≤ 4) {tmps : Array Value} {w : World} {ys : List Value} (h : RunsTo P tmps w rs ys) :
    (results fn tmps).run P w = .ok (valR ys) w := by
  have he : results fn tmps = (do
    let vs ← fn.results.mapM (resOf tmps)
    pure (if h : vs.size = 1 then vs[0] else .tuple vs)) := rfl
  rw [he, h2]
  match rs, ys, h4, h with
  | [], [], _, _ => simp [valR]
  | [r], [y], _, ⟨k1, _⟩ => simp [valR, k1]
  | [r, r2], [y, y2], _, ⟨k1, k2, _⟩ => simp [valR, k1, k2]
  | [r, r2, r3], [y, y2, y3], _, ⟨k1, k2, k3, _⟩ => simp [valR, k1, k2, k3]
  | [r, r2, r3, r4], [y, y2, y3, y4], _, ⟨k1, k2, k3, k4, _⟩ => simp [valR, k1, k2, k3, k4]

section
variable {P : Program} {fm : Nat → Nat} {w : World} {L : Nat → Loc}

theorem res_all {s : ASt} {a : Act} (hr : HR fm w L (hf s.heap)) (he : ER fm w L a s.env) : ∀ {rs : List ResultVar} {ts : List RV} {vs : List AV}, resT P rs = some ts → resAll s ts vs →
    rs.length = ts.length ∧ ∃ ys : List Value, RunsTo P a.tmps w rs ys ∧ ys.length = vs.length ∧ ∀ (j : Nat) (v : AV), vs[j]? = some v → ∃ y, ys[j]? = some y ∧ VR fm w L y v
  | [], ts, vs, h1, h2 => by
    simp [resT] at h1; subst h1
    cases vs with
    | nil => exact ⟨rfl, [], trivial, rfl, fun j v h => by simp at h⟩
    | cons v vs => exact h2.elim
  | .tmp t :: r, ts, vs, h1, h2 => by
    simp only [resT, Option.map_eq_some_iff] at h1
    obtain ⟨ts', h1, rfl⟩ := h1
    cases vs with
    | nil => exact h2.elim
    | cons v vs =>
      obtain ⟨h2, h3⟩ := h2
      obtain ⟨k0, ys, k1, k2, k3⟩ := res_all hr he h1 h3
      refine ⟨by simp [k0], a.tmps.getD t undef :: ys, ⟨rfl, k1⟩, by simp [k2], fun j x hx => ?_⟩
      cases j with
      | zero => simp at hx; subst hx; exact ⟨_, rfl, by have h2' : v = lookE s.env t := h2; rw [h2']; exact he t⟩
      | succ j => simpa using k3 j x (by simpa using hx)
  | .cell b t :: r, ts, vs, h1, h2 => by
    simp only [resT] at h1
    split at h1
    · rename_i g n l hg hn hl
      injection h1 with h1; subst h1
      cases vs with
      | nil => exact h2.elim
      | cons v vs =>
        obtain ⟨h2, h3⟩ := h2
        obtain ⟨k0, ys, k1, k2, k3⟩ := res_all hr he hl h3
        have hv : ∃ ad y, a.tmps.getD b undef = .pointer (some ad) ∧ (loadVar t ad).run P w = .ok y w ∧ VR fm w L y v := by
          have hev : evG (.load g n (.t b)) s.env (hf s.heap) 0 (fun v' _ => v' = v) := h2
          simp only [evG, opK] at hev
          have hx := he b
          split at hev <;> try exact hev.elim
          · rename_i cs e
            have e' : lookE s.env b = .rp cs := e
            rw [e'] at hx
            obtain ⟨b', o, vals, e1, hb, hbs, hc, h1, hrr⟩ := vr_rp_inv hx
            obtain ⟨y, v', k1, k2, k3⟩ := load_sound (P := P) (w := w) hg hn hc h1 hrr hev
            subst k2
            exact ⟨_, y, e1, k1, k3⟩
          · rename_i a' i j e
            have e' : lookE s.env b = .ptr a' i j := e
            rw [e'] at hx
            obtain ⟨o, ha, el, hi, hev⟩ := hev
            obtain ⟨ad, y, v', e1, k1, k2, k3⟩ := load_own hg hn hr ha hx hi hev
            subst k2
            exact ⟨ad, y, e1, k1, k3⟩
        obtain ⟨ad, y, e1, e2, e3⟩ := hv
        refine ⟨by simp [k0], y :: ys, ⟨by simp [resOf, e1, asAddr, e2], k1⟩, by simp [k2], fun j x hx => ?_⟩
        cases j with
        | zero => simp at hx; subst hx; exact ⟨y, rfl, e3⟩
        | succ j => simpa using k3 j x (by simpa using hx)
    · cases h1

theorem vr_tupR {ys : List Value} {vs : List AV} (hl : ys.length = vs.length) (h : ∀ (j : Nat) (v : AV), vs[j]? = some v → ∃ y, ys[j]? = some y ∧ VR fm w L y v) : VR fm w L (valR ys) (tupR vs) := by
  have key : VR fm w L (.tuple ys.toArray) (.tup vs) := by
    refine .tup _ _ (by simpa using hl) (fun j c hj => ?_)
    obtain ⟨y, h1, h2⟩ := h j c hj
    rw [Array.getD_eq_getD_getElem?]
    simpa [h1] using h2
  match ys, vs, hl with
  | [], [], _ => exact key
  | [y], [v], _ => obtain ⟨y', h1, h2⟩ := h 0 v rfl; simp at h1; subst h1; exact h2
  | _ :: _ :: _, _ :: _ :: _, _ => exact key

end

theorem fnTr_spec {P : Program} {fm : Nat → Nat} {pf : Nat → Bool} {f : FuncId} {n : Nat} {ts : List RV} {ac : ACode} (h : fnTr P fm pf f = some (n, ts, ac)) :
    ∃ fn c, P.funcs[f]? = some fn ∧ fn.body = some c ∧ callable P f = true ∧ resT P fn.results.toList = some ts ∧ fn.ntmps = n ∧ tr P fm pf n c = some ac := by
  unfold fnTr at h
  cases hf : P.funcs[f]? with
  | none => simp [hf] at h
  | some fn =>
    simp only [hf] at h
    cases hb : fn.body with
    | none => simp [hb] at h
    | some c =>
      simp only [hb] at h
      split at h
      · rename_i ts' ac' hn hr ht
        injection h with h; injection h with e1 h; injection h with e2 e3
        subst e1; subst e2; subst e3
        exact ⟨fn, c, rfl, hb, by simp [callable, hf, hb]; simpa using hn, hr, rfl, ht⟩
      · cases h

/-- A function does what its contract says, where its abstract code does. -/
theorem fok_of_sat {P : Program} {fm : Nat → Nat} {C : Ctx} (hC : CtxOK P fm C) (hm : P.follows .mixedOrders = true) {f : FuncId} {n : Nat} {ts : List RV} {ac : ACode} (h : fnTr P fm C.pf f = some (n, ts, ac))
    (h4 : ts.length ≤ 4) {ct : Contract} (hs : ∀ args H r H', ct args H r H' → args.length ≤ n ∧ Sat C ac (RetQ ts r H') ⟨entryE 0 args, H, H.length⟩) : FOK P fm f ct := by
  obtain ⟨fn, c, hfn, hb, hcal, hres, hn, ht⟩ := fnTr_spec h
  subst hn
  intro args H r H' hct
  obtain ⟨hlen, hsat⟩ := hs args H r H' hct
  refine ⟨hcal, fun w L vs hr hsz hvs => calls_of_wp hfn hb ?_⟩
  have hs0 : SR fm fn.ntmps w L ⟨entryE 0 args, H, H.length⟩ ⟨vs ++ Array.replicate (fn.ntmps - vs.size) undef, []⟩ w := by
    refine ⟨rfl, by simp; omega, fun b hb' => ?_, L, Keep.refl _ _, LStep.refl _ _, hr, fun t => ?_⟩
    · apply Classical.byContradiction
      intro hlt
      exact hb' ((hr.fresh b).2 (List.getElem?_eq_none (by simpa using hlt)))
    · rw [lookE_entry]
      simp only [Nat.zero_le, if_true, Nat.sub_zero]
      cases hj : args[t]? with
      | none => exact .u _
      | some a =>
        have hlt : t < vs.size := by rw [hsz]; exact (List.getElem?_eq_some_iff.1 hj).1
        have := hvs t a hj
        rw [Array.getD_eq_getD_getElem?] at this ⊢
        rw [Array.getElem?_append_left hlt]
        exact this
  have post : ∀ a w', (∃ s, (∃ vs, resAll s ts vs ∧ Fin s (tupR vs) r H') ∧ SR fm fn.ntmps w L s a w') → a.defers = [] ∧ ∃ v, (results fn a.tmps).run P w' = .ok v w' ∧
      ∃ v' L', Ending.returned v = .returned v' ∧ Keep L w w' ∧ LStep L L' w.heap.size ∧ HR fm w' L' (hf H') ∧ VR fm w' L' v' r := by
    rintro a w' ⟨s, ⟨vs, hvs, hfin⟩, hs⟩
    obtain ⟨h1, h2, h3, L1, h4', h5, h6, h7⟩ := hs
    obtain ⟨k0, ys, k1, k2, k3⟩ := res_all h6 h7 hres hvs
    obtain ⟨L2, j1, j2, j3⟩ := hfin fm w' L1 _ h6 (vr_tupR k2 k3)
    exact ⟨h1, _, results_run (rs := fn.results.toList) (by simp) (by omega) k1, _, L2, rfl, h4', j1 L _ h3 h5, j2, j3⟩
  refine wp_mono (hsat P fm fn.ntmps c hC hm ht w L _ w hs0) (fun e a w' hp => ?_)
  cases e with
  | normal => exact post a w' hp
  | ret => exact post a w' hp
  | exit id => obtain ⟨s, hq, _⟩ := hp; exact hq.elim
  | goto l => exact hp.elim
  | panic ch => exact hp.elim
  | outgrown => exact hp.elim

end Go.Abs

namespace Go.Abs
open Go

section
variable (C : Ctx) (env : Env) (H : Heap) (K : AV → Heap → Prop)

theorem e_mv (x : Opd) : evOp C (.mv x) env H K = opK env x (fun a => K a H) := rfl
theorem e_pick (c a b : Opd) : evOp C (.pick c a b) env H K = opK env c (fun c => boolK c fun t => opK env a fun a => opK env b fun b => bsp t (K a H) (K b H)) := rfl
theorem e_box (x : Opd) : evOp C (.box x) env H K = opK env x (fun a => cellsK a fun cs => 0 < cs.length ∧ cs.length ≤ maxEl ∧ K (.ptr H.length 0 0) (H ++ [some ⟨cs.length, [cs]⟩])) := rfl
theorem e_alloc (z : List Value) : evOp C (.alloc z) env H K = K (.ptr H.length 0 0) (H ++ [some ⟨z.length, [z.map zc]⟩]) := rfl
theorem e_build (z : List Value) (ps : List (Nat × Nat × Opd)) : evOp C (.build z ps) env H K = fillK (z.map zc) env ps (fun cs => K (.agg cs) H) := rfl
theorem e_bsl (es : Nat) (z : List Value) (n : Nat) (ps : List (Nat × Opd)) : evOp C (.bsl es z n ps) env H K =
    fillE es (List.replicate n (z.map zc)) env ps (fun l => K (match l with | [] => .emp | _ => .rd es l) H) := rfl
theorem e_nilc (x : Opd) : evOp C (.nilc x) env H K = opK env x (fun p => match p with
    | .rp cs => K (.rp cs) H
    | .ptr a i j => K (.ptr a i j) H
    | .clo f cs => K (.clo f cs) H
    | _ => False) := rfl
theorem e_bin (op : BinOp) (x y : Opd) : evOp C (.bin op x y) env H K = opK env x (fun a => opK env y fun b => binK op a b fun r => K (.v r) H) := rfl
theorem e_beq (ng : Bool) (x y : Opd) : evOp C (.beq ng x y) env H K = opK env x (fun a => opK env y fun b => boolK a fun s => boolK b fun t => K (.v (.bool (bif ng then !(s == t) else s == t))) H) := rfl
theorem e_eqa (ng : Bool) (ks : List Nat) (x y : Opd) : evOp C (.eqa ng ks x y) env H K =
    opK env x (fun a => opK env y fun b => ∃ cs ds r, a = .agg cs ∧ b = .agg ds ∧ eqL ks cs ds = some r ∧ K (.v (.bool (bif ng then !r else r))) H) := rfl
theorem e_not (x : Opd) : evOp C (.not x) env H K = opK env x (fun a => boolK a fun b => K (.v (.bool !b)) H) := rfl
theorem e_neg (x : Opd) : evOp C (.neg x) env H K = opK env x (fun a => ∃ k n, a = .v (.int k n) ∧ K (.v (.int k (k.wrap (0 - n)))) H) := rfl
theorem e_conv (k : IntKind) (x : Opd) : evOp C (.conv k x) env H K = opK env x (fun a => intK a fun n => K (.v (.int k (k.wrap n))) H) := rfl
theorem e_cvs (x : Opd) : evOp C (.cvs x) env H K = opK env x (fun a => strK a fun s => K (.v (.string s)) H) := rfl
theorem e_ext (x : Opd) (i : Nat) : evOp C (.ext x i) env H K = opK env x (fun a => ∃ l, a = .tup l ∧ ∃ b, l[i]? = some b ∧ K b H) := rfl
theorem e_fld (g : Bool) (off n : Nat) (x : Opd) : evOp C (.fld g off n x) env H K = opK env x (fun a => ∃ cs, a = .agg cs ∧ off ≤ cs.length ∧ loadK g n (cs.drop off) fun a => K a H) := rfl
theorem e_lenS (x : Opd) : evOp C (.lenS x) env H K = opK env x (fun a => strK a fun s => K (.v (.int .i64 (s.size : Nat))) H) := rfl
theorem e_mkf (f : Nat) (caps : List Opd) : evOp C (.mkf f caps) env H K = K (.clo f (caps.map (opd env))) H := rfl
theorem e_call (f : Nat) (args : List Opd) : evOp C (.call f args) env H K = callK C f (args.map (opd env)) H K := rfl
theorem e_dyn (x : Opd) (args : List Opd) : evOp C (.dyn x args) env H K = opK env x (fun a => ∃ f cs, a = .clo f cs ∧ callK C f (args.map (opd env) ++ cs) H K) := rfl
theorem e_dynP (x : Opd) (args : List Opd) : evOp C (.dynP x args) env H K = opK env x (fun a => ∃ f cs, a = .clo f cs ∧ C.pf f = true ∧ callK C f (args.map (opd env) ++ cs) H K) := rfl
theorem e_idx (x i : Opd) : evOp C (.idx x i) env H K = opK env x (fun a => opK env i fun i => strK a fun s => intK i fun n => 0 ≤ n ∧ ∃ b, s[n.toNat]? = some b ∧ K (.v (.int .u8 b.toNat)) H) := rfl
theorem e_slcS (x : Opd) (lo hi : Option Opd) : evOp C (.slcS x lo hi) env H K =
    opK env x (fun a => strK a fun s => slB env lo 0 fun l => slB env hi s.size fun h => l ≤ h ∧ h ≤ s.size ∧ K (.v (.string (s.extract l h))) H) := rfl
theorem e_mksl (es : Nat) (z : List Value) (n c : Opd) : evOp C (.mksl es z n c) env H K =
    opK env n (fun n => opK env c fun c => intK n fun n => intK c fun c => 0 ≤ n ∧ n ≤ c ∧ c ≤ (maxEl : Nat) ∧ K (.ref H.length 0 n.toNat) (H ++ [some ⟨es, List.replicate n.toNat (z.map zc)⟩])) := rfl

/-- Operations whose outcome hangs on the operand's form. -/
def loadAV (g : Bool) (n : Nat) (H : Heap) (K : AV → Heap → Prop) : AV → Prop
  | .rp cs => loadK g n cs fun a => K a H
  | .ptr a i j => objK (hf H) a fun o => ∃ e, o.el[i]? = some e ∧ loadK g n (e.drop j) fun a => K a H
  | _ => False
theorem e_load (g : Bool) (n : Nat) (x : Opd) : evOp C (.load g n x) env H K = opK env x (loadAV g n H K) := by
  simp only [evOp, evG, opK]; cases opd env x <;> rfl
def loadRAV (g : Bool) (n : Nat) (H : Heap) (K : AV → Heap → Prop) : AV → Prop
  | .rp cs => loadK g n cs fun a => K a H
  | _ => False
theorem e_loadR (g : Bool) (n : Nat) (x : Opd) : evOp C (.loadR g n x) env H K = opK env x (loadRAV g n H K) := by
  simp only [evOp, evG, opK]; cases opd env x <;> rfl
def storeAV (n : Nat) (H : Heap) (K : AV → Heap → Prop) (y : AV) : AV → Prop
  | .ptr a i j => objK (hf H) a fun o => ∃ e, o.el[i]? = some e ∧ cellsK y fun cs => cs.length = n ∧ j + n ≤ e.length ∧ K .u (H.set a (some ⟨o.es, o.el.set i (splice e j cs)⟩))
  | _ => False
theorem e_store (n : Nat) (x y : Opd) : evOp C (.store n x y) env H K = opK env x (fun p => opK env y fun y => storeAV n H K y p) := by
  simp only [evOp, evG, opK]; cases opd env x <;> rfl
def fadAV (off : Nat) (H : Heap) (K : AV → Heap → Prop) : AV → Prop
  | .rp cs => K (.rp (cs.drop off)) H
  | .ptr a i j => K (.ptr a i (j + off)) H
  | _ => False
theorem e_fad (off : Nat) (x : Opd) : evOp C (.fad off x) env H K = opK env x (fadAV off H K) := by
  simp only [evOp, evG, opK]; cases opd env x <;> rfl
def iadAV (es : Nat) (H : Heap) (n : Int) (K : AV → Heap → Prop) : AV → Prop
  | .rd es' l => es' = es ∧ 0 ≤ n ∧ ∃ e, l[n.toNat]? = some e ∧ K (.rp e) H
  | .ref a off len => objK (hf H) a fun o => o.es = es ∧ off + len ≤ o.el.length ∧ 0 ≤ n ∧ n < len ∧ K (.ptr a (off + n.toNat) 0) H
  | _ => False
theorem e_iad (es : Nat) (x i : Opd) : evOp C (.iad es x i) env H K = opK env x (fun a => opK env i fun i => intK i fun n => iadAV es H n K a) := by
  simp only [evOp, evG, opK]; cases opd env x <;> rfl
def iadaAV (es : Nat) (H : Heap) (n : Int) (K : AV → Heap → Prop) : AV → Prop
  | .rp cs => K (.rp (cs.drop (n.toNat * es))) H
  | .ptr a i j => K (.ptr a i (j + n.toNat * es)) H
  | _ => False
theorem e_iada (es len : Nat) (x i : Opd) : evOp C (.iada es len x i) env H K = opK env x (fun p => opK env i fun i => intK i fun n => 0 ≤ n ∧ n < (len : Int) ∧ iadaAV es H n K p) := by
  simp only [evOp, evG, opK]; cases opd env x <;> rfl
def lenAV (H : Heap) (K : AV → Heap → Prop) : AV → Prop
  | .rd _ l => K (.v (.int .i64 (l.length : Nat))) H
  | .ref _ _ len => K (.v (.int .i64 (len : Nat))) H
  | .emp => K (.v (.int .i64 0)) H
  | _ => False
theorem e_len (x : Opd) : evOp C (.len x) env H K = opK env x (lenAV H K) := by
  simp only [evOp, evG, opK]; cases opd env x <;> rfl
def slcAV (es0 : Nat) (env : Env) (lo hi : Option Opd) (H : Heap) (K : AV → Heap → Prop) : AV → Prop
  | .rd es l => es = es0 ∧ slB env lo 0 fun i => slB env hi l.length fun h => i ≤ h ∧ h ≤ l.length ∧ K (.rd es ((l.take h).drop i)) H
  | .ref a off len => slB env lo 0 fun i => slB env hi len fun h => i = 0 ∧ h ≤ len ∧ K (.ref a off h) H
  | .emp => slB env lo 0 fun i => slB env hi 0 fun h => i = 0 ∧ h = 0 ∧ K .emp H
  | _ => False
theorem e_slcR (es : Nat) (x : Opd) (lo hi : Option Opd) : evOp C (.slcR es x lo hi) env H K = opK env x (slcAV es env lo hi H K) := by
  simp only [evOp, evG, opK]; cases opd env x <;> rfl
def appAV (es : Nat) (l : List (List AV)) (H : Heap) (K : AV → Heap → Prop) : AV → Prop
  | .ref a off len => objK (hf H) a fun o => off = 0 ∧ len = o.el.length ∧ o.es = es ∧ o.el.length + l.length ≤ maxEl ∧ (∀ e ∈ l, e.length = es) ∧
      K (.ref H.length 0 (o.el.length + l.length)) (H.set a none ++ [some ⟨es, o.el ++ l⟩])
  | .emp => l.length ≤ maxEl ∧ (∀ e ∈ l, e.length = es) ∧ K (.ref H.length 0 l.length) (H ++ [some ⟨es, l⟩])
  | _ => False
def appX (es : Nat) (H : Heap) (K : AV → Heap → Prop) (s : AV) : AV → Prop
  | .rd es' l => es' = es ∧ appAV es l H K s
  | .emp => appAV es [] H K s
  | _ => False
theorem e_app (es : Nat) (s x : Opd) : evOp C (.app es s x) env H K = opK env s (fun s => opK env x (appX es H K s)) := by
  simp only [evOp, evG, opK]; cases opd env x <;> try rfl
  all_goals (cases opd env s <;> rfl)

end

section
variable (H : Heap) (K : AV → Heap → Prop)
theorem l_len_rd (es : Nat) (l : List (List AV)) : lenAV H K (.rd es l) = K (.v (.int .i64 (l.length : Nat))) H := rfl
theorem l_len_ref (a off n : Nat) : lenAV H K (.ref a off n) = K (.v (.int .i64 (n : Nat))) H := rfl
theorem l_len_emp : lenAV H K .emp = K (.v (.int .i64 0)) H := rfl
theorem l_load_rp (g : Bool) (n : Nat) (cs : List AV) : loadAV g n H K (.rp cs) = loadK g n cs (fun a => K a H) := rfl
theorem l_load_ptr (g : Bool) (n a i j : Nat) : loadAV g n H K (.ptr a i j) = objK (hf H) a (fun o => ∃ e, o.el[i]? = some e ∧ loadK g n (e.drop j) fun a => K a H) := rfl
theorem l_loadR_rp (g : Bool) (n : Nat) (cs : List AV) : loadRAV g n H K (.rp cs) = loadK g n cs (fun a => K a H) := rfl
theorem l_store (n : Nat) (y : AV) (a i j : Nat) : storeAV n H K y (.ptr a i j) = objK (hf H) a (fun o => ∃ e, o.el[i]? = some e ∧ cellsK y fun cs => cs.length = n ∧ j + n ≤ e.length ∧ K .u (H.set a (some ⟨o.es, o.el.set i (splice e j cs)⟩))) := rfl
theorem l_fad_rp (off : Nat) (cs : List AV) : fadAV off H K (.rp cs) = K (.rp (cs.drop off)) H := rfl
theorem l_fad_ptr (off a i j : Nat) : fadAV off H K (.ptr a i j) = K (.ptr a i (j + off)) H := rfl
theorem l_iad_rd (es es' : Nat) (n : Int) (l : List (List AV)) : iadAV es H n K (.rd es' l) = (es' = es ∧ 0 ≤ n ∧ ∃ e, l[n.toNat]? = some e ∧ K (.rp e) H) := rfl
theorem l_iad_ref (es : Nat) (n : Int) (a off len : Nat) : iadAV es H n K (.ref a off len) = objK (hf H) a (fun o => o.es = es ∧ off + len ≤ o.el.length ∧ 0 ≤ n ∧ n < len ∧ K (.ptr a (off + n.toNat) 0) H) := rfl
theorem l_iada_rp (es : Nat) (n : Int) (cs : List AV) : iadaAV es H n K (.rp cs) = K (.rp (cs.drop (n.toNat * es))) H := rfl
theorem l_iada_ptr (es : Nat) (n : Int) (a i j : Nat) : iadaAV es H n K (.ptr a i j) = K (.ptr a i (j + n.toNat * es)) H := rfl
theorem l_slc_rd (es0 es : Nat) (env : Env) (lo hi : Option Opd) (l : List (List AV)) : slcAV es0 env lo hi H K (.rd es l) =
    (es = es0 ∧ slB env lo 0 fun i => slB env hi l.length fun h => i ≤ h ∧ h ≤ l.length ∧ K (.rd es ((l.take h).drop i)) H) := rfl
theorem l_slc_ref (es0 a off len : Nat) (env : Env) (lo hi : Option Opd) : slcAV es0 env lo hi H K (.ref a off len) = slB env lo 0 (fun i => slB env hi len fun h => i = 0 ∧ h ≤ len ∧ K (.ref a off h) H) := rfl
theorem l_slc_emp (es0 : Nat) (env : Env) (lo hi : Option Opd) : slcAV es0 env lo hi H K .emp = slB env lo 0 (fun i => slB env hi 0 fun h => i = 0 ∧ h = 0 ∧ K .emp H) := rfl
theorem l_app_rd (es es' : Nat) (s : AV) (l : List (List AV)) : appX es H K s (.rd es' l) = (es' = es ∧ appAV es l H K s) := rfl
theorem l_app_emp (es : Nat) (s : AV) : appX es H K s .emp = appAV es [] H K s := rfl
theorem l_apd_ref (es : Nat) (l : List (List AV)) (a off len : Nat) : appAV es l H K (.ref a off len) = objK (hf H) a (fun o => off = 0 ∧ len = o.el.length ∧ o.es = es ∧ o.el.length + l.length ≤ maxEl ∧ (∀ e ∈ l, e.length = es) ∧
      K (.ref H.length 0 (o.el.length + l.length)) (H.set a none ++ [some ⟨es, o.el ++ l⟩])) := rfl
theorem l_apd_emp (es : Nat) (l : List (List AV)) : appAV es l H K .emp = (l.length ≤ maxEl ∧ (∀ e ∈ l, e.length = es) ∧ K (.ref H.length 0 l.length) (H ++ [some ⟨es, l⟩])) := rfl
theorem l_loadK_t (n : Nat) (cs : List AV) (K : AV → Prop) : loadK true n cs K = (n ≤ cs.length ∧ K (.agg (cs.take n))) := rfl
theorem l_loadK_f (n : Nat) (c : AV) (cs : List AV) (K : AV → Prop) : loadK false n (c :: cs) K = K c := by simp [loadK]
theorem l_slB_none (env : Env) (d : Nat) (K : Nat → Prop) : slB env none d K = K d := rfl
theorem l_slB_some (env : Env) (x : Opd) (d : Nat) (K : Nat → Prop) : slB env (some x) d K = opK env x (fun a => intK a fun n => 0 ≤ n ∧ K n.toNat) := rfl
theorem l_put (env : Env) (d : Nat) (v : AV) : put env (some d) v = (d, v) :: env := rfl
theorem l_put0 (env : Env) (v : AV) : put env none v = env := rfl
theorem l_lss (k : IntKind) (x y : Int) (K : Value → Prop) : intBin .lss k x y K = K (.bool (decide (x < y))) := rfl
theorem l_leq (k : IntKind) (x y : Int) (K : Value → Prop) : intBin .leq k x y K = K (.bool (decide (x ≤ y))) := rfl
theorem l_gtr (k : IntKind) (x y : Int) (K : Value → Prop) : intBin .gtr k x y K = K (.bool (decide (x > y))) := rfl
theorem l_geq (k : IntKind) (x y : Int) (K : Value → Prop) : intBin .geq k x y K = K (.bool (decide (x ≥ y))) := rfl
theorem l_eql (k : IntKind) (x y : Int) (K : Value → Prop) : intBin .eql k x y K = K (.bool (x == y)) := rfl
theorem l_neq (k : IntKind) (x y : Int) (K : Value → Prop) : intBin .neq k x y K = K (.bool (x != y)) := rfl
theorem l_add (k : IntKind) (x y : Int) (K : Value → Prop) : intBin .add k x y K = K (.int k (k.wrap (x + y))) := rfl
theorem l_sub (k : IntKind) (x y : Int) (K : Value → Prop) : intBin .sub k x y K = K (.int k (k.wrap (x - y))) := rfl
theorem l_mul (k : IntKind) (x y : Int) (K : Value → Prop) : intBin .mul k x y K = K (.int k (k.wrap (x * y))) := rfl
theorem l_and (k : IntKind) (x y : Int) (K : Value → Prop) : intBin .and k x y K = K (.int k (bits .and k x y)) := rfl
theorem l_or (k : IntKind) (x y : Int) (K : Value → Prop) : intBin .or k x y K = K (.int k (bits .or k x y)) := rfl
theorem l_xor (k : IntKind) (x y : Int) (K : Value → Prop) : intBin .xor k x y K = K (.int k (bits .xor k x y)) := rfl
theorem l_andNot (k : IntKind) (x y : Int) (K : Value → Prop) : intBin .andNot k x y K = K (.int k (bits .andNot k x y)) := rfl
theorem l_shl (k : IntKind) (x y : Int) (K : Value → Prop) : intBin .shl k x y K = (0 ≤ y ∧ K (.int k (k.wrap (x * 2 ^ (min y.toNat k.bits))))) := rfl
theorem l_shr (k : IntKind) (x y : Int) (K : Value → Prop) : intBin .shr k x y K = (0 ≤ y ∧ K (.int k (x.fdiv (2 ^ (min y.toNat k.bits))))) := rfl
end

/-- A sequence, the rest kept out of sight. -/
theorem sat_seq_k {C : Ctx} {Q : Ex → ASt → Prop} {st : ASt} {x y : ACode} (h : ∀ N : ASt → Prop, (∀ s, Sat C y Q s → N s) → Sat C x (Ex.then N Q) st) : Sat C (.seq x y) Q st :=
  sat_seq (h _ fun _ h => h)

/-- A region, then the rest. -/
theorem sat_rs {C : Ctx} {Q : Ex → ASt → Prop} {st : ASt} {ys : List AI} {y : ACode} (h : ∀ N : ASt → Prop, (∀ s, Sat C y Q s → N s) → evOps C st.heap.length ys N st) : Sat C (.seq (.reg ys) y) Q st :=
  sat_seq (sat_reg (h _ fun _ h => h))

theorem then_nor (N : ASt → Prop) (Q : Ex → ASt → Prop) (s : ASt) : Ex.then N Q .nor s = N s := rfl
theorem then_exit (N : ASt → Prop) (Q : Ex → ASt → Prop) (i : Nat) (s : ASt) : Ex.then N Q (.exit i) s = Q (.exit i) s := rfl
theorem then_ret (N : ASt → Prop) (Q : Ex → ASt → Prop) (s : ASt) : Ex.then N Q .ret s = Q .ret s := rfl
theorem blk_nor (i : Nat) (Q : Ex → ASt → Prop) (s : ASt) : Ex.blk i Q .nor s = Q .nor s := rfl
theorem blk_ret (i : Nat) (Q : Ex → ASt → Prop) (s : ASt) : Ex.blk i Q .ret s = Q .ret s := rfl
theorem blk_hit (i : Nat) (Q : Ex → ASt → Prop) (s : ASt) : Ex.blk i Q (.exit i) s = Q .nor s := by simp [Ex.blk]
theorem blk_miss (i j : Nat) (Q : Ex → ASt → Prop) (s : ASt) (h : (j == i) = false) : Ex.blk i Q (.exit j) s = Q (.exit j) s := by simp [Ex.blk, h]

theorem opd_hit (n : Nat) (v : AV) (r : Env) : opd ((n, v) :: r) (.t n) = v := by simp [opd, lookE]
theorem opd_miss (n t : Nat) (v : AV) (r : Env) (h : (n == t) = false) : opd ((n, v) :: r) (.t t) = opd r (.t t) := by simp [opd, lookE, h]
theorem opd_c (env : Env) (v : AV) : opd env (.c v) = v := rfl
theorem look_hit (n : Nat) (v : AV) (r : Env) : lookE ((n, v) :: r) n = v := by simp [lookE]
theorem look_miss (n t : Nat) (v : AV) (r : Env) (h : (n == t) = false) : lookE ((n, v) :: r) t = lookE r t := by simp [lookE, h]

end Go.Abs

namespace Go.Abs
open Go Go.RowKit

/-- The heap of a function that sees no object of others: as many ids are spent, then its own objects. -/
def Z (n : Nat) (X : Heap) : Heap := List.replicate n none ++ X

theorem z_len (n : Nat) (X : Heap) : (Z n X).length = n + X.length := by simp [Z]
theorem z_push (n : Nat) (X : Heap) (o : Option AObj) : Z n X ++ [o] = Z n (X ++ [o]) := by simp [Z]
theorem z_get (n : Nat) (X : Heap) (i : Nat) : (Z n X)[n + i]? = X[i]? := by
  simp only [Z]
  rw [List.getElem?_append_right (by simp)]
  simp
theorem z_low (n : Nat) (X : Heap) (i : Nat) (h : i < n) : (Z n X)[i]? = some none := by
  simp only [Z]
  rw [List.getElem?_append_left (by simpa using h)]
  simp [h]
theorem z_set (n : Nat) (X : Heap) (i : Nat) (o : Option AObj) : (Z n X).set (n + i) o = Z n (X.set i o) := by
  simp only [Z]
  rw [List.set_append_right _ _ (by simp)]
  simp
theorem z_obj (n : Nat) (X : Heap) (i : Nat) (K : AObj → Prop) : objK (hf (Z n X)) (n + i) K = objK (hf X) i K := by
  simp only [objK, hf, z_get]
theorem z_obj0 (n : Nat) (X : Heap) (K : AObj → Prop) : objK (hf (Z n X)) n K = objK (hf X) 0 K := z_obj n X 0 K
theorem z_set0 (n : Nat) (X : Heap) (o : Option AObj) : (Z n X).set n o = Z n (X.set 0 o) := z_set n X 0 o
theorem obj_hit (o : AObj) (r : Heap) (K : AObj → Prop) : objK (hf (some o :: r)) 0 K = K o := by simp [objK, hf]
theorem obj_miss (o : Option AObj) (r : Heap) (i : Nat) (K : AObj → Prop) : objK (hf (o :: r)) (i + 1) K = objK (hf r) i K := by simp [objK, hf]
theorem z_dead (n : Nat) (a : Nat) (o : AObj) : hf (Z n []) a ≠ some (some o) := by
  simp only [hf, Z, List.append_nil, List.getElem?_replicate]
  split <;> simp

/-- The contract of a function that touches no object of others. -/
def pureC (R : List AV → AV → Prop) : Contract := fun args H r H' => ∃ n, H = Z n [] ∧ H' = H ∧ (∀ a ∈ args, NR a) ∧ NR r ∧ R args r

structure Has (C : Ctx) (f : Nat) (R : List AV → AV → Prop) : Prop where
  pf : C.pf f = true
  ok : ∀ args r, (∀ a ∈ args, NR a) → NR r → R args r → C.C f args [] r []

/-- What a result is when it leaves: own objects may be read from then on. -/
def Out (H : Heap) (a r : AV) : Prop := Cz id (fun _ => True) (hf H) (fun _ => none) a r

def RetP (n : Nat) (ts : List RV) (r : AV) : Ex → ASt → Prop
  | .exit _, _ => False
  | _, s => s.base = n ∧ ∃ vs, resAll s ts vs ∧ Out s.heap (tupR vs) r

theorem out_any {H : Heap} {H' : HF} {a r : AV} (h : Out H a r) : Cz id (fun _ => True) (hf H) H' a r := by
  unfold Out at h
  induction h with
  | u a => exact .u a
  | v x => exact .v x
  | emp => exact .emp
  | empRd es => exact .empRd es
  | rd es l l' hl hz h ih => exact .rd es l l' hl hz ih
  | rp cs cs' hl h ih => exact .rp cs cs' hl ih
  | agg cs cs' hl h ih => exact .agg cs cs' hl ih
  | tup cs cs' hl h ih => exact .tup cs cs' hl ih
  | clo f cs cs' hl h ih => exact .clo f cs cs' hl ih
  | ref a off len o h => cases h
  | ptr a i j o h => cases h
  | frz i off len o l' hz ho hle hl hlz h ih => exact .frz i off len o l' hz ho hle hl hlz ih

theorem fin_out {s : ASt} {n : Nat} (hb : s.base = n) {rv r : AV} (h : Out s.heap rv r) : Fin s rv r (Z n []) := by
  refine fin_cz id (fun _ => True) ⟨fun a b o o' ha => absurd ha (z_dead n a o), fun a ha => ⟨rfl, fun _ => ?_⟩, fun a o ha => absurd ha (z_dead n a o)⟩ (out_any h)
  rw [hb] at ha
  simp [hf, z_low n [] a ha]

/-- The rule for such a function. -/
theorem fok_pure {P : Program} {fm : Nat → Nat} {C : Ctx} (hC : CtxOK P fm C) (hm : P.follows .mixedOrders = true) {f : FuncId} {n : Nat} {ts : List RV} {ac : ACode} (h : fnTr P fm C.pf f = some (n, ts, ac))
    (h4 : ts.length ≤ 4) {R : List AV → AV → Prop} (hs : ∀ args r, R args r → args.length ≤ n ∧ ∀ k, Sat C ac (RetP k ts r) ⟨entryE 0 args, Z k [], k⟩) : FOK P fm f (pureC R) := by
  refine fok_of_sat hC hm h h4 ?_
  rintro args H r H' ⟨k, rfl, rfl, hna, hnr, hR⟩
  obtain ⟨h1, h2⟩ := hs args r hR
  refine ⟨h1, ?_⟩
  have := (h2 k).mono (Q' := RetQ ts r (Z k [])) (fun e s hq => by
    cases e with
    | exit id => exact hq
    | nor => obtain ⟨hb, vs, h1, h2⟩ := hq; exact ⟨vs, h1, fin_out hb h2⟩
    | ret => obtain ⟨hb, vs, h1, h2⟩ := hq; exact ⟨vs, h1, fin_out hb h2⟩)
  simpa [z_len] using this

/-- Elements, the second known less well. -/
def ElC (l l' : List (List AV)) : Prop := l.length = l'.length ∧ ∀ (i : Nat) (e e' : List AV), l[i]? = some e → l'[i]? = some e' →
  e.length = e'.length ∧ ∀ (j : Nat) (x x' : AV), e[j]? = some x → e'[j]? = some x' → Coe x x' ∧ NR x'

theorem ElC.refl {l : List (List AV)} (h : ∀ e ∈ l, ∀ x ∈ e, NR x) : ElC l l := by
  refine ⟨rfl, fun i e e' he he' => ?_⟩
  rw [he] at he'; injection he' with he'; subst he'
  refine ⟨rfl, fun j x x' hx hx' => ?_⟩
  rw [hx] at hx'; injection hx' with hx'; subst hx'
  exact ⟨.refl _, h e (List.mem_of_getElem? he) x (List.mem_of_getElem? hx)⟩

theorem cz_coe {ρ : Nat → Nat} {Fz : Nat → Prop} {H H' : HF} {b : AV} (hn : NR b) : Cz ρ Fz H H' b b := by
  induction hn with
  | v x => exact .v x
  | u => exact .u _
  | emp => exact .emp
  | rd es l h ih =>
    refine .rd es l l rfl (fun i e e' he he' => by rw [he] at he'; injection he' with he'; rw [he']) (fun i e e' j x x' he he' hx hx' => ?_)
    rw [he] at he'; injection he' with he'; subst he'
    rw [hx] at hx'; injection hx' with hx'; subst hx'
    exact ih e (List.mem_of_getElem? he) x (List.mem_of_getElem? hx)
  | rp cs h ih =>
    refine .rp cs cs rfl (fun j x x' hx hx' => ?_)
    rw [hx] at hx'; injection hx' with hx'; subst hx'
    exact ih x (List.mem_of_getElem? hx)
  | agg cs h ih =>
    refine .agg cs cs rfl (fun j x x' hx hx' => ?_)
    rw [hx] at hx'; injection hx' with hx'; subst hx'
    exact ih x (List.mem_of_getElem? hx)
  | tup cs h ih =>
    refine .tup cs cs rfl (fun j x x' hx hx' => ?_)
    rw [hx] at hx'; injection hx' with hx'; subst hx'
    exact ih x (List.mem_of_getElem? hx)
  | clo f cs h ih =>
    refine .clo f cs cs rfl (fun j x x' hx hx' => ?_)
    rw [hx] at hx'; injection hx' with hx'; subst hx'
    exact ih x (List.mem_of_getElem? hx)

theorem cz_of_coe {ρ : Nat → Nat} {Fz : Nat → Prop} {H H' : HF} {a b : AV} (hc : Coe a b) : NR b → Cz ρ Fz H H' a b := by
  induction hc with
  | refl a => exact cz_coe
  | empRd es => intro _; exact .empRd es
  | rd es l l' hl hlz h ih =>
    intro hn
    cases hn with
    | rd es l' hn => exact .rd es l l' hl hlz (fun i e e' j x x' h1 h2 h3 h4 => ih i e e' j x x' h1 h2 h3 h4 (hn e' (List.mem_of_getElem? h2) x' (List.mem_of_getElem? h4)))
  | rp cs cs' hl h ih =>
    intro hn
    cases hn with
    | rp cs' hn => exact .rp cs cs' hl (fun j x x' h3 h4 => ih j x x' h3 h4 (hn x' (List.mem_of_getElem? h4)))
  | agg cs cs' hl h ih =>
    intro hn
    cases hn with
    | agg cs' hn => exact .agg cs cs' hl (fun j x x' h3 h4 => ih j x x' h3 h4 (hn x' (List.mem_of_getElem? h4)))
  | tup cs cs' hl h ih =>
    intro hn
    cases hn with
    | tup cs' hn => exact .tup cs cs' hl (fun j x x' h3 h4 => ih j x x' h3 h4 (hn x' (List.mem_of_getElem? h4)))
  | clo f cs cs' hl h ih =>
    intro hn
    cases hn with
    | clo f cs' hn => exact .clo f cs cs' hl (fun j x x' h3 h4 => ih j x x' h3 h4 (hn x' (List.mem_of_getElem? h4)))

theorem out_val {H : Heap} {a r : AV} (h : Coe a r) (hn : NR r) : Out H a r := cz_of_coe h hn
theorem out_frz {H : Heap} {i off len : Nat} {o : AObj} {l' : List (List AV)} (ho : H[i]? = some (some o)) (hle : off + len ≤ o.el.length) (hl : ElC ((o.el.drop off).take len) l') : Out H (.ref i off len) (.rd o.es l') := by
  have hlen : len = l'.length := by rw [← hl.1]; simp; omega
  have hsub : ∀ (k : Nat) (e e' : List AV), o.el[off + k]? = some e → l'[k]? = some e' → ((o.el.drop off).take len)[k]? = some e := by
    intro k e e' h1 h2
    have := (List.getElem?_eq_some_iff.1 h2).1
    rw [List.getElem?_take, if_pos (by omega), List.getElem?_drop]; exact h1
  exact .frz i off len o l' trivial ho hle hlen (fun k e e' h1 h2 => (hl.2 k e e' (hsub k e e' h1 h2) h2).1)
    (fun k e e' j x x' h1 h2 h3 h4 => cz_of_coe ((hl.2 k e e' (hsub k e e' h1 h2) h2).2 j x x' h3 h4).1 ((hl.2 k e e' (hsub k e e' h1 h2) h2).2 j x x' h3 h4).2)

/-- Each slot that is still named stands as the relation has it. -/
def subC (R : AV → AV → Prop) (env : Env) : Env → Prop
  | [] => True
  | (t, v) :: r => R (lookE env t) v ∧ subC R env r

theorem subC_look {R : AV → AV → Prop} (hu : ∀ a, R a .u) {env : Env} : ∀ {env' : Env}, subC R env env' → ∀ t, R (lookE env t) (lookE env' t)
  | [], _, t => hu _
  | (s, v) :: r, h, t => by
    simp only [lookE]
    by_cases e : s = t
    · subst e; simp only [beq_self_eq_true, cond_true]; exact h.1
    · have h1 : (s == t) = false := by simp [e]
      rw [h1, cond_false]; exact subC_look hu h.2 t

def CoeU (a b : AV) : Prop := b = .u ∨ Coe a b

/-- Some slots alone, the objects as they are. -/
theorem wk_env {env env' : Env} {H : Heap} {b : Nat} (h : subC CoeU env env') : Wk ⟨env, H, b⟩ ⟨env', H, b⟩ := by
  intro fm n w0 L0 a w hs
  obtain ⟨h1, h2, h3, L, h4, h5, h6, h7⟩ := hs
  refine ⟨h1, h2, h3, L, h4, h5, h6, fun t => ?_⟩
  rcases subC_look (R := CoeU) (fun a => .inl rfl) h t with e | e
  · show VR fm w L _ (lookE env' t)
    rw [e]; exact .u _
  · exact vr_coe e (h7 t)

def rho (n : Nat) (src : List Nat) (a : Nat) : Nat := if a < n then a else n + src.getD (a - n) 0

theorem rho_at (n : Nat) {src : List Nat} {i k : Nat} (h : src[i]? = some k) : rho n src (n + i) = n + k := by
  unfold rho
  rw [if_neg (by omega), show n + i - n = i by omega]
  simp [List.getD, h]

def CZ (n : Nat) (src : List Nat) (X Y : Heap) (a b : AV) : Prop := Cz (rho n src) (fun a => n ≤ a ∧ a - n ∉ src) (hf (Z n X)) (hf (Z n Y)) a b

theorem CZ.u {n : Nat} {src : List Nat} {X Y : Heap} (a : AV) : CZ n src X Y a .u := Cz.u a
theorem CZ.val {n : Nat} {src : List Nat} {X Y : Heap} {a b : AV} (h : Coe a b) (hn : NR b) : CZ n src X Y a b := cz_of_coe h hn
theorem CZ.ref {n : Nat} {src : List Nat} {X Y : Heap} {k i off len : Nat} {o : AObj} (h : src[i]? = some k) (ho : Y[i]? = some (some o)) : CZ n src X Y (.ref (n + k) off len) (.ref (n + i) off len) := by
  have := Cz.ref (ρ := rho n src) (Fz := fun a => n ≤ a ∧ a - n ∉ src) (H := hf (Z n X)) (H' := hf (Z n Y)) (n + i) off len o (by simp only [hf, z_get]; exact ho)
  rwa [rho_at n h] at this
theorem CZ.ptr {n : Nat} {src : List Nat} {X Y : Heap} {k i a b : Nat} {o : AObj} (h : src[i]? = some k) (ho : Y[i]? = some (some o)) : CZ n src X Y (.ptr (n + k) a b) (.ptr (n + i) a b) := by
  have := Cz.ptr (ρ := rho n src) (Fz := fun a => n ≤ a ∧ a - n ∉ src) (H := hf (Z n X)) (H' := hf (Z n Y)) (n + i) a b o (by simp only [hf, z_get]; exact ho)
  rwa [rho_at n h] at this
theorem CZ.frz {n : Nat} {src : List Nat} {X Y : Heap} {k off len : Nat} {o : AObj} {l' : List (List AV)} (hk : k ∉ src) (ho : X[k]? = some (some o)) (hle : off + len ≤ o.el.length)
    (hl : ElC ((o.el.drop off).take len) l') : CZ n src X Y (.ref (n + k) off len) (.rd o.es l') := by
  have hlen : len = l'.length := by rw [← hl.1]; simp; omega
  have hsub : ∀ (k : Nat) (e e' : List AV), o.el[off + k]? = some e → l'[k]? = some e' → ((o.el.drop off).take len)[k]? = some e := by
    intro k e e' h1 h2
    have := (List.getElem?_eq_some_iff.1 h2).1
    rw [List.getElem?_take, if_pos (by omega), List.getElem?_drop]; exact h1
  exact Cz.frz (n + k) off len o l' ⟨by omega, by rwa [show n + k - n = k by omega]⟩ (by simp only [hf, z_get]; exact ho) hle hlen (fun k e e' h1 h2 => (hl.2 k e e' (hsub k e e' h1 h2) h2).1)
    (fun k e e' j x x' h1 h2 h3 h4 => cz_of_coe ((hl.2 k e e' (hsub k e e' h1 h2) h2).2 j x x' h3 h4).1 ((hl.2 k e e' (hsub k e e' h1 h2) h2).2 j x x' h3 h4).2)

/-- Which new object is which of the old. -/
def srcOK (X : Heap) : List Nat → Heap → Prop
  | [], [] => True
  | k :: r, y :: Y => (∃ o o', X[k]? = some (some o) ∧ y = some o' ∧ o'.es = o.es ∧ ElC o.el o'.el) ∧ srcOK X r Y
  | _, _ => False

theorem srcOK_get {X : Heap} : ∀ {src : List Nat} {Y : Heap}, srcOK X src Y → ∀ {i : Nat} {y : Option AObj}, Y[i]? = some y → ∃ k o o', src[i]? = some k ∧ X[k]? = some (some o) ∧ y = some o' ∧ o'.es = o.es ∧ ElC o.el o'.el
  | [], [], _, i, y, h => by simp at h
  | k :: r, y0 :: Y, hs, i, y, h => by
    cases i with
    | zero => simp at h; subst h; obtain ⟨⟨o, o', h1, h2, h3, h4⟩, _⟩ := hs; exact ⟨k, o, o', rfl, h1, h2, h3, h4⟩
    | succ i => simpa using srcOK_get hs.2 (i := i) (by simpa using h)
  | [], _ :: _, hs, _, _, _ => hs.elim
  | _ :: _, [], hs, _, _, _ => hs.elim

/-- The own objects in new order and under new ids; those that are left out are gone, or are read from then on. -/
theorem wk_z {n : Nat} {X Y : Heap} {env env' : Env} (src : List Nat) (hnd : src.Nodup) (hs : srcOK X src Y) (he : subC (CZ n src X Y) env env') : Wk ⟨env, Z n X, n⟩ ⟨env', Z n Y, n⟩ := by
  have key : ∀ a o', hf (Z n Y) a = some (some o') → ∃ i k o, a = n + i ∧ src[i]? = some k ∧ X[k]? = some (some o) ∧ o'.es = o.es ∧ ElC o.el o'.el := by
    intro a o' h
    by_cases hlt : a < n
    · simp [hf, z_low n Y a hlt] at h
    · obtain ⟨i, rfl⟩ : ∃ i, a = n + i := ⟨a - n, by omega⟩
      simp only [hf, z_get] at h
      obtain ⟨k, o, o2, h1, h2, h3, h4, h5⟩ := srcOK_get hs h
      injection h3 with h3; subst h3
      exact ⟨i, k, o, rfl, h1, h2, h4, h5⟩
  refine wk_cz (rho n src) (fun a => n ≤ a ∧ a - n ∉ src) ⟨fun a b o o' ha hb hab => ?_, fun a ha => ?_, fun a o' ha => ?_⟩ rfl (subC_look (R := CZ n src X Y) CZ.u he)
  · obtain ⟨i, k, o1, rfl, h1, _⟩ := key a o ha
    obtain ⟨j, k', o2, rfl, h2, _⟩ := key b o' hb
    rw [rho_at n h1, rho_at n h2] at hab
    have hkk : k = k' := by omega
    subst hkk
    have hi := (List.getElem?_eq_some_iff.1 h1)
    have hj := (List.getElem?_eq_some_iff.1 h2)
    have := (List.getElem_inj (h₀ := hi.1) (h₁ := hj.1) hnd).1 (by rw [hi.2, hj.2])
    rw [this]
  · refine ⟨by simp only [rho]; rw [if_pos ha], fun _ => ?_⟩
    simp [hf, z_low n Y a ha]
  · obtain ⟨i, k, o, rfl, h1, h2, h3, h4⟩ := key a o' ha
    rw [rho_at n h1]
    refine ⟨fun h => h.2 ?_, o, by simp only [hf, z_get]; exact h2, h3, h4.1.symm, fun j e e' he he' => ⟨(h4.2 j e e' he he').1, fun m x x' hx hx' => ?_⟩⟩
    · rw [show n + k - n = k by omega]; exact List.mem_of_getElem? h1
    · exact cz_of_coe ((h4.2 j e e' he he').2 m x x' hx hx').1 ((h4.2 j e e' he he').2 m x x' hx hx').2

/-- A slice without elements and capacity is as good as an own object without elements. -/
theorem wk_new {env : Env} {H : Heap} {b t es : Nat} (he : lookE env t = .emp) (hes : 0 < es) : Wk ⟨env, H, b⟩ ⟨(t, .ref H.length 0 0) :: env, H ++ [some ⟨es, []⟩], b⟩ := by
  intro fm n w0 L0 a w hs
  obtain ⟨h1, h2, h3, L, h4, h5, h6, h7⟩ := hs
  obtain ⟨k1, k2⟩ := push_nil h6 (nid := H.length) (by simp [hf]) hes w0.heap.size
  have k2' : LStep L (fun a => if a = H.length then .nil else L a) w.heap.size := (push_nil h6 (nid := H.length) (by simp [hf]) hes w.heap.size).1
  rw [hf_push] at k2
  refine ⟨h1, h2, h3, _, h4, h5.trans k1, k2, fun s => ?_⟩
  simp only [lookE]
  by_cases e : t = s
  · subst e
    simp only [beq_self_eq_true, cond_true]
    have := h7 t
    simp only [he] at this
    obtain ⟨A, hA⟩ := vr_emp_inv this
    rw [hA]
    exact .refNil A H.length (by simp)
  · have h1 : (t == s) = false := by simp [e]
    rw [h1, cond_false]
    exact (h7 s).mono (Keep.refl _ _) k2'

end Go.Abs

namespace Go.Abs
open Go Go.RowKit

def lookC : List (Nat × Contract) → Nat → Contract
  | [], _ => fun _ _ _ _ => False
  | (k, c) :: r, g => bif k == g then c else lookC r g

def ctxOf (pf : Nat → Bool) (l : List (Nat × Contract)) : Ctx := ⟨lookC l, pf⟩

/-- What is asked of the contract of a function that is said to touch no object. -/
structure Pure (c : Contract) : Prop where
  nr : ∀ args H r H', c args H r H' → (∀ a ∈ args, NR a) ∧ NR r ∧ H' = H
  any : ∀ args r n, c args [] r [] → c args (List.replicate n none) r (List.replicate n none)

theorem pure_pureC (R : List AV → AV → Prop) : Pure (pureC R) :=
  ⟨fun args H r H' ⟨_, _, h2, h3, h4, _⟩ => ⟨h3, h4, h2⟩, fun args r n ⟨_, _, _, h3, h4, h5⟩ => ⟨n, by simp [Z], rfl, h3, h4, h5⟩⟩

theorem ctx_nil (P : Program) (fm : Nat → Nat) (pf : Nat → Bool) : CtxOK P fm (ctxOf pf []) :=
  ⟨fun _ _ _ _ _ h => h.elim, fun _ _ _ _ _ _ h => h.elim, fun _ _ _ _ _ h => h.elim⟩

theorem ctx_cons {P : Program} {fm : Nat → Nat} {pf : Nat → Bool} {l : List (Nat × Contract)} {g : Nat} {c : Contract} (h : CtxOK P fm (ctxOf pf l)) (hf : ∀ f, fm f = g → FOK P fm f c) (hp : pf g = true → Pure c) :
    CtxOK P fm (ctxOf pf ((g, c) :: l)) := by
  refine ⟨fun f => ?_, fun f args H r H' h1 h2 => ?_, fun f args r n h1 h2 => ?_⟩
  · by_cases e : g = fm f
    · subst e
      have : (ctxOf pf ((fm f, c) :: l)).C (fm f) = c := by simp [ctxOf, lookC]
      rw [this]; exact hf f rfl
    · have h1 : (g == fm f) = false := by simp [e]
      have : (ctxOf pf ((g, c) :: l)).C (fm f) = (ctxOf pf l).C (fm f) := by simp [ctxOf, lookC, h1]
      rw [this]; exact h.ok f
  · by_cases e : g = f
    · subst e
      have : (ctxOf pf ((g, c) :: l)).C g = c := by simp [ctxOf, lookC]
      rw [this] at h2; exact (hp h1).nr _ _ _ _ h2
    · have h3 : (g == f) = false := by simp [e]
      have : (ctxOf pf ((g, c) :: l)).C f = (ctxOf pf l).C f := by simp [ctxOf, lookC, h3]
      rw [this] at h2; exact h.nr f args H r H' h1 h2
  · by_cases e : g = f
    · subst e
      have : (ctxOf pf ((g, c) :: l)).C g = c := by simp [ctxOf, lookC]
      rw [this] at h2 ⊢; exact (hp h1).any _ _ _ h2
    · have h3 : (g == f) = false := by simp [e]
      have : (ctxOf pf ((g, c) :: l)).C f = (ctxOf pf l).C f := by simp [ctxOf, lookC, h3]
      rw [this] at h2 ⊢; exact h.any f args r n h1 h2

theorem has_of {pf : Nat → Bool} {l : List (Nat × Contract)} {g : Nat} {R : List AV → AV → Prop} (h : lookC l g = pureC R) (hp : pf g = true) : Has (ctxOf pf l) g R :=
  ⟨hp, fun args r h1 h2 h3 => by show lookC l g args [] r []; rw [h]; exact ⟨0, rfl, rfl, h1, h2, h3⟩⟩

/-- A call of a pure function, all arguments handed over as they are. -/
theorem call_has {C : Ctx} {f : Nat} {R : List AV → AV → Prop} (h : Has C f R) {args args' : List AV} {r : AV} {H : Heap} {K : AV → Heap → Prop} (hc : All2 Coe args args') (hn : ∀ a ∈ args', NR a) (hr : NR r) (hR : R args' r) (hk : K r H) :
    callK C f args H K := by
  have hb : ∀ as : List AV, All2 (Bor (hf H)) as as := fun as => by
    induction as with
    | nil => trivial
    | cons a as ih => exact ⟨.inl (.inl rfl), ih⟩
  exact .inl ⟨h.pf, args, args', r, hb _, .inl rfl, hc, h.ok _ _ hn hr hR, hk⟩

/-- The same, where slices of own objects are lent. -/
theorem call_lent {C : Ctx} {f : Nat} {R : List AV → AV → Prop} (h : Has C f R) {args args1 args' : List AV} {r : AV} {H : Heap} {K : AV → Heap → Prop} (hb : All2 (Bor (hf H)) args args1) (hs : Scal r) (hc : All2 Coe args1 args') (hn : ∀ a ∈ args', NR a) (hr : NR r) (hR : R args' r) (hk : K r H) :
    callK C f args H K := .inl ⟨h.pf, args1, args', r, hb, .inr hs, hc, h.ok _ _ hn hr hR, hk⟩

theorem all2_refl : ∀ as : List AV, All2 Coe as as
  | [] => trivial
  | a :: as => ⟨.refl a, all2_refl as⟩

end Go.Abs

namespace Go.Abs
open Go Go.RowKit

def noLoc : Nat → Loc := fun _ => .fresh

theorem noLoc_ownc (b : Nat) : ¬ OwnC noLoc b := fun ⟨_, _, _, h⟩ => by cases h
theorem noLoc_owned (b : Nat) : ¬ Owned noLoc b := fun h => h.elim (noLoc_ownc b) (fun ⟨_, h⟩ => by cases h)
theorem noLoc_hr (fm : Nat → Nat) (w : World) : HR fm w noLoc (hf (Z 0 [])) := by
  refine ⟨fun a o h => ?_, fun a h => ?_, fun a => ?_, fun a b g e c e' c' h => ?_, fun a g h => ?_⟩
  · simp [hf, Z] at h
  · rcases h with ⟨_, _, _, h⟩ | h <;> cases h
  · simp [noLoc, hf, Z]
  · cases h
  · cases h

section
variable {H : Type} {enc : TypeId × Value → H} {P : Program} {w : World} {base : Nat} {spare : Nat → Bool} {held : Bool} {fm : Nat → Nat}

structure BulkOK (bulk : DataW H → Nat) (all : List (DataW H) → Nat) : Prop where
  str : ∀ l : List UInt8, l.length + 1 ≤ bulk (.lit (.string l))
  slice : ∀ e s, all e + 1 ≤ bulk (.slice e s)
  agg : ∀ e, all e ≤ bulk (.agg e)
  nil : 1 ≤ bulk .nil
  lit : ∀ l, 1 ≤ bulk (.lit l)
  cons : ∀ d r, bulk d + all r ≤ all (d :: r)

def CellR (fm : Nat → Nat) (w : World) (cs : List Value) (o : Nat) (as : List AV) : Prop := ∀ j v a, cs[o + j]? = some v → as[j]? = some a → v.oneCell' = true ∧ VR fm w noLoc v a

variable (enc P w base spare held fm)
/-- A reading at this type is some 'x'. -/
def Reads (bulk : DataW H → Nat) (t : TypeId) (es : Nat) {X : Type} (e : X → List AV) (sz : X → Nat) (ok : X → Prop) : Prop :=
  ∀ fuel cs d ps, DataW.trod enc P w base spare held fuel t cs = some (d, ps) → ∃ x, ok x ∧ cs.length = es ∧ (e x).length = es ∧ sz x ≤ bulk d ∧ CellR fm w cs 0 (e x)

def ReadsF (all : List (DataW H) → Nat) (fs : List Field) (o es : Nat) {X : Type} (e : X → List AV) (sz : X → Nat) (ok : X → Prop) : Prop :=
  ∀ fuel cs xs, (fs.mapM fun f => DataW.trod enc P w base spare held fuel f.type ((cs.drop f.offset).take (P.cellsOf f.type))) = some xs → o + es ≤ cs.length →
    ∃ x, ok x ∧ (e x).length = es ∧ sz x ≤ all (xs.map (·.1)) ∧ CellR fm w cs o (e x)
variable {enc P w base spare held fm}

theorem Reads.conv {bulk : DataW H → Nat} {t : TypeId} {es : Nat} {X Y : Type} {e : X → List AV} {sz : X → Nat} {ok : X → Prop} {e' : Y → List AV} {sz' : Y → Nat} {ok' : Y → Prop}
    (h : Reads enc P w base spare held fm bulk t es e sz ok) (hc : ∀ x, ok x → ∃ y, ok' y ∧ e x = e' y ∧ sz' y ≤ sz x) : Reads enc P w base spare held fm bulk t es e' sz' ok' := by
  intro fuel cs d ps hd
  obtain ⟨x, h1, h2, h3, h4, h5⟩ := h fuel cs d ps hd
  obtain ⟨y, k1, k2, k3⟩ := hc x h1
  exact ⟨y, k1, h2, by rw [← k2]; exact h3, Nat.le_trans k3 h4, by rw [← k2]; exact h5⟩

theorem cellR_one {v : Value} {a : AV} (h1 : v.oneCell' = true) (h : VR fm w noLoc v a) : CellR fm w [v] 0 [a] := by
  intro j x y hx hy
  cases j with
  | zero => simp at hx hy; subst hx; subst hy; exact ⟨h1, h⟩
  | succ j => simp at hy

theorem reads_int {bulk : DataW H → Nat} {all : List (DataW H) → Nat} (hb : BulkOK bulk all) {t : TypeId} {k : IntKind} (ht : P.underlying t = some (.int k)) :
    Reads enc P w base spare held fm bulk t 1 (fun n : Int => [.v (.int k n)]) (fun _ => 1) (fun n => (Lit.int k n).wf = true) := by
  intro fuel cs d ps hd
  cases fuel with
  | zero => cases hd
  | succ fuel =>
    unfold DataW.trod at hd
    rw [ht] at hd
    simp only at hd
    split at hd <;> try cases hd
    all_goals (try (simp_all; done))
    rename_i k1 k2 n hk
    injection hk with hk; injection hk with hk; subst hk
    split at hd
    · rename_i hc
      injection hd with hd; injection hd with hd _; subst hd
      obtain ⟨rfl, hwf⟩ := hc
      exact ⟨n, hwf, rfl, rfl, hb.lit _, cellR_one rfl (.v _)⟩
    · cases hd

theorem reads_bool {bulk : DataW H → Nat} {all : List (DataW H) → Nat} (hb : BulkOK bulk all) {t : TypeId} (ht : P.underlying t = some .bool) :
    Reads enc P w base spare held fm bulk t 1 (fun b : Bool => [.v (.bool b)]) (fun _ => 1) (fun _ => True) := by
  intro fuel cs d ps hd
  cases fuel with
  | zero => cases hd
  | succ fuel =>
    unfold DataW.trod at hd
    rw [ht] at hd
    simp only at hd
    split at hd <;> try cases hd
    all_goals (try (simp_all; done))
    rename_i b hk
    exact ⟨b, trivial, rfl, rfl, hb.lit _, cellR_one rfl (.v _)⟩

theorem reads_str {bulk : DataW H → Nat} {all : List (DataW H) → Nat} (hb : BulkOK bulk all) {t : TypeId} (ht : P.underlying t = some .string) :
    Reads enc P w base spare held fm bulk t 1 (fun s : ByteArray => [.v (.string s)]) (fun s => s.size + 1) (fun _ => True) := by
  intro fuel cs d ps hd
  cases fuel with
  | zero => cases hd
  | succ fuel =>
    unfold DataW.trod at hd
    rw [ht] at hd
    simp only at hd
    split at hd <;> try cases hd
    all_goals (try (simp_all; done))
    rename_i s hk
    split at hd
    · injection hd with hd; injection hd with hd _; subst hd
      exact ⟨s, trivial, rfl, rfl, by have := hb.str s.data.toList; rw [Array.length_toList] at this; exact this, cellR_one rfl (.v _)⟩
    · cases hd

theorem mapM_some {α β : Type} {f : α → Option β} : ∀ {l : List α} {r : List β}, l.mapM f = some r → r.length = l.length ∧ ∀ (i : Nat) (x : α), l[i]? = some x → ∃ y, r[i]? = some y ∧ f x = some y
  | [], r, h => by simp at h; subst h; exact ⟨rfl, fun i x hx => by simp at hx⟩
  | a :: l, r, h => by
    rw [List.mapM_cons] at h
    cases h1 : f a with
    | none => simp [h1] at h
    | some b =>
      cases h2 : l.mapM f with
      | none => simp [h1, h2] at h
      | some bs =>
        simp [h1, h2] at h
        subst h
        obtain ⟨k1, k2⟩ := mapM_some h2
        refine ⟨by simp [k1], fun i x hx => ?_⟩
        cases i with
        | zero => simp at hx; subst hx; exact ⟨b, rfl, h1⟩
        | succ i => simpa using k2 i x (by simpa using hx)

theorem readsF_nil {all : List (DataW H) → Nat} (o : Nat) : ReadsF enc P w base spare held fm all [] o 0 (fun _ : Unit => []) (fun _ => 0) (fun _ => True) := by
  intro fuel cs xs h _
  exact ⟨(), trivial, rfl, Nat.zero_le _, fun j v a _ h => by simp at h⟩

theorem readsF_cons {bulk : DataW H → Nat} {all : List (DataW H) → Nat} (hb : BulkOK bulk all) {f : Field} {r : List Field} {o es es2 : Nat} {X Y : Type} {e : X → List AV} {sz : X → Nat} {ok : X → Prop}
    {e2 : Y → List AV} {sz2 : Y → Nat} {ok2 : Y → Prop} (ho : f.offset = o) (hc : P.cellsOf f.type = es) (h1 : Reads enc P w base spare held fm bulk f.type es e sz ok)
    (h2 : ReadsF enc P w base spare held fm all r (o + es) es2 e2 sz2 ok2) :
    ReadsF enc P w base spare held fm all (f :: r) o (es + es2) (fun x : X × Y => e x.1 ++ e2 x.2) (fun x => sz x.1 + sz2 x.2) (fun x => ok x.1 ∧ ok2 x.2) := by
  intro fuel cs xs h hle
  rw [List.mapM_cons] at h
  cases h3 : DataW.trod enc P w base spare held fuel f.type ((cs.drop f.offset).take (P.cellsOf f.type)) with
  | none => simp [h3] at h
  | some b =>
    cases h4 : (r.mapM fun f => DataW.trod enc P w base spare held fuel f.type ((cs.drop f.offset).take (P.cellsOf f.type))) with
    | none => simp [h3, h4] at h
    | some bs =>
      simp [h3, h4] at h
      subst h
      obtain ⟨x, k1, k2, k3, k4, k5⟩ := h1 fuel _ b.1 b.2 h3
      obtain ⟨y, j1, j2, j3, j4⟩ := h2 fuel cs bs h4 (by omega)
      refine ⟨(x, y), ⟨k1, j1⟩, by simp [k3, j2], ?_, fun j v a hv ha => ?_⟩
      · have := hb.cons b.1 (bs.map (·.1))
        show sz x + sz2 y ≤ all (b.1 :: bs.map (·.1))
        omega
      · replace ha : (e x ++ e2 y)[j]? = some a := ha
        by_cases hj : j < es
        · rw [List.getElem?_append_left (by omega)] at ha
          refine k5 j v a ?_ ha
          rw [ho, hc, List.getElem?_take, if_pos (by omega), List.getElem?_drop]
          simpa using hv
        · rw [List.getElem?_append_right (by omega), k3] at ha
          refine j4 (j - es) v a ?_ ha
          rw [show o + es + (j - es) = o + j by omega]; exact hv

theorem reads_struct {bulk : DataW H → Nat} {all : List (DataW H) → Nat} (hb : BulkOK bulk all) {t : TypeId} {fs : Array Field} {es : Nat} {X : Type} {e : X → List AV} {sz : X → Nat} {ok : X → Prop}
    (ht : P.underlying t = some (.struct fs)) (hc : P.cellsOf t = es) (h : ReadsF enc P w base spare held fm all fs.toList 0 es e sz ok) : Reads enc P w base spare held fm bulk t es e sz ok := by
  intro fuel cs d ps hd
  cases fuel with
  | zero => cases hd
  | succ fuel =>
    unfold DataW.trod at hd
    rw [ht] at hd
    simp only at hd
    have hd' : cs.length = P.cellsOf t ∧ ∃ xs, (fs.toList.mapM fun f => DataW.trod enc P w base spare held fuel f.type ((cs.drop f.offset).take (P.cellsOf f.type))) = some xs ∧ d = .agg (xs.map (·.1)) := by
      split at hd
      · rename_i hl
        simp only [Option.map_eq_some_iff] at hd
        obtain ⟨xs, h1, h2⟩ := hd
        injection h2 with h2 _
        exact ⟨hl, xs, h1, h2.symm⟩
      · cases hd
    obtain ⟨hl, xs, hx, rfl⟩ := hd'
    obtain ⟨x, k1, k2, k3, k4⟩ := h fuel cs xs hx (by omega)
    exact ⟨x, k1, by omega, k2, Nat.le_trans k3 (hb.agg _), k4⟩

theorem pick_list {X : Type} {Pr : Nat → X → Prop} : ∀ (n : Nat), (∀ i, i < n → ∃ x, Pr i x) → ∃ l : List X, l.length = n ∧ ∀ i x, l[i]? = some x → Pr i x
  | 0, _ => ⟨[], rfl, fun i x h => by simp at h⟩
  | n + 1, h => by
    obtain ⟨l, h1, h2⟩ := pick_list n (fun i hi => h i (by omega))
    obtain ⟨x, hx⟩ := h n (by omega)
    refine ⟨l ++ [x], by simp [h1], fun i y hy => ?_⟩
    by_cases hi : i < l.length
    · rw [List.getElem?_append_left hi] at hy; exact h2 i y hy
    · rw [List.getElem?_append_right (by omega)] at hy
      have : i - l.length = 0 := by
        have := (List.getElem?_eq_some_iff.1 hy).1; simp at this; omega
      rw [this] at hy
      simp at hy; subst hy
      have : i = n := by omega
      subst this; exact hx

theorem sum_bulk {bulk : DataW H → Nat} {all : List (DataW H) → Nat} (hb : BulkOK bulk all) {X : Type} {sz : X → Nat} : ∀ {l : List X} {ds : List (DataW H)}, l.length = ds.length → (∀ (i : Nat) (x : X) (d : DataW H), l[i]? = some x → ds[i]? = some d → sz x ≤ bulk d) → (l.map sz).sum ≤ all ds
  | [], [], _, _ => Nat.zero_le _
  | x :: l, d :: ds, hl, h => by
    have h1 := sum_bulk hb (l := l) (ds := ds) (by simpa using hl) (fun i y e hy he => h (i + 1) y e (by simpa using hy) (by simpa using he))
    have h2 := h 0 x d rfl rfl
    have := hb.cons d ds
    simp only [List.map_cons, List.sum_cons]
    omega
  | [], _ :: _, hl, _ => by simp at hl
  | _ :: _, [], hl, _ => by simp at hl

theorem add_plain {a : Addr} (h : a.spot = none) (n : Nat) : a.add n = ⟨a.block, a.off + n, none⟩ := by
  obtain ⟨b, o, s⟩ := a
  subst h
  unfold Addr.add
  split
  · rename_i h; subst h; rfl
  · rfl

theorem cells_get {w : World} {base : Nat} {a : Addr} {n : Nat} {cs : List Value} (h : w.cells? base a n = some cs) : cs.length = n ∧ ∀ j v, cs[j]? = some v → w.cell? (a.add j) = some v := by
  unfold World.cells? at h
  split at h
  · obtain ⟨h1, h2⟩ := mapM_some h
    refine ⟨by simpa using h1, fun j v hv => ?_⟩
    have hj : j < n := by have := (List.getElem?_eq_some_iff.1 hv).1; simp at h1; omega
    obtain ⟨y, k1, k2⟩ := h2 j j (by simp [hj])
    rw [hv] at k1; injection k1 with k1; subst k1; exact k2
  · cases h

theorem cell_spot {w : World} {a : Addr} {v : Value} (h : w.cell? a = some v) : a.spot = none ∧ a.block < w.heap.size := by
  unfold World.cell? at h
  split at h
  · rename_i c t f hc
    split at h
    · cases h
    · rename_i hs; exact ⟨by simpa using hs, (Array.getElem?_eq_some_iff.1 hc).1⟩
  · cases h

theorem slice_vr {u : TypeId} {es : Nat} {X : Type} {e : X → List AV} {sz : X → Nat} {ok : X → Prop} {bulk : DataW H → Nat} {all : List (DataW H) → Nat} (hb : BulkOK bulk all) (hes : 0 < es)
    (h : Reads enc P w base spare held fm bulk u es e sz ok) {fuel len cap : Nat} {a : Addr} (hlc : len ≤ cap) {elems : List (DataW H × List MemPlace)}
    (hm : ((List.range len).mapM fun i => (w.cells? base (a.add (i * es)) es).bind (DataW.trod enc P w base spare held fuel u)) = some elems) :
    ∃ l : List X, (∀ x ∈ l, ok x) ∧ (l.map sz).sum ≤ all (elems.map (·.1)) ∧ VR fm w noLoc (.slice (some a) len cap) (.rd es (l.map e)) := by
  obtain ⟨h1, h2⟩ := mapM_some hm
  simp only [List.length_range] at h1
  have each : ∀ i, i < len → ∃ x : X, ok x ∧ (e x).length = es ∧ (∀ d, elems[i]? = some d → sz x ≤ bulk d.1) ∧
      ∀ j c, (e x)[j]? = some c → ∃ v, w.cell? ((a.add (i * es)).add j) = some v ∧ v.oneCell' = true ∧ VR fm w noLoc v c := by
    intro i hi
    obtain ⟨y, k1, k2⟩ := h2 i i (by simp [hi])
    simp only [Option.bind_eq_some_iff] at k2
    obtain ⟨cs, k3, k4⟩ := k2
    obtain ⟨l1, l2⟩ := cells_get k3
    obtain ⟨x, m1, m2, m3, m4, m5⟩ := h fuel cs y.1 y.2 k4
    refine ⟨x, m1, m3, fun d hd => by rw [k1] at hd; injection hd with hd; subst hd; exact m4, fun j c hc => ?_⟩
    have hj : j < cs.length := by have := (List.getElem?_eq_some_iff.1 hc).1; omega
    have hv : cs[j]? = some cs[j] := List.getElem?_eq_getElem hj
    obtain ⟨n1, n2⟩ := m5 j cs[j] c (by simp) hc
    exact ⟨cs[j], l2 j _ hv, n1, n2⟩
  obtain ⟨l, g1, g2⟩ := pick_list len each
  refine ⟨l, fun x hx => ?_, sum_bulk hb (by simp [g1, h1]) (fun i x d hx hd => ?_), ?_⟩
  · obtain ⟨i, hi⟩ := List.mem_iff_getElem?.1 hx; exact (g2 i x hi).1
  · rw [List.getElem?_map] at hd
    cases hy : elems[i]? with
    | none => simp [hy] at hd
    | some y => simp [hy] at hd; subst hd; exact (g2 i x hx).2.2.1 y hy
  · by_cases h0 : len = 0
    · subst h0
      have : l = [] := List.length_eq_zero_iff.1 g1
      subst this
      exact .rd0 _ es cap
    · have hx0 : ∃ x, l[0]? = some x := ⟨l[0], List.getElem?_eq_getElem (by omega)⟩
      obtain ⟨x0, hx0⟩ := hx0
      obtain ⟨_, q1, _, q2⟩ := g2 0 x0 hx0
      obtain ⟨v0, r1, _⟩ := q2 0 ((e x0)[0]) (List.getElem?_eq_getElem (by omega))
      have hsp0 := cell_spot r1
      have hsp : a.spot = none ∧ a.block < w.heap.size := by
        have : (a.add (0 * es)).add 0 = a := by simp [Addr.add]
        rwa [this] at hsp0
      have haddr : ∀ i j, (a.add (i * es)).add j = ⟨a.block, a.off + i * es + j, none⟩ := by
        intro i j; rw [add_plain hsp.1, add_plain rfl]
      have ha : a = ⟨a.block, a.off, none⟩ := by
        obtain ⟨b, o, s⟩ := a
        have : s = none := hsp.1
        subst this; rfl
      have get : ∀ (i : Nat) (el : List AV) (j : Nat) (c : AV), (l.map e)[i]? = some el → el[j]? = some c → ∃ v, w.cell? ⟨a.block, a.off + i * es + j, none⟩ = some v ∧ v.oneCell' = true ∧ VR fm w noLoc v c := by
        intro i el j c hi hj
        rw [List.getElem?_map] at hi
        cases hx : l[i]? with
        | none => simp [hx] at hi
        | some x =>
          simp [hx] at hi; subst hi
          obtain ⟨v, t1, t2, t3⟩ := (g2 i x hx).2.2.2 j c hj
          rw [haddr] at t1
          exact ⟨v, t1, t2, t3⟩
      have hlen : (l.map e).length = len := by simp [g1]
      have := VR.rd (fm := fm) (w := w) (L := noLoc) a.block a.off cap es (l.map e) (fun i j => (w.cell? ⟨a.block, a.off + i * es + j, none⟩).getD undef)
        (fun hn => h0 (by rw [← hlen, hn]; rfl)) (fun el hel => by
          obtain ⟨x, hx, rfl⟩ := List.mem_map.1 hel
          obtain ⟨i, hi⟩ := List.mem_iff_getElem?.1 hx
          exact (g2 i x hi).2.1) hes (by rw [hlen]; exact hlc) (noLoc_owned _) hsp.2
        (fun i el j c hi hj => by obtain ⟨v, t1, _⟩ := get i el j c hi hj; rw [t1]; rfl)
        (fun i el j c hi hj => by obtain ⟨v, t1, t2, _⟩ := get i el j c hi hj; rw [t1]; exact t2)
        (fun i el j c hi hj => by obtain ⟨v, t1, _, t3⟩ := get i el j c hi hj; rw [t1]; exact t3)
      rw [hlen] at this
      rw [ha]; exact this

theorem reads_slice {bulk : DataW H → Nat} {all : List (DataW H) → Nat} (hb : BulkOK bulk all) {t u : TypeId} {es : Nat} {X : Type} {e : X → List AV} {sz : X → Nat} {ok : X → Prop}
    (ht : P.underlying t = some (.slice u)) (hc : P.cellsOf u = es) (hes : 0 < es) (h : Reads enc P w base spare held fm bulk u es e sz ok) :
    Reads enc P w base spare held fm bulk t 1 (fun l : List X => [.rd es (l.map e)]) (fun l => (l.map sz).sum + 1) (fun l => ∀ x ∈ l, ok x) := by
  intro fuel cs d ps hd
  cases fuel with
  | zero => cases hd
  | succ fuel =>
    unfold DataW.trod at hd
    rw [ht] at hd
    simp only at hd
    split at hd
    all_goals (try (simp_all; done))
    · rename_i hk
      injection hd with hd; injection hd with hd _; subst hd
      exact ⟨[], fun x hx => (by cases hx), rfl, rfl, by simpa using hb.nil, cellR_one rfl (.rd0 none es 0)⟩
    · rename_i u' a len cap hk
      injection hk with hk; injection hk with hk; subst hk
      rw [hc] at hd
      split at hd
      · rename_i hcond
        simp only [Option.bind_eq_some_iff, Option.map_eq_some_iff] at hd
        obtain ⟨elems, h1, rest, h2, h3⟩ := hd
        injection h3 with h3 _; subst h3
        obtain ⟨l, k1, k2, k3⟩ := slice_vr hb hes h hcond.2.1 h1
        refine ⟨l, k1, rfl, rfl, ?_, cellR_one rfl k3⟩
        have := hb.slice (elems.map (·.1)) (rest.map (·.1))
        show (l.map sz).sum + 1 ≤ _
        omega
      · cases hd

end
end Go.Abs
