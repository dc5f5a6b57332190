/- Regions; code; loops. No condition. -/
import Derived.Test.YtppagmmeofoekaaDoorA2
import Derived.KernelRfl
set_option linter.unusedVariables false
set_option linter.unusedSimpArgs false
set_option linter.unusedSectionVars false
namespace Go.Abs
set_option linter.unusedSimpArgs false
open Go Go.RowKit
def VI.ai (i : VI) : AI := ⟨i.dst, i.op.aop, i.guard, i.old, i.nw⟩
def VCode.er : VCode → ACode
  | .bad => .bad
  | .skip => .skip
  | .reg ops => .reg (ops.map VI.ai)
  | .seq a b => .seq a.er b.er
  | .cond c a b => .cond c.er a.er b.er
  | .blk id b => .blk id b.er
  | .loop _ b => .loop b.er
  | .jn _ b => b.er
  | .exit id => .exit id
  | .ret => .ret
  | .fz _ b => b.er
  | .ow _ b => b.er
  | .regN _ ops => .reg (ops.map VI.ai)
section
variable {Fr : Nat → Prop} {H0 : Heap} {β : Type} {r : β} {T : Tabs} {C : Ctx}
def MK (n0 : Nw) (m0 : Nat → Prop) (X : VHeap) (pl : Pl) (H : Heap) : Prop :=
  n0.1 ≤ X.length ∧ (∀ x, H.length ≤ x → m0 x) ∧ ∀ a x, pl (.m a) = some x → (isNew n0 a = false → ¬ m0 x) ∧ (isNew n0 a = true → m0 x)
theorem isNew_ge {n : Nw} {a : Nat} (h : n.1 ≤ a) : isNew n a = true := by unfold isNew; rw [Nat.ble_eq_true_of_le h]; rfl
structure RS (Fr : Nat → Prop) (H0 : Heap) (n0 : Nw) (m0 : Nat → Prop) (p0 : Nat × (Nat → Option Nat)) (b : Nat) (s : VSt) (st : ASt) : Prop where
  base : st.base = b
  kb : p0.1 ≤ s.heap.length
  ex : ∃ pl, ERel s.heap pl s.env st.env ∧ HRel Fr H0 s.heap pl st.heap ∧ (∀ i, i < p0.1 → ∀ x, pl (.m i) = some x → p0.2 i = some x) ∧ MK n0 m0 s.heap pl st.heap
theorem pk_ext {X : VHeap} {pl : Pl} {X' : VHeap} {pl' : Pl} {H' : Heap} (hx : Ext X pl X' pl') (hr' : HRel Fr H0 X' pl' H') {p0 : Nat × (Nat → Option Nat)} (hk : p0.1 ≤ X.length) (h : ∀ i, i < p0.1 → ∀ x, pl (.m i) = some x → p0.2 i = some x) :
    ∀ i, i < p0.1 → ∀ x, pl' (.m i) = some x → p0.2 i = some x := by
  intro i hi x hp
  obtain ⟨o, ho⟩ := hr'.own _ x hp
  rcases hx.keep i (by omega) with h' | ⟨o1, o', h1, h2, h3, h4, h5, _⟩
  · rw [ho] at h'; cases h'
  · rw [h5] at hp; exact h i hi x hp
theorem mk_gen {X : VHeap} {pl : Pl} {H : Heap} {n0 : Nw} {m0 : Nat → Prop} (hm : MK n0 m0 X pl H) {X' : VHeap} {pl' : Pl} {H' : Heap} (hr' : HRel Fr H0 X' pl' H') (hx : Ext X pl X' pl') (hl : H.length ≤ H'.length)
    (hn : ∀ a x, X.length ≤ a → pl' (.m a) = some x → H.length ≤ x) : MK n0 m0 X' pl' H' := by
  refine ⟨Nat.le_trans hm.1 hx.le, fun x h => hm.2.1 x (Nat.le_trans hl h), fun a x ha => ?_⟩
  obtain ⟨o, ho⟩ := hr'.own _ x ha
  have hal := vget_lt ho
  by_cases h : a < X.length
  · rcases hx.keep a h with h' | ⟨o1, o', h1, h2, h3, h4, h5, _⟩
    · rw [ho] at h'; cases h'
    · rw [h5] at ha; exact hm.2.2 a x ha
  · have h1 := hn a x (by omega) ha
    have hn' := isNew_ge (Nat.le_trans hm.1 (Nat.le_of_not_lt h))
    exact ⟨fun h => (by rw [hn'] at h; cases h), fun _ => hm.2.1 x h1⟩
theorem mk_nxt {X : VHeap} {pl : Pl} {H : Heap} {n0 : Nw} {m0 : Nat → Prop} (hm : MK n0 m0 X pl H) {X' : VHeap} {pl' : Pl} {H' : Heap} (hr' : HRel Fr H0 X' pl' H') (hx : Ext X pl X' pl') (hl : H.length ≤ H'.length)
    (hn : X'.length = X.length ∨ (X'.length = X.length + 1 ∧ pl' (.m X.length) = some H.length)) : MK n0 m0 X' pl' H' := by
  refine ⟨Nat.le_trans hm.1 hx.le, fun x h => hm.2.1 x (Nat.le_trans hl h), fun a x ha => ?_⟩
  obtain ⟨o, ho⟩ := hr'.own _ x ha
  have hal := vget_lt ho
  by_cases h : a < X.length
  · rcases hx.keep a h with h' | ⟨o1, o', h1, h2, h3, h4, h5, _⟩
    · rw [ho] at h'; cases h'
    · rw [h5] at ha; exact hm.2.2 a x ha
  · rcases hn with hn | ⟨hn, hp⟩
    · omega
    · have : a = X.length := by omega
      subst this
      rw [hp] at ha; injection ha with ha
      have hn' := isNew_ge hm.1
      exact ⟨fun h => (by rw [hn'] at h; cases h), fun _ => hm.2.1 x (by omega)⟩
theorem len_us (H : Heap) : ∀ us : List Upd, H.length ≤ (applyUs H us).length
  | [] => Nat.le_refl _
  | u :: us => by
    simp only [applyUs]
    refine Nat.le_trans ?_ (len_us _ us)
    cases u <;> simp [applyU]
theorem erel_put {X : VHeap} {pl : Pl} {env : VEnv} {ae : Env} (h : ERel X pl env ae) {d : Option Nat} {v : TV} {a : AV} (hv : TR X pl v a) : ERel X pl (vput env d v) (put ae d a) := by
  cases d with
  | none => exact h
  | some d =>
    intro t
    simp only [vput, put, vlook, lookE]
    have e0 : (d == t) = Nat.beq d t := by rw [Bool.eq_iff_iff, beq_iff_eq, Nat.beq_eq]
    rw [e0]
    cases Nat.beq d t with
    | true => exact hv
    | false => exact h t
theorem oldC_ok {X : VHeap} {pl : Pl} {H : Heap} {n0 : Nw} {m0 : Nat → Prop} (hm : MK n0 m0 X pl H) {v : TV} {a : AV} (h : oldC X n0 v = true) (ht : TR X pl v a) : (∀ i off len, a = .ref i off len → ¬ m0 i) ∧ (∀ i j k, a = .ptr i j k → ¬ m0 i) ∧ (∀ cs, a ≠ .agg cs) ∧ (∀ f cs, a ≠ .clo f cs ∨ ∃ g ds, v = .clo g ds) := by
  cases v with
  | ref x =>
    simp only [oldC, Bool.and_eq_true] at h
    obtain ⟨o, ho⟩ := Option.isSome_iff_exists.1 h.1
    obtain ⟨y, n, rfl, hp, _⟩ := ref_inv ho ht
    have := (hm.2.2 x y hp).1 (by simpa using h.2)
    exact ⟨fun i off len e => (by injection e with e; subst e; exact this), fun i j k e => (by cases e), fun cs e => (by cases e), fun f cs => .inl (fun e => by cases e)⟩
  | pre x n =>
    simp only [oldC, Bool.and_eq_true] at h
    obtain ⟨o, ho⟩ := Option.isSome_iff_exists.1 h.1
    obtain ⟨y, n, rfl, hp, _⟩ := pre_inv ho ht
    have := (hm.2.2 x y hp).1 (by simpa using h.2)
    exact ⟨fun i off len e => (by injection e with e; subst e; exact this), fun i j k e => (by cases e), fun cs e => (by cases e), fun f cs => .inl (fun e => by cases e)⟩
  | ptr x i j =>
    simp only [oldC, Bool.and_eq_true] at h
    obtain ⟨o, ho⟩ := Option.isSome_iff_exists.1 h.1
    obtain ⟨y, rfl, hp, _⟩ := ptr_inv ho ht
    have := (hm.2.2 x y hp).1 (by simpa using h.2)
    exact ⟨fun i off len e => (by cases e), fun i j k e => (by injection e with e; subst e; exact this), fun cs e => (by cases e), fun f cs => .inl (fun e => (by cases e))⟩
  | u => cases h
  | np _ => cases h
  | sub _ _ _ => cases h
  | pti _ _ _ _ _ => cases h
  | v _ => cases h
  | ag _ => cases h
  | clo g ds => cases ht with
    | clo _ _ as => exact ⟨fun i off len e => (by cases e), fun i j k e => (by cases e), fun cs e => (by cases e), fun f cs => .inr ⟨_, _, rfl⟩⟩
  | i k n => cases ht; exact ⟨fun i off len e => (by cases e), fun i j k e => (by cases e), fun cs e => (by cases e), fun f cs => .inl (fun e => by cases e)⟩
  | b x => cases ht; exact ⟨fun i off len e => (by cases e), fun i j k e => (by cases e), fun cs e => (by cases e), fun f cs => .inl (fun e => by cases e)⟩
  | s x => cases ht; exact ⟨fun i off len e => (by cases e), fun i j k e => (by cases e), fun cs e => (by cases e), fun f cs => .inl (fun e => by cases e)⟩
  | e c => cases ht; exact ⟨fun i off len e => (by cases e), fun i j k e => (by cases e), fun cs e => (by cases e), fun f cs => .inl (fun e => by cases e)⟩
  | l c v =>
    cases ht with
    | l _ _ _ hc => rcases coe_rd hc with ⟨rfl, _⟩ | ⟨l0, rfl, _⟩ <;> exact ⟨fun i off len e => (by cases e), fun i j k e => (by cases e), fun cs e => (by cases e), fun f cs => .inl (fun e => by cases e)⟩
  | rp cs => cases ht; exact ⟨fun i off len e => (by cases e), fun i j k e => (by cases e), fun cs e => (by cases e), fun f cs => .inl (fun e => by cases e)⟩
  | lt cs => cases ht; exact ⟨fun i off len e => (by cases e), fun i j k e => (by cases e), fun cs e => (by cases e), fun f cs => .inl (fun e => by cases e)⟩
  | tp cs => cases ht; exact ⟨fun i off len e => (by cases e), fun i j k e => (by cases e), fun cs e => (by cases e), fun f cs => .inl (fun e => by cases e)⟩
theorem oldB_ok {X : VHeap} {pl : Pl} {H : Heap} {n0 : Nw} {m0 : Nat → Prop} (hm : MK n0 m0 X pl H) {v : TV} {a : AV} (h : oldB X n0 v = true) (ht : TR X pl v a) : (∀ i, nm1 i a → ¬ m0 i) ∧ (∀ i j k, a = .ptr i j k → ¬ m0 i) ∧ (∀ cs, a = .agg cs → ∀ i off len, AV.ref i off len ∈ cs → ¬ m0 i) ∧ (∀ f cs, a ≠ .clo f cs ∨ ∃ g ds, v = .clo g ds) := by
  have gen : oldC X n0 v = true → (∀ i, nm1 i a → ¬ m0 i) ∧ (∀ i j k, a = .ptr i j k → ¬ m0 i) ∧ (∀ cs, a = .agg cs → ∀ i off len, AV.ref i off len ∈ cs → ¬ m0 i) ∧ (∀ f cs, a ≠ .clo f cs ∨ ∃ g ds, v = .clo g ds) := by
    intro h
    obtain ⟨h1, h2, h3, h4⟩ := oldC_ok hm h ht
    refine ⟨fun i hn => ?_, h2, fun cs e => absurd e (h3 cs), h4⟩
    cases a with
    | ref x off len => have hn : i = x := hn; subst hn; exact h1 _ _ _ rfl
    | agg cs => exact absurd rfl (h3 cs)
    | _ => exact hn.elim
  cases v with
  | ag cs =>
    cases ht with
    | ag _ as hl hc =>
      have key : ∀ i off len, AV.ref i off len ∈ as → ¬ m0 i := by
        intro i off len hmem
        obtain ⟨j, hj⟩ := List.mem_iff_getElem?.1 hmem
        obtain ⟨c, hcj⟩ := get_pair hl hj
        have := List.all_eq_true.1 (show cs.all (oldC X n0) = true from h) c (List.mem_of_getElem? hcj)
        exact (oldC_ok hm this (hc j c _ hcj hj)).1 i off len rfl
      exact ⟨fun i ⟨off, len, hn⟩ => key i off len hn, fun i j k e => (by cases e), fun cs' e i off len hn => (by injection e with e; subst e; exact key i off len hn), fun f cs => .inl (fun e => by cases e)⟩
  | _ => exact gen h
theorem oldT_ok {X : VHeap} {pl : Pl} {H : Heap} {n0 : Nw} {m0 : Nat → Prop} (hm : MK n0 m0 X pl H) {v : TV} {a : AV} (h : oldT X n0 v = true) (ht : TR X pl v a) : oldAV m0 a := by
  have gen : oldB X n0 v = true → (∀ g ds, v ≠ .clo g ds) → oldAV m0 a := by
    intro h hn
    obtain ⟨h1, h2, h3, h4⟩ := oldB_ok hm h ht
    cases a with
    | ref x off len => exact h1 x rfl
    | ptr x i j => exact h2 x i j rfl
    | agg cs => exact h3 cs rfl
    | clo f cs => rcases h4 f cs with e | ⟨g, ds, e⟩
                  · exact absurd rfl e
                  · exact absurd e (hn g ds)
    | _ => trivial
  cases v with
  | clo g cs =>
    cases ht with
    | clo _ _ as hl hc =>
      intro i c hmem hn
      obtain ⟨j, hj⟩ := List.mem_iff_getElem?.1 hmem
      obtain ⟨d, hd⟩ := get_pair hl hj
      have := List.all_eq_true.1 (show cs.all (oldB X n0) = true from h) d (List.mem_of_getElem? hd)
      exact (oldB_ok hm this (hc j d c hd hj)).1 i hn
  | _ => exact gen h (fun g ds e => by cases e)
theorem newT_ok {X : VHeap} {pl : Pl} {H : Heap} {n0 : Nw} {m0 : Nat → Prop} (hm : MK n0 m0 X pl H) {v : TV} {a : AV} (h : newT X n0 v = true) (ht : TR X pl v a) : newAV m0 a := by
  cases v with
  | ref x =>
    simp only [newT, Bool.and_eq_true] at h
    obtain ⟨o, ho⟩ := Option.isSome_iff_exists.1 h.1
    obtain ⟨y, n, rfl, hp, _⟩ := ref_inv ho ht
    exact (hm.2.2 x y hp).2 (by simpa using h.2)
  | ptr x i j =>
    simp only [newT, Bool.and_eq_true] at h
    obtain ⟨o, ho⟩ := Option.isSome_iff_exists.1 h.1
    obtain ⟨y, rfl, hp, _⟩ := ptr_inv ho ht
    exact (hm.2.2 x y hp).2 (by simpa using h.2)
  | i k n => cases ht; trivial
  | b x => cases ht; trivial
  | s x => cases ht; trivial
  | e c => cases ht; trivial
  | l c v =>
    cases ht with
    | l _ _ _ hc => rcases coe_rd hc with ⟨rfl, _⟩ | ⟨l0, rfl, _⟩ <;> trivial
  | _ => cases h
theorem touched_er (op : VOp) : op.aop.touched = op.touched.map VOpd.er := by
  cases op <;> rfl
theorem allOld_v {X : VHeap} {pl : Pl} {H : Heap} {n0 : Nw} {m0 : Nat → Prop} (hm : MK n0 m0 X pl H) {env : VEnv} {ae : Env} (he : ERel X pl env ae) : ∀ l : List VOpd, (l.all fun x => oldT X n0 (vo env x)) = true → allOld m0 ae (l.map VOpd.er)
  | [], _ => trivial
  | x :: l, h => by
    simp only [List.all_cons, Bool.and_eq_true] at h
    exact ⟨oldT_ok hm h.1 (vo_ok he x), allOld_v hm he l h.2⟩
theorem nw_v {X : VHeap} {pl : Pl} {H : Heap} {n0 : Nw} {m0 : Nat → Prop} (hm : MK n0 m0 X pl H) {env : VEnv} {ae : Env} (he : ERel X pl env ae) {op : VOp} (h : nwT X n0 env op = true) : nwC m0 ae op.aop := by
  cases op with
  | app c w s x => exact newT_ok hm h (vo_ok he s)
  | store n x y => exact newT_ok hm h (vo_ok he x)
  | appD c s x => intro y hy; have : y = s.er := by simpa [XOp.look] using hy
                  subst this; exact newT_ok hm h (vo_ok he s)
  | apps s x => intro y hy; have : y = s.er := by simpa [XOp.look] using hy
                subst this; exact newT_ok hm h (vo_ok he s)
  | appb s x => intro y hy; have : y = s.er := by simpa [XOp.look] using hy
                subst this; exact newT_ok hm h (vo_ok he s)
  | appDb s x => intro y hy; have : y = s.er := by simpa [XOp.look] using hy
                 subst this; exact newT_ok hm h (vo_ok he s)
  | _ => cases h
theorem frNo {H0 : Heap} : FrOK (fun _ => False) H0 := fun _ h => h.elim
theorem vop_ok (hT : TOK T C) (hfr : FrOK Fr H0) {op : VOp} {env : VEnv} {ae : Env} {X : VHeap} {pl : Pl} {H : Heap} {n0 : Nw} {m0 : Nat → Prop} {K : TV → VHeap → Option β} (h : vop T op env X K = some r) (he : ERel X pl env ae) (hr : HRel Fr H0 X pl H) (hm : MK n0 m0 X pl H)
    {KA : AV → Heap → Prop} (hk : ∀ v X' va H' pl', K v X' = some r → TR X' pl' v va → HRel Fr H0 X' pl' H' → Ext X pl X' pl' → MK n0 m0 X' pl' H' → KA va H') : evOp C op.aop ae H KA := by
  have gen : vG op env X K = some r → evG op.aop ae (hf H) H.length (fun v us => KA v (applyUs H us)) := fun h =>
    vG_ok h he hr (fun v X' va us h1 ⟨pl', k1, k2, k3⟩ => hk v X' va _ pl' h1 k1 k2.1 k2.2 (mk_nxt hm k2.1 k2.2 (len_us H us) k3))
  have call : ∀ {g : Nat} {args : List TV} {as : List AV}, vcall T g args X K = some r → CT X pl args as → callK C g as H KA := by
    intro g args as h hc
    unfold vcall at h
    cases hp : T.pf g with
    | true =>
      rw [hp, cond_true] at h
      exact vcallP_ok hT.p hp h hc hr (fun v va h1 h2 => hk v X va H pl h1 h2 hr (Ext.refl _ _) hm)
    | false =>
      rw [hp, cond_false] at h
      exact vcallI_ok hT hp h hc hr hfr (fun v X' va H' pl' h1 h2 h3 h4 h5 h6 => hk v X' va H' pl' h1 h2 h3 h4 (mk_gen hm h3 h4 h5 h6))
  unfold vop at h
  split at h
  · rename_i g args
    exact call h (map_ok he args)
  · rename_i x args
    have hx := vo_ok he x
    split at h
    · rename_i f cs e1
      rw [e1] at hx
      simp only [VOp.aop, evOp, opK]
      generalize opd ae x.er = ax at hx ⊢
      cases hx with
      | clo _ _ as hl hc => exact ⟨f, as, rfl, call h ((map_ok he args).append ⟨hl, hc⟩)⟩
    · cases h
  · rename_i x args
    have hx := vo_ok he x
    split at h
    · rename_i f cs e1
      obtain ⟨hp, h⟩ := cond_ok h
      rw [e1] at hx
      simp only [VOp.aop, evOp, opK]
      generalize opd ae x.er = ax at hx ⊢
      cases hx with
      | clo _ _ as hl hc => exact ⟨f, as, rfl, by rw [hT.p.pf]; exact hp, call h ((map_ok he args).append ⟨hl, hc⟩)⟩
    · cases h
  · rename_i h1 h2 h3
    have := gen h
    cases op <;> first | exact this | exact absurd rfl (h1 _ _) | exact absurd rfl (h2 _ _) | exact absurd rfl (h3 _ _)
theorem vops_ok (hT : TOK T C) (hfr : FrOK Fr H0) {n0 : Nw} {m0 : Nat → Prop} {b : Nat} {p0 : Nat × (Nat → Option Nat)} : ∀ {ops : List VI} {s : VSt} {K : VSt → Option β} {st : ASt}, vops T n0 ops s K = some r → RS Fr H0 n0 m0 p0 b s st → ∀ {KA : ASt → Prop},
    (∀ s' st', K s' = some r → RS Fr H0 n0 m0 p0 b s' st' → KA st') → evOps C m0 (ops.map VI.ai) KA st
  | [], s, K, st, h, hs, KA, hk => hk s st h hs
  | i :: ops, ⟨env, X⟩, K, ⟨ae, H, b0⟩, h, ⟨hb, hkb, pl, he, hr, hpk, hm⟩, KA, hk => by
    have hb : b0 = b := hb
    subst hb
    simp only [vops] at h
    simp only [List.map_cons, evOps]
    have rec' : ∀ s' st', vops T n0 ops s' K = some r → RS Fr H0 n0 m0 p0 b0 s' st' → evOps C m0 (ops.map VI.ai) KA st' := fun s' st' h1 h2 => vops_ok hT hfr h1 h2 hk
    have go : ∀ {env : VEnv} {ae : Env}, ERel X pl env ae → vgo T n0 i env X (fun s' => vops T n0 ops s' K) = some r →
        evOpF C m0 i.old i.nw i.op.aop ae H (fun v H' => evOps C m0 (ops.map VI.ai) KA ⟨put ae i.dst v, H', b0⟩) := by
      intro env ae he h
      unfold vgo at h
      obtain ⟨hmk, h⟩ := cond_ok h
      simp only [okM, Bool.and_eq_true, Bool.or_eq_true, Bool.not_eq_true'] at hmk
      refine ⟨fun hold => ?_, fun hnw => ?_, vop_ok hT hfr h he hr hm (fun v X' va H' pl' h1 h2 h3 h4 h5 => rec' _ _ h1 ⟨rfl, Nat.le_trans hkb h4.le, pl', erel_put (he.ext h4) h2, h3, pk_ext h4 h3 hkb hpk, h5⟩)⟩
      · rw [touched_er]
        rcases hmk.1 with h1 | h1
        · rw [h1] at hold; cases hold
        · exact allOld_v hm he _ h1
      · rcases hmk.2 with h1 | h1
        · rw [h1] at hnw; cases hnw
        · exact nw_v hm he h1
    have skip : ∀ {env : VEnv} {ae : Env}, ERel X pl env ae → vops T n0 ops ⟨vput env i.dst undV, X⟩ K = some r → evOps C m0 (ops.map VI.ai) KA ⟨put ae i.dst (.v undef), H, b0⟩ :=
      fun he h => rec' _ _ h ⟨rfl, hkb, pl, erel_put he (.v _), hr, hpk, hm⟩
    have her : ∀ {g : Nat} {t : Bool}, ERel X pl ((g, .b t) :: env) ((g, .v (.bool t)) :: ae) := fun {g t} => erel_put (d := some g) he (.b t)
    unfold vai at h
    unfold evAI
    have e1 : (VI.ai i).guard = i.guard := rfl
    rw [e1]
    split at h
    · rename_i hg
      rw [hg]
      exact go he h
    · rename_i g w hg
      rw [hg]
      have hgt := he g
      simp only at h
      split at h
      · rename_i t hx
        rw [hx] at hgt
        have hv : opd ae (.t g) = .v (.bool t) := by
          show lookE ae g = _
          generalize lookE ae g = a at hgt ⊢
          cases hgt; rfl
        cases w with
        | true =>
          simp only [opK]
          refine .inl ⟨t, hv, fun ht => ?_, fun ht => ?_⟩
          · subst ht; exact go her h
          · subst ht; exact skip her h
        | false =>
          simp only [opK]
          refine .inl ⟨t, hv, fun ht => ?_, fun ht => ?_⟩
          · subst ht; exact skip her h
          · subst ht; exact go her h
      · rename_i hx
        rw [hx] at hgt
        have hv : opd ae (.t g) = .v undef := by
          show lookE ae g = _
          generalize lookE ae g = a at hgt ⊢
          cases hgt; rfl
        have := skip he h
        cases w <;> exact .inr ⟨hv, this⟩
      · cases h
structure VS (Fr : Nat → Prop) (H0 : Heap) (p0 : Nat × (Nat → Option Nat)) (b : Nat) (s : VSt) (st : ASt) : Prop where
  base : st.base = b
  kb : p0.1 ≤ s.heap.length
  ex : ∃ pl, ERel s.heap pl s.env st.env ∧ HRel Fr H0 s.heap pl st.heap ∧ ∀ i, i < p0.1 → ∀ x, pl (.m i) = some x → p0.2 i = some x
theorem RS.vs {n0 : Nw} {m0 : Nat → Prop} {b : Nat} {p0 : Nat × (Nat → Option Nat)} {s : VSt} {st : ASt} (h : RS Fr H0 n0 m0 p0 b s st) : VS Fr H0 p0 b s st := ⟨h.base, h.kb, by obtain ⟨pl, h1, h2, h3, _⟩ := h.ex; exact ⟨pl, h1, h2, h3⟩⟩
theorem VS.rs {b : Nat} {p0 : Nat × (Nat → Option Nat)} {s : VSt} {st : ASt} (h : VS Fr H0 p0 b s st) (S : List Nat) : ∃ m0, (∀ x, st.heap.length ≤ x → m0 x) ∧ RS Fr H0 (s.heap.length, S) m0 p0 b s st := by
  obtain ⟨pl, h1, h2, h3⟩ := h.ex
  have hnew : ∀ a x, pl (.m a) = some x → (isNew (s.heap.length, S) a = true ↔ a ∈ S) := fun a x ha => by
    obtain ⟨o, ho⟩ := h2.own _ x ha
    have := vget_lt ho
    unfold isNew
    have hb : Nat.ble s.heap.length a = false := by
      cases hq : Nat.ble s.heap.length a with
      | false => rfl
      | true => have := Nat.le_of_ble_eq_true hq; omega
    rw [hb, Bool.false_or]
    exact any_mem
  refine ⟨fun x => st.heap.length ≤ x ∨ ∃ a ∈ S, pl (.m a) = some x, fun x hx => .inl hx, h.base, h.kb, pl, h1, h2, h3, Nat.le_refl _, fun x hx => .inl hx, fun a x ha => ⟨fun hn hm => ?_, fun hn => .inr ⟨a, (hnew a x ha).1 hn, ha⟩⟩⟩
  rcases hm with hm | ⟨c, hc, hcx⟩
  · have := h2.bd ha; omega
  · have := h2.inj _ _ _ ha hcx
    injection this with this; subst this
    rw [(hnew a x ha).2 hc] at hn; cases hn
def LpSound (Fr : Nat → Prop) (H0 : Heap) (kb : Nat) (C : Ctx) (code : ACode) (e : LpE) : Prop :=
  ∀ x y, e.F x = some y → ∀ s, e.g.fill x = some s → ∀ q b st, VS Fr H0 (kb, q) b s st → Sat C code (fun ex st' => ∃ s', altK e.outs y (fun o z => o.ex = ex ∧ o.g.fill z = some s') ∧ VS Fr H0 (kb, q) b s' st') st
def LsOK (Fr : Nat → Prop) (H0 : Heap) (C : Ctx) (T : Tabs) : VCode → Prop
  | .seq a b => LsOK Fr H0 C T a ∧ LsOK Fr H0 C T b
  | .cond _ a b => LsOK Fr H0 C T a ∧ LsOK Fr H0 C T b
  | .blk _ b => LsOK Fr H0 C T b
  | .fz _ b => LsOK Fr H0 C T b
  | .ow _ b => LsOK Fr H0 C T b
  | .loop lid b => ∀ e, findL lid T.ls = some e → LpSound Fr H0 T.kb C (.loop b.er) e
  | .jn lid b => ∀ e, findL lid T.ls = some e → LpSound Fr H0 T.kb C b.er e
  | _ => True
theorem alt_pick : ∀ (os : List Out1) (y : Alt os), ∃ (o : Out1) (z : o.g.c.den), ∀ {γ : Type} (k : (o : Out1) → o.g.c.den → γ), altK os y k = k o z
  | [o], y => ⟨o, y, fun k => rfl⟩
  | o :: o' :: r, .inl x => ⟨o, x, fun k => rfl⟩
  | o :: o' :: r, .inr z => by
    obtain ⟨o1, z1, h⟩ := alt_pick (o' :: r) z
    exact ⟨o1, z1, fun k => h k⟩
  | [], y => nomatch y
theorem vsub_ok {lid b : Nat} {s : VSt} {K : Ex → VSt → Option β} {st : ASt} {code : ACode} {q : Nat → Option Nat} (h : vsub T lid s K = some r) (hs : VS Fr H0 (T.kb, q) b s st) (hl : ∀ e, findL lid T.ls = some e → LpSound Fr H0 T.kb C code e)
    {Q : Ex → ASt → Prop} (hk : ∀ e s' st', K e s' = some r → VS Fr H0 (T.kb, q) b s' st' → Q e st') : Sat C code Q st := by
  unfold vsub at h
  split at h
  · rename_i e he
    cases hkp : keepV T.kb e.g.ts (ownV e.own s) with
    | mk vs X =>
      rw [hkp] at h
      simp only at h
      split at h
      · rename_i x hx
        cases hy : e.F x with
        | none => rw [hy] at h; cases h
        | some y =>
          rw [hy] at h
          simp only [Option.bind_some] at h
          obtain ⟨hb, hkb, pl, h1, h2, hpk⟩ := hs
          obtain ⟨st1, pl1, k1, k2, k3, k4, k8, k9⟩ := own_ok (ws := e.own) hb h1 h2
          obtain ⟨pl2, k5, k6, k7, k10⟩ := keep_ok (env := (ownV e.own s).env) (X := (ownV e.own s).heap) k3 k4 (Nat.le_trans hkb k8) hkp
          refine Sat.wk k1 ((hl e he x y hy _ (read_fill hx) q b st1 ⟨k2, k7, pl2, k5, k6, fun i hi z hz => hpk i hi z (k9 i (Nat.lt_of_lt_of_le hi hkb) z (k10 i hi z hz))⟩).mono (fun ex st' hq => ?_))
          obtain ⟨s', g1, g2⟩ := hq
          obtain ⟨o, z, hpk⟩ := alt_pick e.outs y
          rw [hpk] at g1 h
          obtain ⟨rfl, g1⟩ := g1
          rw [g1] at h
          exact hk _ _ _ h g2
      · cases h
  · cases h
theorem frzV_ok' {b : Nat} {p0 : Nat × (Nat → Option Nat)} {ts : List Nat} {s : VSt} {st : ASt} (hFr : FrOK Fr H0) (hnh : noHole s.heap = true) (hs : VS Fr H0 p0 b s st) : ∃ st', Wk st st' ∧ VS Fr H0 p0 b (frzV ts s) st' := by
  obtain ⟨env, X⟩ := s
  obtain ⟨ae, H, b0⟩ := st
  obtain ⟨hb, hkb, pl, h1, h2, hpk⟩ := hs
  have hF : ∀ a ∈ (ts.flatMap fun t => frzIds X (vlook env t)), isSeq X a = true := by
    intro a ha
    obtain ⟨t, _, ha⟩ := List.mem_flatMap.1 ha
    unfold frzIds at ha
    split at ha
    · split at ha
      · exact (List.mem_filter.1 ha).2
      · simp at ha
    · exact (List.mem_filter.1 ha).2
  obtain ⟨ae', H', k1, k2, k3⟩ := frz_ok (b := b0) hFr h1 h2 hF (fun {a c v h l} ho => by
    have hlt := vget_lt ho
    have : ∀ {X : VHeap} {a : Nat}, noHole X = true → vget X a = some (.fm c v h l) → h = none := by
      intro X
      induction X with
      | nil => intro a _ h; cases h
      | cons o X ih =>
        intro a hn hg
        simp only [noHole, List.all_cons, Bool.and_eq_true] at hn
        cases a with
        | zero =>
          simp only [vget] at hg; subst hg
          cases h with
          | none => rfl
          | some i => simp at hn
        | succ a => exact ih hn.2 hg
    exact this hnh ho)
  refine ⟨⟨ae', H', b0⟩, k1, hb, ?_, _, k2, k3, fun i hi x hx => hpk i hi x ?_⟩
  · show p0.1 ≤ (frzX X _).length
    rw [frz_len]; exact hkb
  · unfold plF at hx
    split at hx
    · cases hx
    · exact hx
theorem ev_ok (hT : TOK T C) (hfr : FrOK Fr H0) {b : Nat} {q : Nat → Option Nat} : ∀ {code : VCode} {s : VSt} {K : Ex → VSt → Option β} {st : ASt}, ev T code s K = some r → LsOK Fr H0 C T code → VS Fr H0 (T.kb, q) b s st → ∀ {Q : Ex → ASt → Prop},
    (∀ e s' st', K e s' = some r → VS Fr H0 (T.kb, q) b s' st' → Q e st') → Sat C code.er Q st
  | .bad, s, K, st, h, _, hs, Q, hk => by cases h
  | .skip, s, K, st, h, _, hs, Q, hk => sat_skip (hk _ _ _ h hs)
  | .exit id, s, K, st, h, _, hs, Q, hk => sat_exit (hk _ _ _ h hs)
  | .ret, s, K, st, h, _, hs, Q, hk => sat_ret (hk _ _ _ h hs)
  | .reg ops, s, K, st, h, _, hs, Q, hk => by
    simp only [ev] at h
    obtain ⟨m0, k1, k2⟩ := hs.rs []
    exact sat_regN k1 (vops_ok hT hfr h k2 (fun s' st' h1 h2 => hk _ _ _ h1 h2.vs))
  | .regN ns ops, s, K, st, h, hl, hs, Q, hk => by
    simp only [ev] at h
    obtain ⟨m0, k1, k2⟩ := hs.rs (ns.flatMap fun t => (vlook s.env t).ids)
    exact sat_regN k1 (vops_ok hT hfr h k2 (fun s' st' h1 h2 => hk _ _ _ h1 h2.vs))
  | .seq x y, s, K, st, h, hl, hs, Q, hk => by
    simp only [ev] at h
    refine sat_seq (ev_ok hT hfr h hl.1 hs (fun e s' st' h1 h2 => ?_))
    cases e with
    | nor => exact ev_ok hT hfr h1 hl.2 h2 hk
    | exit id => exact hk _ _ _ h1 h2
    | ret => exact hk _ _ _ h1 h2
  | .cond c x y, s, K, st, h, hl, hs, Q, hk => by
    simp only [ev] at h
    obtain ⟨hb, hkb, pl, he, hr, hpk⟩ := hs
    have hc := vo_ok he c
    split at h
    · rename_i t ht
      rw [ht] at hc
      have hv : opd st.env c.er = .v (.bool t) := by
        generalize opd st.env c.er = a at hc ⊢
        cases hc; rfl
      have hs' : ∀ t, VS Fr H0 (T.kb, q) b (refV s c t) (refine1 st c.er t) ∨ vo s.env c ≠ .b t := by
        intro t'
        by_cases e : t' = t
        · subst e
          left
          cases c with
          | t g => exact ⟨hb, hkb, pl, erel_put (d := some g) he (.b t'), hr, hpk⟩
          | c k => exact ⟨hb, hkb, pl, he, hr, hpk⟩
        · right; rw [ht]; intro h'; injection h' with h'; exact e h'.symm
      refine sat_cond (b := t) hv (fun e => ?_) (fun e => ?_)
      · subst e; rw [cond_true] at h
        exact ev_ok hT hfr h hl.1 ((hs' true).resolve_right (fun hn => hn ht)) hk
      · subst e; rw [cond_false] at h
        exact ev_ok hT hfr h hl.2 ((hs' false).resolve_right (fun hn => hn ht)) hk
    · cases h
  | .blk id x, s, K, st, h, hl, hs, Q, hk => by
    simp only [ev] at h
    refine sat_blk (ev_ok hT hfr h hl hs (fun e s' st' h1 h2 => ?_))
    cases e with
    | nor => exact hk _ _ _ h1 h2
    | ret => exact hk _ _ _ h1 h2
    | exit id' =>
      simp only [Ex.blk]
      have e0 : (id' == id) = Nat.beq id' id := by rw [Bool.eq_iff_iff, beq_iff_eq, Nat.beq_eq]
      rw [e0]
      simp only at h1
      cases hq : Nat.beq id' id with
      | true => rw [hq, cond_true] at h1; exact hk _ _ _ h1 h2
      | false => rw [hq, cond_false] at h1; exact hk _ _ _ h1 h2
  | .loop lid x, s, K, st, h, hl, hs, Q, hk => by
    simp only [ev] at h
    exact vsub_ok h hs hl hk
  | .jn lid x, s, K, st, h, hl, hs, Q, hk => by
    simp only [ev] at h
    exact vsub_ok h hs hl hk
  | .fz ts x, s, K, st, h, hl, hs, Q, hk => by
    simp only [ev] at h
    obtain ⟨h1, h2⟩ := cond_ok h
    obtain ⟨st', k1, k2⟩ := frzV_ok' (ts := ts) hfr h1 hs
    exact Sat.wk k1 (ev_ok hT hfr h2 hl k2 hk)
  | .ow ws x, s, K, st, h, hl, hs, Q, hk => by
    simp only [ev] at h
    obtain ⟨hb, hkb, pl, h1, h2, hpk⟩ := hs
    obtain ⟨st1, pl1, k1, k2, k3, k4, k8, k9⟩ := own_ok (ws := ws) hb h1 h2
    exact Sat.wk k1 (ev_ok hT hfr h hl ⟨k2, Nat.le_trans hkb k8, pl1, k3, k4, fun i hi z hz => hpk i hi z (k9 i (Nat.lt_of_lt_of_le hi hkb) z hz)⟩ hk)
theorem findO_ok {e : Ex} : ∀ {os : List Out1} {n m : Nat}, findO e os n = some m → ∃ k o, m = n + k ∧ os[k]? = some o ∧ o.ex = e
  | [], n, m, h => by cases h
  | o :: r, n, m, h => by
    simp only [findO] at h
    cases hq : exEq o.ex e with
    | true =>
      rw [hq, cond_true] at h; injection h with h; subst h
      refine ⟨0, o, rfl, rfl, ?_⟩
      cases h1 : o.ex <;> cases h2 : e <;> rw [h1, h2] at hq <;> first | rfl | cases hq | skip
      exact congrArg _ (Nat.eq_of_beq_eq_true hq)
    | false =>
      rw [hq, cond_false] at h
      obtain ⟨k, o', h1, h2, h3⟩ := findO_ok h
      exact ⟨k + 1, o', by omega, h2, h3⟩
theorem mkAlt_ok : ∀ {os : List Out1} {n : Nat} {f : (o : Out1) → Option o.g.c.den} {y : Alt os} {o : Out1}, mkAlt os n f = some y → os[n]? = some o → ∃ z, f o = some z ∧ ∀ {γ : Type} (k : (o : Out1) → o.g.c.den → γ), altK os y k = k o z
  | [], n, f, y, o, h, _ => by cases h
  | [o1], 0, f, y, o, h, ho => by
    simp only [List.getElem?_cons_zero] at ho; injection ho with ho; subst ho
    exact ⟨y, h, fun k => rfl⟩
  | o1 :: o2 :: r, 0, f, y, o, h, ho => by
    simp only [List.getElem?_cons_zero] at ho; injection ho with ho; subst ho
    simp only [mkAlt] at h
    split at h
    · rename_i x hx; injection h with h; subst h; exact ⟨x, hx, fun k => rfl⟩
    · cases h
  | [_], n + 1, f, y, o, h, _ => by cases h
  | o1 :: o2 :: r, n + 1, f, y, o, h, ho => by
    simp only [mkAlt] at h
    split at h
    · rename_i z hz
      injection h with h; subst h
      obtain ⟨w, h1, h2⟩ := mkAlt_ok hz (by simpa using ho)
      exact ⟨w, h1, fun k => h2 k⟩
    · cases h
theorem outK_ok {kb : Nat} {q : Nat → Option Nat} {outs : List Out1} {e : Ex} {s : VSt} {y : Alt outs} {b : Nat} {st : ASt} (h : outK kb outs e s = some y) (hs : VS Fr H0 (kb, q) b s st) : ∃ s', altK outs y (fun o z => o.ex = e ∧ o.g.fill z = some s') ∧ VS Fr H0 (kb, q) b s' st := by
  unfold outK at h
  split at h
  · rename_i n hn
    obtain ⟨k, o, h1, h2, h3⟩ := findO_ok hn
    rw [Nat.zero_add] at h1; subst h1
    obtain ⟨z, h4, h5⟩ := mkAlt_ok h h2
    obtain ⟨env, X⟩ := s
    obtain ⟨hb, hkb, pl, he, hr, hpk⟩ := hs
    cases hkp : keepV kb o.g.ts ⟨env, X⟩ with
    | mk vs X' =>
      rw [hkp] at h4
      obtain ⟨pl', k1, k2, k3, k4⟩ := keep_ok he hr hkb hkp
      refine ⟨⟨zipE o.g.ts vs, X'⟩, ?_, hb, k3, pl', k1, k2, fun i hi x hx => hpk i hi x (k4 i hi x hx)⟩
      rw [h5]; exact ⟨h3, read_fill h4⟩
  · cases h
theorem loopF_of {S R : Type} {step : S → Option (S ⊕ R)} {s : S} {y : R} (h : loopO step s = some y) : ∃ n, loopF step n s = some y := by
  unfold loopO at h
  split at h
  · rename_i hx
    injection h with h
    exact ⟨_, by rw [← h]; exact Classical.choose_spec (Classical.choose_spec hx)⟩
  · cases h
theorem loop_sound (hT : TOK T C) (hfr : FrOK Fr H0) {id : Nat} {own : List (Nat × Option Nat × Bool)} {g : Sg} {outs : List Out1} {body : VCode} (hl : LsOK Fr H0 C T body) {F : g.c.den → Option (Alt outs)} (hF : ∀ x y, F x = some y → loopO (stepL T own g outs body) x = some y) :
    LpSound Fr H0 T.kb C (.loop body.er) ⟨id, own, g, outs, F⟩ := by
  intro x y hx s hfill q b st hs
  obtain ⟨n, hn⟩ := loopF_of (hF x y hx)
  refine sat_loop (fun m t => ∃ x s, loopF (stepL T own g outs body) m x = some y ∧ g.fill x = some s ∧ VS Fr H0 (T.kb, q) b s t) ⟨n, st, ⟨x, s, hn, hfill, hs⟩, .refl _⟩ ?_
  rintro m t ⟨x, s, h1, h2, h3⟩
  cases m with
  | zero => cases h1
  | succ m =>
    simp only [loopF] at h1
    cases hst : stepL T own g outs body x with
    | none => rw [hst] at h1; cases h1
    | some q =>
      rw [hst] at h1
      unfold stepL at hst
      rw [h2] at hst
      simp only at hst
      refine ev_ok hT hfr hst hl h3 (fun e s' st' g1 g2 => ?_)
      cases e with
      | nor =>
        simp only at g1
        cases hkp : keepV T.kb g.ts (ownV own s') with
        | mk vs X =>
          rw [hkp] at g1
          simp only at g1
          split at g1
          · rename_i x' hx'
            injection g1 with g1; subst g1
            simp only at h1
            obtain ⟨hb, hkb, pl, he, hr, hpk⟩ := g2
            obtain ⟨st1, pl1, k1, k2, k3, k4, k8, k9⟩ := own_ok (ws := own) hb he hr
            obtain ⟨pl2, k5, k6, k7, k10⟩ := keep_ok (env := (ownV own s').env) (X := (ownV own s').heap) k3 k4 (Nat.le_trans hkb k8) hkp
            exact ⟨m, st1, ⟨x', _, h1, read_fill hx', k2, k7, pl2, k5, k6, fun i hi z hz => hpk i hi z (k9 i (Nat.lt_of_lt_of_le hi hkb) z (k10 i hi z hz))⟩, by omega, k1⟩
          · cases g1
      | exit id' =>
        simp only at g1
        split at g1
        · rename_i y' hy'
          injection g1 with g1; subst g1
          simp only at h1; injection h1 with h1; subst h1
          obtain ⟨s2, k1, k2⟩ := outK_ok hy' g2
          exact ⟨s2, k1, k2⟩
        · cases g1
      | ret =>
        simp only at g1
        split at g1
        · rename_i y' hy'
          injection g1 with g1; subst g1
          simp only at h1; injection h1 with h1; subst h1
          obtain ⟨s2, k1, k2⟩ := outK_ok hy' g2
          exact ⟨s2, k1, k2⟩
        · cases g1
theorem jn_sound (hT : TOK T C) (hfr : FrOK Fr H0) {id : Nat} {own : List (Nat × Option Nat × Bool)} {g : Sg} {outs : List Out1} {body : VCode} (hl : LsOK Fr H0 C T body) {F : g.c.den → Option (Alt outs)} (hF : ∀ x y, F x = some y → stepJ T g outs body x = some y) :
    LpSound Fr H0 T.kb C body.er ⟨id, own, g, outs, F⟩ := by
  intro x y hx s hfill q b st hs
  have h1 := hF x y hx
  unfold stepJ at h1
  rw [hfill] at h1
  exact ev_ok hT hfr h1 hl hs (fun e s' st' g1 g2 => outK_ok g1 g2)
end
end Go.Abs
namespace Go.Abs
set_option linter.unusedSimpArgs false
open Go Go.RowKit
section
variable {Fr : Nat → Prop} {H0 : Heap} {X : VHeap} {pl : Pl} {H : Heap}
theorem dats_map (X : VHeap) : ∀ l : List TV, TV.dats X l = l.map (TV.dat X)
  | [] => rfl
  | a :: r => by simp [TV.dats, dats_map X r]
theorem dat_ok (hr : HRel Fr H0 X pl H) {v : TV} {a : AV} (h : TR X pl v a) : dataT (v.dat X) = true → Out H a (avT (v.dat X)) := by
  have one : ∀ {v : TV} {a : AV}, TR X pl v a → v.dat X = v → dataT (v.dat X) = true → Out H a (avT (v.dat X)) := by
    intro v a ht e hd
    rw [e] at hd ⊢
    exact cz_of_coe (data_coe ht hd) (nr_avT v)
  have list : ∀ {cs : List TV} {as : List AV}, cs.length = as.length → (∀ (j : Nat) (c : TV) (a : AV), cs[j]? = some c → as[j]? = some a → dataT (c.dat X) = true → Out H a (avT (c.dat X))) → dataTs (TV.dats X cs) = true →
      as.length = (avTs (TV.dats X cs)).length ∧ ∀ (j : Nat) (x x' : AV), as[j]? = some x → (avTs (TV.dats X cs))[j]? = some x' → Out H x x' := by
    intro cs as hl h hd
    refine ⟨by simp [avTs_map, dats_map, hl], fun j x x' h1 h2 => ?_⟩
    rw [avTs_map, dats_map, List.map_map, List.getElem?_map, Option.map_eq_some_iff] at h2
    obtain ⟨c, h2, rfl⟩ := h2
    refine h j c x h2 h1 (dataTs_mem hd j _ ?_)
    rw [dats_map, List.getElem?_map, h2]; rfl
  induction h with
  | i k n => exact one (.i k n) rfl
  | b x => exact one (.b x) rfl
  | s x => exact one (.s x) rfl
  | l c v a h => exact one (.l c v a h) rfl
  | e c => intro _; simp only [TV.dat, avT, List.map_nil]; exact .empRd _
  | ref a x o n h hn hp =>
    intro hd
    simp only [TV.dat, h] at hd ⊢
    cases o with
    | sq c l =>
      simp only [lenO] at hn; injection hn with hn; subst hn
      have := frz_sq (Fz := fun _ => True) (h1 := fun _ => none) hr h hp trivial (Nat.le_refl _)
      rw [List.take_length] at this
      exact this
    | fm c ver hole l =>
      cases hole with
      | some i => cases hd
      | none =>
        simp only [lenO] at hn; injection hn with hn; subst hn
        exact frz_fm (Fz := fun _ => True) (h1 := fun _ => none) hr h hp (fun _ _ _ _ => trivial)
    | st cs => cases hd
    | sb s =>
      simp only [lenO] at hn; injection hn with hn; subst hn
      exact frz_sb (Fz := fun _ => True) (h1 := fun _ => none) hr h hp trivial
  | pre a x m o n h hn hp h0 hm =>
    intro hd
    simp only [TV.dat, h] at hd ⊢
    cases o with
    | sq c l =>
      simp only [lenO] at hn; injection hn with hn; subst hn
      exact frz_sq (Fz := fun _ => True) (h1 := fun _ => none) hr h hp trivial hm
    | fm c ver hole l => cases hd
    | st cs => cases hd
    | sb s => cases hd
  | refD a av h ha => intro hd; simp only [TV.dat, h] at hd; cases hd
  | preD a m av h ha => intro hd; simp only [TV.dat, h] at hd; cases hd
  | ag cs as hl h ih =>
    intro hd
    have := list hl ih hd
    exact .agg _ _ this.1 this.2
  | tp cs as hl h ih =>
    intro hd
    have := list hl ih hd
    exact .tup _ _ this.1 this.2
  | clo g cs as hl h ih =>
    intro hd
    have := list hl ih hd
    exact .clo g _ _ this.1 this.2
  | _ => intro hd; cases hd
theorem res_ok {s : VSt} {st : ASt} (he : ERel s.heap pl s.env st.env) (hr : HRel Fr H0 s.heap pl st.heap) : ∀ {rs : List RV} {vs : List TV}, resVs s rs = some vs → ∃ as, resAll st rs as ∧ CT s.heap pl vs as
  | [], vs, h => by simp only [resVs] at h; injection h with h; subst h; exact ⟨[], trivial, .nil⟩
  | r :: rs, vs, h => by
    simp only [resVs] at h
    split at h
    · rename_i v vs' h1 h2
      injection h with h; subst h
      obtain ⟨as, k1, k2⟩ := res_ok he hr h2
      cases r with
      | t n =>
        simp only [resV1] at h1; injection h1 with h1; subst h1
        exact ⟨_ :: as, ⟨rfl, k1⟩, .cons (he n) k2⟩
      | c n g sz =>
        simp only [resV1] at h1
        have hx : TR s.heap pl (vlook s.env n) (opd st.env (.t n)) := he n
        have key : ∃ va, evG (.load g sz (.t n)) st.env (hf st.heap) 0 (fun v' _ => v' = va) ∧ TR s.heap pl v va := by
          have := vload_ok (KA := fun va => TR s.heap pl v va) h1 hx hr (fun w wa e1 e2 => by injection e1 with e1; subst e1; exact e2)
          have hev : evG (.load g sz (.t n)) st.env (hf st.heap) 0 (fun va _ => TR s.heap pl v va) := this
          obtain ⟨va, us, g1, g2⟩ := evG_det _ _ _ _ _ hev
          refine ⟨va, ?_, g1⟩
          simp only [evG, opK] at g2 ⊢
          revert g2
          generalize opd st.env (.t n) = p
          intro g2
          have lm : ∀ {cs : List AV}, loadK g sz cs (fun a => a = va ∧ ([] : List Upd) = us) → loadK g sz cs (fun a => a = va) := fun h => by
            cases g with
            | true => exact ⟨h.1, h.2.1⟩
            | false => obtain ⟨c, h1, h2, _⟩ := h; exact ⟨c, h1, h2⟩
          split at g2 <;> first | exact lm g2 | skip
          · obtain ⟨o, ho, e, he', hl⟩ := g2; exact ⟨o, ho, e, he', lm hl⟩
          · exact g2.elim
        obtain ⟨va, g1, g2⟩ := key
        exact ⟨va :: as, ⟨g1, k1⟩, .cons g2 k2⟩
    · cases h
theorem tup_ok {vs : List TV} {as : List AV} (h : CT X pl vs as) : TR X pl (tupV vs) (tupR as) := by
  match vs, as, h with
  | [], as, h =>
    have := h.1
    cases as with
    | nil => exact .tp _ _ rfl (fun j c a h => by simp at h)
    | cons _ _ => simp at this
  | [v], as, h =>
    obtain ⟨a, r, rfl, h1, h2⟩ := h.inv
    have := h2.1
    cases r with
    | nil => exact h1
    | cons _ _ => simp at this
  | v :: w :: r, as, h =>
    have hl := h.1
    match as, hl with
    | a :: b :: r', _ => exact .tp _ _ h.1 h.2
theorem zip_entry : ∀ (i : Nat) (vs : List TV), dataTs vs = true → ERel X pl (zipE (List.range' i vs.length) vs) (entryE i (avTs vs))
  | i, [], _ => fun t => .u _
  | i, v :: vs, h => by
    simp only [dataTs, Bool.and_eq_true] at h
    intro t
    simp only [List.length_cons, List.range'_succ, zipE, avTs, entryE, vlook, lookE]
    have e0 : (i == t) = Nat.beq i t := by rw [Bool.eq_iff_iff, beq_iff_eq, Nat.beq_eq]
    rw [e0]
    cases Nat.beq i t with
    | true => exact data_tr v h.1
    | false => exact zip_entry (i + 1) vs h.2 t
theorem hrel_nil (k : Nat) : HRel (fun _ => False) [] [] (fun _ => none) (Z k []) :=
  ⟨fun a o h => (by cases h), fun p q x h => (by cases h), fun p x h => (by cases h), fun x h => h.elim, fun p x h => (by cases h), Nat.zero_le _⟩
theorem shs_len : ∀ {vs : List TV} {svs : List SV}, TV.shs vs = some svs → svs.length = vs.length
  | [], svs, h => by simp only [TV.shs] at h; injection h with h; subst h; rfl
  | a :: vs, svs, h => by
    simp only [TV.shs] at h
    split at h
    · rename_i x xs h1 h2; injection h with h; subst h; simp [shs_len h2]
    · cases h
theorem avTs_len (vs : List TV) : (avTs vs).length = vs.length := by simp [avTs_map]
theorem readV_fill {sv : SV} {c : Cs} {v : TV} {y : c.den} (h : readV sv c v = some y) : fillV sv (unp c y) = some (v, []) := by
  unfold readV at h
  split at h
  · rename_i sv' hs
    obtain ⟨h1, h2⟩ := cond_ok h
    have e1 := SV.eq_of h1
    have hu := unp_pack v.lv
    generalize packL v.lv = p at h2 hu
    obtain ⟨c', z⟩ := p
    simp only at h2 hu
    obtain ⟨e, he⟩ := Cs.cast_some h2
    have hx : unp c y = v.lv := by
      rw [← hu, ← he]
      clear h2 hu he
      subst e
      rfl
    rw [hx, ← e1]
    have := fill_sh [] hs
    rwa [List.append_nil] at this
  · cases h
def Sound (P : Program) (fm : FM) (T : Tabs) : Prop := ∃ C : Ctx, CtxOK P fm C ∧ TOK T C
theorem sound_nil (P : Program) (fm : FM) (pf : Nat → Bool) (ls : List LpE) : Sound P fm ⟨pf, [], ls, 0⟩ :=
  ⟨ctxOf pf [], ctx_nil P fm pf, ⟨rfl, fun e h => by cases h⟩, fun e h => by cases h⟩
def ctxAdd (C : Ctx) (g : Nat) (R : Contract) : Ctx := ⟨fun h args H r H' => C.C h args H r H' ∨ (h = g ∧ R args H r H'), C.pf⟩
theorem ctxAdd_ok {P : Program} {fm : FM} {C : Ctx} {g : Nat} {R : Contract} (h : CtxOK P fm C) (hp : C.pf g = true → Pure R) (hf : ∀ f, fm f = g → FOK P fm f R) : CtxOK P fm (ctxAdd C g R) := by
  refine ⟨fun f args H r H' hc => ?_, fun f args H r H' hp' hc => ?_, fun f args r n hp' hc => ?_⟩
  · rcases hc with hc | ⟨e, hc⟩
    · exact h.ok f args H r H' hc
    · exact hf f e args H r H' hc
  · rcases hc with hc | ⟨e, hc⟩
    · exact h.nr f args H r H' hp' hc
    · exact (hp (e ▸ hp')).nr _ _ _ _ hc
  · rcases hc with hc | ⟨e, hc⟩
    · exact .inl (h.any f args r n hp' hc)
    · exact .inr ⟨e, (hp (e ▸ hp')).any _ _ _ hc⟩
theorem tok_add {T : Tabs} {C : Ctx} (h : TOK T C) {e : FnE} {R : Contract} (hR : T.pf e.g = true → ∀ args r, e.R args r → R args [] r []) (hI : T.pf e.g = false → ∀ args H r H', e.RI args H r H' → R args H r H') : TOK ⟨T.pf, e :: T.fs, T.ls, 0⟩ (ctxAdd C e.g R) := by
  refine ⟨⟨h.p.pf, fun e' he' hp args r hr => ?_⟩, fun e' he' hp args H r H' hr => ?_⟩
  · rcases List.mem_cons.1 he' with rfl | he'
    · exact .inr ⟨rfl, hR hp _ _ hr⟩
    · exact .inl (h.p.fn e' he' hp args r hr)
  · rcases List.mem_cons.1 he' with rfl | he'
    · exact .inr ⟨rfl, hI hp _ _ _ _ hr⟩
    · exact .inl (h.fnI e' he' hp args H r H' hr)
theorem pure_add {e : FnE} {args : List AV} {r : AV} (hr : e.R args r) : pureC e.R args [] r [] := by
  refine ⟨0, rfl, rfl, ?_, ?_, hr⟩
  · obtain ⟨x, y, vs, v, h1, h2, h3, rfl, h5, h6, rfl⟩ := hr
    exact fun a ha => nr_avTs vs a ha
  · obtain ⟨x, y, vs, v, h1, h2, h3, rfl, h5, h6, rfl⟩ := hr
    exact nr_avT v
theorem tok_addP {T : Tabs} {C : Ctx} (h : TOK T C) {e : FnE} (hp : T.pf e.g = true) : TOK ⟨T.pf, e :: T.fs, T.ls, 0⟩ (ctxAdd C e.g (pureC e.R)) :=
  tok_add h (fun _ _ _ hr => pure_add hr) (fun hq => by rw [hp] at hq; cases hq)
theorem fok_fn {P : Program} {fm : FM} {T : Tabs} {C : Ctx} (hC : CtxOK P fm C) (hT : TOK T C) (hm : P.follows .mixedOrders = true) {e : FnE} {F : VFn} {f : FuncId}
    (htie : fnTr P fm T.pf f = some (F.slots, F.res, F.code.er)) (h4 : F.res.length ≤ 4) (hts : e.args.ts = List.range' 0 e.args.vs.length) (hsl : e.args.vs.length ≤ F.slots)
    (hkb : T.kb = 0) (hl : LsOK (fun _ => False) [] C T F.code) (hF : ∀ x y, e.F x = some y → evP T F e.args e.res e.co x = some y) : FOK P fm f (pureC e.R) := by
  refine fok_pure hC hm (by rw [hT.p.pf]; exact htie) h4 ?_
  rintro args r ⟨x, y, vs, v, h1, h2, h3, rfl, h5, h6, rfl⟩
  have hlen : e.args.vs.length = vs.length := by
    unfold Sg.read at h2
    split at h2
    · rename_i svs sos k1 k2
      obtain ⟨e1, _⟩ := cond_ok h2
      simp only [Bool.and_eq_true] at e1
      rw [← SV.eqs_of e1.1, shs_len k1]
    · cases h2
  refine ⟨by rw [avTs_len, ← hlen]; exact hsl, fun k => ?_⟩
  have hev := hF x y h1
  unfold evP at hev
  rw [read_fill h2] at hev
  simp only at hev
  have hvs : VS (fun _ => False) [] (T.kb, fun _ => none) k ⟨zipE e.args.ts vs, []⟩ ⟨entryE 0 (avTs vs), Z k [], k⟩ := by
    refine ⟨rfl, by rw [hkb]; exact Nat.zero_le _, fun _ => none, ?_, hrel_nil k, fun i hi x hx => by cases hx⟩
    show ERel _ _ (zipE e.args.ts vs) _
    rw [hts, hlen]; exact zip_entry 0 vs h3
  refine ev_ok hT frNo hev hl hvs (fun ex s' st' g1 g2 => ?_)
  have post : (match resVs s' F.res with | some vs => readV e.res e.co ((tupV vs).dat s'.heap) | none => none) = some y → st'.base = k ∧ ∃ vs, resAll st' F.res vs ∧ Out st'.heap (tupR vs) (avT v) := by
    intro g1
    split at g1
    · rename_i ws hws
      obtain ⟨hb, _, pl, he, hr, _⟩ := g2
      obtain ⟨as, k1, k2⟩ := res_ok he hr hws
      have hfill := readV_fill g1
      rw [h5] at hfill
      injection hfill with hfill; injection hfill with hfill _
      refine ⟨hb, as, k1, ?_⟩
      rw [hfill]
      exact dat_ok hr (tup_ok k2) (by rw [← hfill]; exact h6)
    · cases g1
  cases ex with
  | exit id => cases g1
  | nor => exact post g1
  | ret => exact post g1
theorem fn_sound {P : Program} {fm : FM} {T : Tabs} (hS : Sound P fm T) (hm : P.follows .mixedOrders = true) (L : List LpE) (e : FnE) (hp : T.pf e.g = true) (F : VFn)
    (htie : ∀ f, fm f = e.g → fnTr P fm T.pf f = some (F.slots, F.res, F.code.er)) (h4 : F.res.length ≤ 4) (hts : e.args.ts = List.range' 0 e.args.vs.length) (hsl : e.args.vs.length ≤ F.slots)
    (hl : ∀ C, TOK ⟨T.pf, T.fs, L, 0⟩ C → LsOK (fun _ => False) [] C ⟨T.pf, T.fs, L, 0⟩ F.code) (hF : ∀ x y, e.F x = some y → evP ⟨T.pf, T.fs, L, 0⟩ F e.args e.res e.co x = some y) : Sound P fm ⟨T.pf, e :: T.fs, T.ls, 0⟩ := by
  obtain ⟨C, hC, hT⟩ := hS
  have hT' : TOK ⟨T.pf, T.fs, L, 0⟩ C := ⟨⟨hT.p.pf, hT.p.fn⟩, hT.fnI⟩
  exact ⟨ctxAdd C e.g (pureC e.R), ctxAdd_ok hC (fun _ => pure_pureC _) (fun f hf => fok_fn hC hT' hm (htie f hf) h4 hts hsl rfl (hl C hT') hF), tok_addP hT hp⟩
theorem fn_rec {P : Program} {fm : FM} {T : Tabs} (hS : Sound P fm T) (hm : P.follows .mixedOrders = true) (e : FnE) (hp : T.pf e.g = true) (Fn : Nat → e.args.c.den → Option e.co.den) (L : Nat → List LpE) (F : VFn)
    (htie : ∀ f, fm f = e.g → fnTr P fm T.pf f = some (F.slots, F.res, F.code.er)) (h4 : F.res.length ≤ 4) (hts : e.args.ts = List.range' 0 e.args.vs.length) (hsl : e.args.vs.length ≤ F.slots)
    (h0 : ∀ x, Fn 0 x = none) (hlim : ∀ x y, e.F x = some y → ∃ n, Fn n x = some y)
    (hl : ∀ n C, TOK ⟨T.pf, ⟨e.g, e.pf, e.args, e.res, e.os, e.co, Fn n⟩ :: T.fs, L n, 0⟩ C → LsOK (fun _ => False) [] C ⟨T.pf, ⟨e.g, e.pf, e.args, e.res, e.os, e.co, Fn n⟩ :: T.fs, L n, 0⟩ F.code)
    (hF : ∀ n x y, Fn (n + 1) x = some y → evP ⟨T.pf, ⟨e.g, e.pf, e.args, e.res, e.os, e.co, Fn n⟩ :: T.fs, L n, 0⟩ F e.args e.res e.co x = some y) : Sound P fm ⟨T.pf, e :: T.fs, T.ls, 0⟩ := by
  obtain ⟨C, hC, hT⟩ := hS
  have step : ∀ n f, fm f = e.g → FOK P fm f (pureC (FnE.R ⟨e.g, e.pf, e.args, e.res, e.os, e.co, Fn n⟩)) := by
    intro n
    induction n with
    | zero =>
      intro f _ args H r H' hc
      obtain ⟨_, _, _, _, _, x, y, vs, v, h1, _⟩ := hc
      have : Fn 0 x = some y := h1
      rw [h0] at this; cases this
    | succ n ih =>
      intro f hf
      have hC' := ctxAdd_ok hC (fun _ => pure_pureC _) ih
      have hT' := tok_addP hT (e := ⟨e.g, e.pf, e.args, e.res, e.os, e.co, Fn n⟩) hp
      have hT2 : TOK ⟨T.pf, ⟨e.g, e.pf, e.args, e.res, e.os, e.co, Fn n⟩ :: T.fs, L n, 0⟩ _ := ⟨⟨hT'.p.pf, hT'.p.fn⟩, hT'.fnI⟩
      exact fok_fn (e := ⟨e.g, e.pf, e.args, e.res, e.os, e.co, Fn (n + 1)⟩) hC' hT2 hm (htie f hf) h4 hts hsl rfl (hl n _ hT2) (hF n)
  refine ⟨ctxAdd C e.g (pureC e.R), ctxAdd_ok hC (fun _ => pure_pureC _) (fun f hf args H r H' hc => ?_), tok_addP hT hp⟩
  obtain ⟨k, k1, k2, k3, k4, x, y, vs, v, h1, h2⟩ := hc
  obtain ⟨n, hn⟩ := hlim x y h1
  exact step n f hf args H r H' ⟨k, k1, k2, k3, k4, x, y, vs, v, hn, h2⟩
theorem sound_fok {P : Program} {fm : FM} {T : Tabs} (hS : Sound P fm T) {e : FnE} (he : e ∈ T.fs) (hp : T.pf e.g = true) {f : FuncId} (hf : fm f = e.g) {args : List AV} {r : AV} (h : e.R args r) {W : World} {vals : Array Value} (hsz : vals.size = args.length)
    (hv : ∀ j a, args[j]? = some a → VR fm W noLoc (vals.getD j undef) a) : Calls P f vals W fun ex W' => ∃ v, ex = .returned v ∧ Keep noLoc W W' ∧ ∃ L', VR fm W' L' v r := by
  obtain ⟨C, hC, hT⟩ := hS
  have h1 := hT.p.fn e he hp args r h
  rw [← hf] at h1
  obtain ⟨_, h2⟩ := hC.ok f args [] r [] h1
  refine (h2 W noLoc vals (noLoc_hr fm W) hsz hv).mono ?_
  rintro ex w' ⟨v, L', rfl, hk, _, _, hvr⟩
  exact ⟨v, rfl, hk, L', hvr⟩
end
end Go.Abs
namespace Go.Abs
set_option linter.unusedSimpArgs false
open Go Go.RowKit
theorem readR_fill {sv : SV} {os : List SO} {c : Cs} {v : TV} {X : VHeap} {y : c.den} (h : readR sv os c v X = some y) : fillV sv (unp c y) = some (v, lvOs X) ∧ fillOs os (lvOs X) = some (X, []) := by
  unfold readR at h
  split at h
  · rename_i sv' os' h1 h2
    obtain ⟨e1, e2⟩ := cond_ok h
    simp only [Bool.and_eq_true] at e1
    have q1 := SV.eq_of e1.1; have q2 := SO.eqs_of e1.2
    have hu := unp_pack (v.lv ++ lvOs X)
    generalize packL (v.lv ++ lvOs X) = p at e2 hu
    obtain ⟨c', z⟩ := p
    simp only at e2 hu
    obtain ⟨e, he⟩ := Cs.cast_some e2
    have hx : unp c y = v.lv ++ lvOs X := by
      rw [← hu, ← he]
      clear e2 hu he
      subst e
      rfl
    subst q1; subst q2
    refine ⟨by rw [hx]; exact fill_sh _ h1, ?_⟩
    have := fillOs_sh [] h2
    rwa [List.append_nil] at this
  · cases h
section
variable {Fr : Nat → Prop} {H0 : Heap} {X : VHeap} {pl : Pl} {H : Heap}
theorem zip_entryC : ∀ (i : Nat) (vs : List TV) (as : List AV), CT X pl vs as → ERel X pl (zipE (List.range' i vs.length) vs) (entryE i as)
  | i, [], as, _ => fun t => .u _
  | i, v :: vs, as, h => by
    obtain ⟨a, r, rfl, h1, h2⟩ := h.inv
    intro t
    simp only [List.length_cons, List.range'_succ, zipE, entryE, vlook, lookE]
    have e0 : (i == t) = Nat.beq i t := by rw [Bool.eq_iff_iff, beq_iff_eq, Nat.beq_eq]
    rw [e0]
    cases Nat.beq i t with
    | true => exact h1
    | false => exact zip_entryC (i + 1) vs r h2 t
theorem cz_enc {m : List Nat} {q : Pl} {ρ : Nat → Nat} {H' : HF} {X2 : VHeap}
    (look : ∀ {b i o}, idxV m b 0 = some i → vget X b = some o → ∀ {x}, pl (.m b) = some x → vget X2 i = some (o.ren fun a => idxV m a 0) ∧ ∃ z, q (.m i) = some z ∧ ρ z = x ∧ ∃ o', H' z = some (some o'))
    (dead : ∀ {b i}, idxV m b 0 = some i → vget X b = none → vget X2 i = none) {tv : TV} {av : AV} (h : TR X pl tv av) :
    wfT X2 (tv.ren fun a => idxV m a 0) = true → Cz ρ (fun _ => False) (hf H) H' av (encT X2 q (tv.ren fun a => idxV m a 0)) := by
  have hn : ∀ (o : VObj), lenO (o.ren fun a => idxV m a 0) = lenO o ∧ elN (o.ren fun a => idxV m a 0) = elN o := fun o => by cases o <;> exact ⟨rfl, rfl⟩
  have list : ∀ {cs : List TV} {as : List AV}, cs.length = as.length → (∀ (j : Nat) (c : TV) (a : AV), cs[j]? = some c → as[j]? = some a → wfT X2 (c.ren fun a => idxV m a 0) = true → Cz ρ (fun _ => False) (hf H) H' a (encT X2 q (c.ren fun a => idxV m a 0))) → wfTs X2 (TV.rens (fun a => idxV m a 0) cs) = true →
      as.length = (encTs X2 q (TV.rens (fun a => idxV m a 0) cs)).length ∧ ∀ (j : Nat) (x x' : AV), as[j]? = some x → (encTs X2 q (TV.rens (fun a => idxV m a 0) cs))[j]? = some x' → Cz ρ (fun _ => False) (hf H) H' x x' := by
    intro cs as hl h hd
    refine ⟨by simp [encTs_map, rens_map, hl], fun j x x' h1 h2 => ?_⟩
    rw [encTs_map, rens_map, List.map_map, List.getElem?_map, Option.map_eq_some_iff] at h2
    obtain ⟨c, h2, rfl⟩ := h2
    refine h j c x h2 h1 ?_
    have wf : ∀ {l : List TV} {j : Nat} {c : TV}, wfTs X2 l = true → l[j]? = some c → wfT X2 c = true := by
      intro l
      induction l with
      | nil => intro j c _ h; simp at h
      | cons a l ih =>
        intro j c hw hj
        simp only [wfTs, Bool.and_eq_true] at hw
        cases j with
        | zero => simp at hj; subst hj; exact hw.1
        | succ j => exact ih hw.2 (by simpa using hj)
    refine wf hd (j := j) ?_
    rw [rens_map, List.getElem?_map, h2]; rfl
  induction h with
  | i k n => intro _; exact .v _
  | b x => intro _; exact .v _
  | s x => intro _; exact .v _
  | l c v a h => intro _; exact cz_of_coe h (nr_enc (.l c) v)
  | e c => intro hw; exact .emp
  | u a => intro _; exact .u _
  | v x => intro _; exact .u _
  | ref a x o n h hl hp =>
    intro hw
    simp only [TV.ren] at hw ⊢
    split
    · rename_i i hi
      obtain ⟨h1, z, h2, rfl, o', h3⟩ := look hi h hp
      have hs : seqN X2 i = n := by simp only [seqN, h1, (hn o).1, hl, Option.getD_some]
      simp only [encT, h2, hs]
      exact .ref z 0 n o' h3
    · exact .u _
  | refD a av h ha =>
    intro hw
    simp only [TV.ren] at hw ⊢
    split
    · rename_i i hi
      simp only [hi, wfT, dead hi h] at hw; cases hw
    · exact .u _
  | pre a x k o n h hl hp h0 hm =>
    intro hw
    simp only [TV.ren] at hw ⊢
    split
    · rename_i i hi; simp only [hi, wfT] at hw; cases hw
    · exact .u _
  | preD a k av h ha =>
    intro hw
    simp only [TV.ren] at hw ⊢
    split
    · rename_i i hi; simp only [hi, wfT] at hw; cases hw
    · exact .u _
  | ptr a i j x o h hi hp =>
    intro hw
    simp only [TV.ren] at hw ⊢
    split
    · rename_i b hb
      obtain ⟨h1, z, h2, rfl, o', h3⟩ := look hb h hp
      simp only [encT, h2]
      exact .ptr z i j o' h3
    · exact .u _
  | ptrD a i j av h ha =>
    intro hw
    simp only [TV.ren] at hw ⊢
    split
    · rename_i b hb
      simp only [hb, wfT, dead hb h, Bool.and_false] at hw; cases hw
    · exact .u _
  | np a x o h hp =>
    intro hw
    simp only [TV.ren] at hw ⊢
    split
    · rename_i b hb
      obtain ⟨h1, z, h2, rfl, o', h3⟩ := look hb h hp
      simp only [encT, h2]
      exact .np z o' h3
    · exact .u _
  | npD a av h ha =>
    intro hw
    simp only [TV.ren] at hw ⊢
    split
    · rename_i b hb
      simp only [hb, wfT, dead hb h] at hw; cases hw
    · exact .u _
  | ag cs as hl h ih =>
    intro hw
    have := list hl ih hw
    exact .agg _ _ this.1 this.2
  | tp cs as hl h ih =>
    intro hw
    have := list hl ih hw
    exact .tup _ _ this.1 this.2
  | clo g cs as hl h ih =>
    intro hw
    have := list hl ih hw
    exact .clo g _ _ this.1 this.2
  | _ => intro _; exact .u _
theorem shOs_len : ∀ {X : VHeap} {so : List SO}, shOs X = some so → so.length = X.length
  | [], so, h => by simp only [shOs] at h; injection h with h; subst h; rfl
  | none :: X, so, h => by
    simp only [shOs] at h
    split at h
    · rename_i xs h2; injection h with h; subst h; simp [shOs_len h2]
    · cases h
  | some o :: X, so, h => by
    simp only [shOs] at h
    split at h
    · rename_i x xs h1 h2; injection h with h; subst h; simp [shOs_len h2]
    · cases h
theorem getElem?_pre {l m : List Nat} (h : l <+: m) {i : Nat} (hi : i < l.length) : m[i]? = l[i]? := by
  obtain ⟨r, rfl⟩ := h
  rw [List.getElem?_append_left hi]
theorem fin_I {Kp : Nat → Prop} {Xs : VHeap} {pls : Pl} {Xh : VHeap} {ph : Pl} {s : ASt} {v : TV} {a : AV} {m : List Nat} (hrs : HRel Kp H Xs pls H) (hfr : FrOK Kp H) (hr : HRel Kp H Xh ph s.heap) (hb : s.base = H.length) (hk : Xs.length ≤ Xh.length)
    (hpk : ∀ i, i < Xs.length → ∀ x, ph (.m i) = some x → pls (.m i) = some x) (hnd : m.Nodup) (hpre : List.range Xs.length <+: m) (ht : TR Xh ph v a)
    (hw : wfT (renX Xh m) (v.ren fun a => idxV m a 0) = true) (hX : wfX (renX Xh m) (renX Xh m) = true) :
    Fin s a (encT (renX Xh m) (plI pls Xs.length H.length (renX Xh m)) (v.ren fun a => idxV m a 0)) (heapI Kp H Xs.length (renX Xh m) (plI pls Xs.length H.length (renX Xh m))) := by
  have hlm : Xs.length ≤ m.length := by simpa using hpre.length_le
  have hlX : (renX Xh m).length = m.length := by simp [renX]
  have hlen : Xs.length ≤ (renX Xh m).length := by omega
  let ρ : Nat → Nat := fun z => if z < H.length then z else match m[Xs.length + (z - H.length)]? with | some b => (ph (.m b)).getD z | none => z
  have hlow : ∀ z, z < H.length → ρ z = z := fun z hz => by simp only [ρ, if_pos hz]
  have hm1 : ∀ {i}, i < Xs.length → m[i]? = some i := fun {i} hi => by
    rw [getElem?_pre hpre (by simpa using hi), List.getElem?_range hi]
  have src : ∀ {i o}, vget (renX Xh m) i = some o → ∃ b ob x, m[i]? = some b ∧ vget Xh b = some ob ∧ o = ob.ren (fun a => idxV m a 0) ∧ ph (.m b) = some x ∧ ∃ z, plI pls Xs.length H.length (renX Xh m) (.m i) = some z ∧ ρ z = x := by
    intro i o ho
    have ho' := ho
    unfold renX at ho'
    rw [vget_map] at ho'
    cases hb : m[i]? with
    | none => rw [hb] at ho'; cases ho'
    | some b =>
      rw [hb] at ho'
      simp only [Option.bind_some, Option.map_eq_some_iff] at ho'
      obtain ⟨ob, hob, rfl⟩ := ho'
      obtain ⟨x, hx⟩ := placed hr hob
      refine ⟨b, ob, x, rfl, hob, rfl, hx, ?_⟩
      by_cases hi : i < Xs.length
      · have := hm1 hi; rw [hb] at this; injection this with this; subst this
        have hz := hpk b hi x hx
        exact ⟨x, by simp only [plI, ho, if_pos hi]; exact hz, hlow x (hrs.bd hz)⟩
      · refine ⟨H.length + (i - Xs.length), by simp only [plI, ho, if_neg hi], ?_⟩
        simp only [ρ]
        rw [if_neg (by omega), show Xs.length + (H.length + (i - Xs.length) - H.length) = i by omega, hb]
        simp only [hx, Option.getD_some]
  have hat := fun {i x : Nat} => heapI_at (Xs := Xs) hrs hlen (i := i) (x := x)
  have hkp := fun {x : Nat} => heapI_kp (Xs := Xs) hrs (X2 := renX Xh m) (x := x)
  have hqi := fun {p q : Pos} {x : Nat} => plI_inj (Xs := Xs) hrs (X2 := renX Xh m) (p := p) (q := q) (x := x)
  have hqv : ∀ {i x}, plI pls Xs.length H.length (renX Xh m) (.m i) = some x → ∃ o, vget (renX Xh m) i = some o := by
    intro i x h
    simp only [plI] at h
    split at h
    · exact ⟨_, by assumption⟩
    · cases h
  have hHl := heapI_len Kp H Xs.length (renX Xh m) (plI pls Xs.length H.length (renX Xh m))
  have hinv := fun {x : Nat} {o : AObj} => heapI_inv (Kp := Kp) (H := H) (Xs := Xs) (pls := pls) (X2 := renX Xh m) (x := x) (o := o)
  generalize hH' : heapI Kp H Xs.length (renX Xh m) (plI pls Xs.length H.length (renX Xh m)) = H' at hat hkp hHl hinv ⊢
  generalize hq : plI pls Xs.length H.length (renX Xh m) = q at hat hqi hqv hinv src ⊢
  have look : ∀ {b i o}, idxV m b 0 = some i → vget Xh b = some o → ∀ {x}, ph (.m b) = some x → vget (renX Xh m) i = some (o.ren fun a => idxV m a 0) ∧ ∃ z, q (.m i) = some z ∧ ρ z = x ∧ ∃ o', hf H' z = some (some o') := by
    intro b i o hi ho x hx
    have hmi := (idxV_spec hi).2
    simp only [Nat.sub_zero] at hmi
    have hv : vget (renX Xh m) i = some (o.ren fun a => idxV m a 0) := by rw [ren_get hmi, ho]; rfl
    obtain ⟨b', ob, x', h1, h2, h3, h4, z, h5, h6⟩ := src hv
    rw [hmi] at h1; injection h1 with h1; subst h1
    rw [hx] at h4; injection h4 with h4; subst h4
    exact ⟨hv, z, h5, h6, _, hat h5⟩
  have dead : ∀ {b i}, idxV m b 0 = some i → vget Xh b = none → vget (renX Xh m) i = none := by
    intro b i hi ho
    have hmi := (idxV_spec hi).2
    simp only [Nat.sub_zero] at hmi
    rw [ren_get hmi, ho]; rfl
  have keepA : ∀ x, Kp x → ρ x = x ∧ ∃ o, hf H' x = some (some o) := fun x hx => by
    obtain ⟨⟨o, ho⟩, _⟩ := hfr x hx
    exact ⟨hlow x (hrs.fr x hx).1, o, (hkp hx).trans ho⟩
  refine fin_cz ρ (fun _ => False) ⟨fun a b o o' h1 h2 he => ?_, fun a ha => ⟨hlow a (by omega), fun _ => ?_⟩, fun a o' ho => ⟨fun h => h, ?_⟩⟩ (cz_enc look dead ht hw)
  · rcases hinv h1 with ⟨k1, _⟩ | ⟨i, k1, _⟩ <;> rcases hinv h2 with ⟨k2, _⟩ | ⟨j, k2, _⟩
    · rw [(keepA a k1).1, (keepA b k2).1] at he; exact he
    · obtain ⟨o2, ho2⟩ := hqv k2
      obtain ⟨b', ob, x, g1, g2, g3, g4, z, g5, g6⟩ := src ho2
      rw [k2] at g5; injection g5 with g5; subst g5
      rw [(keepA a k1).1, g6] at he
      exact absurd (he ▸ k1) (hr.nfr _ _ g4)
    · obtain ⟨o2, ho2⟩ := hqv k1
      obtain ⟨b', ob, x, g1, g2, g3, g4, z, g5, g6⟩ := src ho2
      rw [k1] at g5; injection g5 with g5; subst g5
      rw [(keepA b k2).1, g6] at he
      exact absurd (he ▸ k2) (hr.nfr _ _ g4)
    · obtain ⟨o1, ho1⟩ := hqv k1
      obtain ⟨o2, ho2⟩ := hqv k2
      obtain ⟨b1, ob1, x1, g1, g2, g3, g4, z1, g5, g6⟩ := src ho1
      obtain ⟨b2, ob2, x2, f1, f2, f3, f4, z2, f5, f6⟩ := src ho2
      rw [k1] at g5; injection g5 with g5; subst g5
      rw [k2] at f5; injection f5 with f5; subst f5
      rw [g6, f6] at he
      rw [he] at g4
      have := hr.inj _ _ _ g4 f4
      injection this with this; subst this
      have i1 := idxV_of hnd g1
      have i2 := idxV_of hnd f1
      rw [i1] at i2; injection i2 with i2; subst i2
      rw [k1] at k2; injection k2
  · show H'[a]? ≠ none
    rw [List.getElem?_eq_getElem (by rw [hHl]; omega)]; simp
  · rcases hinv ho with ⟨k1, k2⟩ | ⟨i, k1, k2⟩
    · refine ⟨o', ?_, rfl, rfl, fun j e e' h1 h2 => ?_⟩
      · show s.heap[ρ a]? = _
        rw [(keepA a k1).1, (hr.fr a k1).2]; exact k2
      · rw [h1] at h2; injection h2 with h2; subst h2
        refine ⟨rfl, fun j x x' h3 h4 => ?_⟩
        rw [h3] at h4; injection h4 with h4; subst h4
        exact cz_refin keepA ((hfr a k1).2 o' k2 e (List.mem_of_getElem? h1) x (List.mem_of_getElem? h3))
    · obtain ⟨o2, ho2⟩ := hqv k1
      obtain ⟨b, ob, x, g1, g2, g3, g4, z, g5, g6⟩ := src ho2
      rw [k1] at g5; injection g5 with g5; subst g5
      have hob := hr.obj b ob g2
      cases ob with
      | fm c ver hole l => rcases wfX_get hX ho2 with ⟨_, _, e, _⟩ | ⟨_, e, _⟩ | ⟨_, e⟩ <;> (rw [g3] at e; cases e)
      | sb s0 =>
        obtain ⟨x', e1, e2⟩ := hob
        rw [g4] at e1; injection e1 with e1; subst e1
        have g3 : o2 = .sb s0 := g3
        subst g3
        rw [k2]
        simp only [encO, ho2]
        refine ⟨⟨0, strA s0⟩, by show s.heap[ρ a]? = _; rw [g6]; exact e2, rfl, rfl, fun j e e' h1 h2 => ?_⟩
        rw [h1] at h2; injection h2 with h2; subst h2
        refine ⟨rfl, fun k y y' h3 h4 => ?_⟩
        rw [h3] at h4; injection h4 with h4; subst h4
        obtain ⟨n, hn⟩ := get_pair (strL_rows s0).1.symm h1
        have := (strL_rows s0).2 j e n h1 hn
        subst this
        cases k with
        | zero => simp at h3; subst h3; exact .v _
        | succ k => simp at h3
      | sq c l =>
        obtain ⟨x', el, e1, e2, e3, e4⟩ := hob
        rw [g4] at e1; injection e1 with e1; subst e1
        have g3 : o2 = .sq c l := g3
        subst g3
        rw [k2]
        simp only [encO, ho2]
        refine ⟨⟨c.width, el⟩, by show s.heap[ρ a]? = _; rw [g6]; exact e2, rfl, by simp [e4.1], fun j e e' h1 h2 => ?_⟩
        simp only [List.getElem?_map, Option.map_eq_some_iff] at h2
        obtain ⟨w, h2, rfl⟩ := h2
        have := e4.2 j e w h1 h2
        exact ⟨this.1, fun k y y' h3 h4 => cz_of_coe (this.2 k y y' h3 h4) (nr_encs c w y' (List.mem_of_getElem? h4))⟩
      | st cs =>
        obtain ⟨x', e, e1, e2, e3, e4⟩ := hob
        rw [g4] at e1; injection e1 with e1; subst e1
        have g3 : o2 = .st (TV.rens (fun a => idxV m a 0) cs) := g3
        subst g3
        rcases wfX_get hX ho2 with ⟨_, _, e, _⟩ | ⟨cs', e5, _, hwc⟩ | ⟨_, e⟩
        · cases e
        rotate_left
        · cases e
        · injection e5 with e5; subst e5
          rw [k2]
          simp only [encO, ho2]
          refine ⟨⟨cs.length, [e]⟩, by show s.heap[ρ a]? = _; rw [g6]; exact e2, by simp [rens_map], rfl, fun j f f' h1 h2 => ?_⟩
          cases j with
          | succ j => simp at h1
          | zero =>
            simp at h1 h2; subst h1; subst h2
            have := cz_enc (H := s.heap) (tv := .tp cs) look dead (.tp cs e e4.1 e4.2) (by simpa [TV.ren, wfT] using hwc)
            simp only [TV.ren, encT] at this
            cases this with
            | tup _ _ hl hc => exact ⟨hl, hc⟩
theorem fok_fnI {P : Program} {fm : FM} {T : Tabs} {C : Ctx} (hC : CtxOK P fm C) (hT : TOK T C) (hm : P.follows .mixedOrders = true) {e : FnE} {F : VFn} {f : FuncId}
    (htie : fnTr P fm T.pf f = some (F.slots, F.res, F.code.er)) (h4 : F.res.length ≤ 4) (hts : e.args.ts = List.range' 0 e.args.vs.length) (hsl : e.args.vs.length ≤ F.slots)
    (hkb : T.kb = e.args.os.length) (hl : ∀ Fr H0, FrOK Fr H0 → LsOK Fr H0 C T F.code) (hF : ∀ x y, e.F x = some y → evI T F e.args e.res e.os e.co x = some y) : FOK P fm f e.RI := by
  refine fok_of_sat hC hm (by rw [hT.p.pf]; exact htie) h4 ?_
  rintro args H r H' ⟨x, y, vs, Xs, pls, Kp, v, l, X2, h1, h2, h3, hct, hrs, hfr, hall, h5, h6, h7, h8, h9, h10, rfl, rfl⟩
  have hlen : e.args.vs.length = vs.length ∧ e.args.os.length = Xs.length := by
    unfold Sg.read at h2
    split at h2
    · rename_i svs sos k1 k2
      obtain ⟨e1, _⟩ := cond_ok h2
      simp only [Bool.and_eq_true] at e1
      exact ⟨by rw [← SV.eqs_of e1.1, shs_len k1], by rw [← SO.eqs_of e1.2, shOs_len k2]⟩
    · cases h2
  refine ⟨by rw [← hct.1, ← hlen.1]; exact hsl, ?_⟩
  have hev := hF x y h1
  unfold evI at hev
  rw [read_fill h2] at hev
  simp only at hev
  have hkb' : T.kb = Xs.length := hkb.trans hlen.2
  have hvs : VS Kp H (T.kb, fun i => pls (.m i)) H.length ⟨zipE e.args.ts vs, Xs⟩ ⟨entryE 0 args, H, H.length⟩ := by
    refine ⟨rfl, by rw [hkb']; exact Nat.le_refl _, pls, ?_, hrs, fun i hi x hx => hx⟩
    show ERel _ _ (zipE e.args.ts vs) _
    rw [hts, hlen.1]; exact zip_entryC 0 vs args hct
  refine ev_ok hT hfr hev (hl Kp H hfr) hvs (fun ex s' st' g1 g2 => ?_)
  have post : (match resVs s' F.res with | some vs => (match retI T.kb (tupV vs) s'.heap with | (v, X) => readR e.res e.os e.co v X) | none => none) = some y →
      ∃ as, resAll st' F.res as ∧ Fin st' (tupR as) (encT X2 (plI pls Xs.length H.length X2) v) (heapI Kp H Xs.length X2 (plI pls Xs.length H.length X2)) := by
    intro g1
    split at g1
    · rename_i ws hws
      obtain ⟨hb, hkl, ph, he, hr, hpk⟩ := g2
      obtain ⟨as, k1, k2⟩ := res_ok he hr hws
      have hr := hr_nrm hr
      have k3 := TR.nrm _ ((tup_ok k2).ext nrm_ext)
      have hkl' : Xs.length ≤ (nrmX s'.heap).length := by rw [← hkb']; simpa [nrmX] using hkl
      unfold retI at g1
      simp only at g1
      have hmin : min T.kb (nrmX s'.heap).length = Xs.length := by omega
      rw [hmin] at g1
      generalize nrmX s'.heap = Xh at g1 hr k3 hkl' hmin
      generalize (tupV ws).nrm = tw at g1 k3
      have hnd : (reachV Xh 5 (addIds Xh (List.range Xs.length) tw.ids)).Nodup := reachV_ok (addIds_ok List.nodup_range)
      have hpre : List.range Xs.length <+: reachV Xh 5 (addIds Xh (List.range Xs.length) tw.ids) := (addIds_pre _ _ _).trans (reachV_pre _ _ _)
      generalize reachV Xh 5 (addIds Xh (List.range Xs.length) tw.ids) = m at g1 hnd hpre
      obtain ⟨q1, q2⟩ := readR_fill g1
      rw [h5] at q1; injection q1 with q1; injection q1 with q1 q3
      rw [← q3, h6] at q2; injection q2 with q2; injection q2 with q2 _
      subst q1; subst q2
      exact ⟨as, k1, fin_I hrs hfr hr hb hkl' (fun i hi z hz => hpk i (by rw [hkb']; exact hi) z hz) hnd hpre k3 h8 h9⟩
    · cases g1
  cases ex with
  | exit id => cases g1
  | nor => exact post g1
  | ret => exact post g1
theorem fnI_sound {P : Program} {fm : FM} {T : Tabs} (hS : Sound P fm T) (hm : P.follows .mixedOrders = true) (L : List LpE) (e : FnE) (hp : T.pf e.g = false) (F : VFn)
    (htie : ∀ f, fm f = e.g → fnTr P fm T.pf f = some (F.slots, F.res, F.code.er)) (h4 : F.res.length ≤ 4) (hts : e.args.ts = List.range' 0 e.args.vs.length) (hsl : e.args.vs.length ≤ F.slots)
    (hl : ∀ C, TOK ⟨T.pf, T.fs, L, e.args.os.length⟩ C → ∀ Fr H0, FrOK Fr H0 → LsOK Fr H0 C ⟨T.pf, T.fs, L, e.args.os.length⟩ F.code) (hF : ∀ x y, e.F x = some y → evI ⟨T.pf, T.fs, L, e.args.os.length⟩ F e.args e.res e.os e.co x = some y) : Sound P fm ⟨T.pf, e :: T.fs, T.ls, 0⟩ := by
  obtain ⟨C, hC, hT⟩ := hS
  have hT' : TOK ⟨T.pf, T.fs, L, e.args.os.length⟩ C := ⟨⟨hT.p.pf, hT.p.fn⟩, hT.fnI⟩
  have hpC : C.pf e.g = true → Pure e.RI := fun h => by rw [hT.p.pf, hp] at h; cases h
  exact ⟨ctxAdd C e.g e.RI, ctxAdd_ok hC hpC (fun f hf => fok_fnI hC hT' hm (htie f hf) h4 hts hsl rfl (hl C hT') hF), tok_add hT (fun h => by rw [hp] at h; cases h) (fun _ _ _ _ _ h => h)⟩
theorem fnI_rec {P : Program} {fm : FM} {T : Tabs} (hS : Sound P fm T) (hm : P.follows .mixedOrders = true) (e : FnE) (hp : T.pf e.g = false) (Fn : Nat → e.args.c.den → Option e.co.den) (L : Nat → List LpE) (F : VFn)
    (htie : ∀ f, fm f = e.g → fnTr P fm T.pf f = some (F.slots, F.res, F.code.er)) (h4 : F.res.length ≤ 4) (hts : e.args.ts = List.range' 0 e.args.vs.length) (hsl : e.args.vs.length ≤ F.slots)
    (h0 : ∀ x, Fn 0 x = none) (hlim : ∀ x y, e.F x = some y → ∃ n, Fn n x = some y)
    (hl : ∀ n C, TOK ⟨T.pf, ⟨e.g, e.pf, e.args, e.res, e.os, e.co, Fn n⟩ :: T.fs, L n, e.args.os.length⟩ C → ∀ Fr H0, FrOK Fr H0 → LsOK Fr H0 C ⟨T.pf, ⟨e.g, e.pf, e.args, e.res, e.os, e.co, Fn n⟩ :: T.fs, L n, e.args.os.length⟩ F.code)
    (hF : ∀ n x y, Fn (n + 1) x = some y → evI ⟨T.pf, ⟨e.g, e.pf, e.args, e.res, e.os, e.co, Fn n⟩ :: T.fs, L n, e.args.os.length⟩ F e.args e.res e.os e.co x = some y) : Sound P fm ⟨T.pf, e :: T.fs, T.ls, 0⟩ := by
  obtain ⟨C, hC, hT⟩ := hS
  have hpC : ∀ R : Contract, C.pf e.g = true → Pure R := fun R h => by rw [hT.p.pf, hp] at h; cases h
  have step : ∀ n f, fm f = e.g → FOK P fm f (FnE.RI ⟨e.g, e.pf, e.args, e.res, e.os, e.co, Fn n⟩) := by
    intro n
    induction n with
    | zero =>
      intro f _ args H r H' hc
      obtain ⟨x, y, vs, Xs, pls, Kp, v, l, X2, h1, _⟩ := hc
      have : Fn 0 x = some y := h1
      rw [h0] at this; cases this
    | succ n ih =>
      intro f hf
      have hC' := ctxAdd_ok hC (hpC _) ih
      have hT' := tok_add hT (e := ⟨e.g, e.pf, e.args, e.res, e.os, e.co, Fn n⟩) (R := FnE.RI ⟨e.g, e.pf, e.args, e.res, e.os, e.co, Fn n⟩) (fun h => by rw [hp] at h; cases h) (fun _ _ _ _ _ h => h)
      have hT2 : TOK ⟨T.pf, ⟨e.g, e.pf, e.args, e.res, e.os, e.co, Fn n⟩ :: T.fs, L n, e.args.os.length⟩ _ := ⟨⟨hT'.p.pf, hT'.p.fn⟩, hT'.fnI⟩
      exact fok_fnI (e := ⟨e.g, e.pf, e.args, e.res, e.os, e.co, Fn (n + 1)⟩) hC' hT2 hm (htie f hf) h4 hts hsl rfl (hl n _ hT2) (hF n)
  refine ⟨ctxAdd C e.g e.RI, ctxAdd_ok hC (hpC _) (fun f hf args H r H' hc => ?_), tok_add hT (fun h => by rw [hp] at h; cases h) (fun _ _ _ _ _ h => h)⟩
  obtain ⟨x, y, vs, Xs, pls, Kp, v, l, X2, h1, h2⟩ := hc
  obtain ⟨n, hn⟩ := hlim x y h1
  exact step n f hf args H r H' ⟨x, y, vs, Xs, pls, Kp, v, l, X2, hn, h2⟩
end
end Go.Abs
namespace Go.Abs
open Go
def cs : List Ty → Cs
  | [] => .nil
  | t :: r => .cons t (cs r)
abbrev I : Ty := .i .i64
abbrev o (d : Nat) (op : VOp) : VI := ⟨some d, op, none, false, false⟩
abbrev on (op : VOp) : VI := ⟨none, op, none, false, false⟩
abbrev og (d g : Nat) (w : Bool) (op : VOp) : VI := ⟨some d, op, some (g, w), false, false⟩
abbrev t (n : Nat) : VOpd := .t n
abbrev k (n : Int) : VOpd := .c (.one (.i .i64 n))
abbrev ki (kd : IntKind) (n : Int) : VOpd := .c (.one (.i kd n))
abbrev kb (x : Bool) : VOpd := .c (.one (.b x))
abbrev ks (x : ByteArray) : VOpd := .c (.one (.s x))
abbrev ke (c : Cs) : VOpd := .c (.one (.e c))
abbrev w64 (x : Int) : Int := IntKind.wrap .i64 x
def alt2 {A B γ : Type} (y : A ⊕ B) (f : A → γ) (g : B → γ) : γ := match y with | .inl a => f a | .inr b => g b
theorem loopO_congr {S R : Type} {step s : S → Option (S ⊕ R)} (h : ∀ x, step x = s x) {x : S} {y : R} (hs : loopO s x = some y) : loopO step x = some y := by
  have : step = s := funext h
  rw [this]; exact hs
theorem tok_ls {p : Nat → Bool} {fs : List FnE} {l l' : List LpE} {k k' : Nat} {C : Ctx} (h : TOK ⟨p, fs, l, k⟩ C) : TOK ⟨p, fs, l', k'⟩ C := ⟨⟨h.p.pf, h.p.fn⟩, h.fnI⟩
theorem lsGet {Fr : Nat → Prop} {H0 : Heap} {kb : Nat} {C : Ctx} {code : ACode} {id : Nat} {ls : List LpE} {p : LpE} (h0 : findL id ls = some p) (hp : LpSound Fr H0 kb C code p) : ∀ e, findL id ls = some e → LpSound Fr H0 kb C code e := fun e h => by
  rw [h0] at h; injection h with h; subst h; exact hp
structure Lo where
  run : ∀ {S R : Type}, (S → Option (S ⊕ R)) → S → Option R
def LoOK (lo : Lo) : Prop := ∀ {S R : Type} (step : S → Option (S ⊕ R)) (x : S) (y : R), lo.run step x = some y → loopO step x = some y
theorem loopF_mono {S R : Type} {step : S → Option (S ⊕ R)} : ∀ {n m : Nat} {x : S} {y : R}, n ≤ m → loopF step n x = some y → loopF step m x = some y
  | 0, _, _, _, _, h => by cases h
  | n + 1, 0, _, _, h, _ => by omega
  | n + 1, m + 1, x, y, h, hy => by
    simp only [loopF] at hy ⊢
    split at hy
    · exact loopF_mono (by omega) hy
    · exact hy
    · cases hy
theorem loopO_of {S R : Type} {step : S → Option (S ⊕ R)} {n : Nat} {x : S} {y : R} (h : loopF step n x = some y) : loopO step x = some y := by
  have hx : ∃ n r, loopF step n x = some r := ⟨n, y, h⟩
  unfold loopO
  rw [dif_pos hx]
  have h2 := Classical.choose_spec (Classical.choose_spec hx)
  have k1 := loopF_mono (Nat.le_max_left n (Classical.choose hx)) h
  have k2 := loopF_mono (Nat.le_max_right n (Classical.choose hx)) h2
  rw [k1] at k2; injection k2 with k2; rw [k2]
noncomputable def loO : Lo := ⟨fun step x => loopO step x⟩
theorem loO_ok : LoOK loO := fun _ _ _ h => h
def loN (n : Nat) : Lo := ⟨fun step x => loopF step n x⟩
theorem loN_ok (n : Nat) : LoOK (loN n) := fun _ _ _ h => loopO_of h
theorem loopO_eq {S R : Type} (step : S → Option (S ⊕ R)) (x : S) : loopO step x = match step x with | some (.inl s) => loopO step s | some (.inr r) => some r | none => none := by
  refine Option.ext (fun y => ⟨fun h => ?_, fun h => ?_⟩)
  · obtain ⟨n, hn⟩ := loopF_of h
    cases n with
    | zero => cases hn
    | succ n =>
      simp only [loopF] at hn
      split at hn
      · rename_i hs; rw [hs]; exact loopO_of hn
      · rename_i hs; rw [hs]; exact hn
      · cases hn
  · split at h
    · rename_i s hs
      obtain ⟨n, hn⟩ := loopF_of h
      exact loopO_of (n := n + 1) (by simp only [loopF, hs]; exact hn)
    · rename_i r hs
      exact loopO_of (n := 1) (by simp only [loopF, hs]; exact h)
    · cases h
def fixS {A B : Type} (f : Nat → A → Option B) : Nat × A → Option ((Nat × A) ⊕ B) := fun x => match f x.1 x.2 with
  | some y => some (.inr y)
  | none => some (.inl (x.1 + 1, x.2))
theorem fix_lim {A B : Type} {f : Nat → A → Option B} {n : Nat} {x : A} {y : B} (h : loopO (fixS f) (n, x) = some y) : ∃ m, f m x = some y := by
  obtain ⟨k, hk⟩ := loopF_of h
  induction k generalizing n with
  | zero => cases hk
  | succ k ih =>
    simp only [loopF, fixS] at hk
    cases hf : f n x with
    | some z => rw [hf] at hk; simp only at hk; injection hk with hk; subst hk; exact ⟨n, hf⟩
    | none => rw [hf] at hk; simp only at hk; exact ih (loopO_of hk) hk
theorem fix_of {A B : Type} {f : Nat → A → Option B} (hm : ∀ n x y, f n x = some y → f (n + 1) x = some y) {x : A} {y : B} : ∀ {m n : Nat}, f (n + m) x = some y → loopO (fixS f) (n, x) = some y
  | 0, n, h => loopO_of (n := 1) (by simp only [loopF, fixS]; rw [show f n x = some y from h])
  | m + 1, n, h => by
    rw [loopO_eq]
    cases hf : f n x with
    | some z =>
      simp only [fixS, hf]
      have : ∀ k, f (n + k) x = some z := fun k => by
        induction k with
        | zero => exact hf
        | succ k ih => exact hm _ _ _ ih
      rw [this] at h; exact h
    | none =>
      simp only [fixS, hf]
      exact fix_of hm (m := m) (n := n + 1) (by rw [show n + 1 + m = n + (m + 1) by omega]; exact h)
end Go.Abs
namespace Go.Abs
set_option linter.unusedSimpArgs false
open Go Go.RowKit
def vcloneC (es : Nat) (z : List Value) : ACode :=
  .seq (.reg [⟨some 2, .mv (.c .emp), none, false, false⟩])
   (.seq
    (.seq (.reg [⟨some 3, .mv (.t 0), none, false, false⟩, ⟨some 4, .pv (.isn false) [(.t 3)], none, false, false⟩])
     (.cond (.t 4) (.seq (.reg [⟨some 2, .mv (.c .emp), none, false, false⟩]) .ret) .skip))
    (.seq (.reg [⟨some 5, .bsl es z 0 [], none, false, false⟩, ⟨some 6, .mv (.t 0), none, false, false⟩, ⟨some 7, .app es (.t 5) (.t 6), none, false, false⟩, ⟨some 2, .mv (.t 7), none, false, false⟩])
     .ret))
def vcloneE (g : Nat) (c : Cs) : FnE := ⟨g, false, ⟨[0], [.l c], [], .cons (.l c) .nil⟩, .ref 0, [.sq c], .cons (.l c) .nil,
  fun (l : List c.den) => bif Nat.ble l.length maxEl && Nat.ble 1 c.width then some l else none⟩
section
variable {C : Ctx}
theorem vsat_empty {code : ACode} {Q : Ex → ASt → Prop} {t es : Nat} {env : Env} {H : Heap} {b : Nat} (hl : lookE env t = .rd es []) (h : ∀ A c, Sat C code Q ⟨(t, .v (.slice A 0 c)) :: env, H, b⟩) : Sat C code Q ⟨env, H, b⟩ := by
  intro P fm n code' hC hm ht w0 L0 a w hs
  obtain ⟨h1, h2, h3, L, h4, h5, h6, h7⟩ := hs
  have hv := h7 t
  simp only at hv
  rw [hl] at hv
  rcases vr_rd_inv hv with ⟨_, A, c, e⟩ | ⟨_, _, _, _, _, hne, _⟩
  · refine h A c P fm n code' hC hm ht w0 L0 a w ⟨h1, h2, h3, L, h4, h5, h6, fun s => ?_⟩
    simp only [lookE]
    cases hst : (t == s) with
    | true => have : t = s := by simpa using hst
              subst this; simp only [cond_true]; rw [e]; exact .v _
    | false => simp only [cond_false]; exact h7 s
  · exact absurd rfl hne
theorem vclone_step {es : Nat} (hes0 : 0 < es) {z : List Value} {a0 : AV} {l : List (List AV)} {H : Heap} {b : Nat} {t : Bool} (hisn : pvF (.isn false) [a0] = some (.v (.bool t))) (ht : t = true → l = [])
    (hw : ∀ (fm : FM) (w : World) (L : Nat → Loc) (x : Value), VR fm w L x a0 → VR fm w L x (.rd es l)) (hlen : ∀ e ∈ l, e.length = es) (hmax : l.length ≤ maxEl) {env : Env} (he : lookE env 0 = a0) {Q : Ex → ASt → Prop}
    (h1 : l = [] → ∀ env, lookE env 2 = .emp → ∃ st', Wk ⟨env, H, b⟩ st' ∧ Q .ret st') (h2 : ∀ env, lookE env 2 = .ref H.length 0 l.length → Q .ret ⟨env, H ++ [some ⟨es, l⟩], b⟩) : Sat C (vcloneC es z) Q ⟨env, H, b⟩ := by
  unfold vcloneC
  refine sat_seq (sat_reg ?_)
  simp only [evOps, evAI, evOpF_ff, evOp, evG, opK, opd, put, applyUs, Ex.then]
  refine sat_seq (sat_seq (sat_reg ?_))
  simp only [evOps, evAI, evOpF_ff, evOp, evG, opK, opd, put, applyUs, Ex.then, List.map_cons, List.map_nil, lookE]
  refine ⟨.v (.bool t), ?_, ?_⟩
  · simp only [Nat.reduceBEq, cond_true, cond_false, he]; exact hisn
  refine sat_cond (b := t) (by simp [opd, lookE]) (fun e => ?_) (fun e => ?_)
  · subst e
    refine sat_seq (sat_reg ?_)
    simp only [evOps, evAI, evOpF_ff, evOp, evG, opK, opd, put, applyUs, Ex.then, refine1]
    obtain ⟨st', hwk, hq⟩ := h1 (ht rfl) ((2, .emp) :: (4, .v (.bool true)) :: (4, .v (.bool true)) :: (3, bif (2 : Nat) == 0 then .emp else lookE env 0) :: (2, .emp) :: env) (by simp [lookE])
    exact Sat.wk hwk (sat_ret hq)
  · subst e
    refine sat_skip ?_
    simp only [Ex.then, refine1]
    refine Sat.wk (s := ⟨[(0, .rd es l)], H, b⟩) ?_ ?_
    · intro fm n w0 L0 a w hs
      obtain ⟨k1, k2, k3, L, k4, k5, k6, k7⟩ := hs
      refine ⟨k1, k2, k3, L, k4, k5, k6, fun s => ?_⟩
      simp only [lookE]
      cases hst : ((0 : Nat) == s) with
      | true =>
        have : 0 = s := by simpa using hst
        subst this
        simp only [cond_true]
        have := k7 0
        simp only [lookE, Nat.reduceBEq, cond_false] at this
        rw [he] at this
        exact hw _ _ _ _ this
      | false => simp only [cond_false]; exact .u _
    · refine sat_seq (sat_reg ?_)
      simp only [evOps, evAI, evOpF_ff, evOp, evG, opK, opd, put, applyUs, Ex.then, fillE, List.replicate_zero, lookE, Nat.reduceBEq, cond_true, cond_false, appK, true_and]
      refine ⟨hmax, hlen, fun h0 => absurd h0 (by omega), ?_⟩
      refine sat_ret (h2 _ (by simp [lookE]))
theorem vclone_rd {es : Nat} (hes0 : 0 < es) {z : List Value} {l : List (List AV)} {H : Heap} {b : Nat} (hlen : ∀ e ∈ l, e.length = es) (hmax : l.length ≤ maxEl) {env : Env} (he : lookE env 0 = .rd es l) {Q : Ex → ASt → Prop}
    (h1 : l = [] → ∀ env, lookE env 2 = .emp → ∃ st', Wk ⟨env, H, b⟩ st' ∧ Q .ret st') (h2 : ∀ env, lookE env 2 = .ref H.length 0 l.length → Q .ret ⟨env, H ++ [some ⟨es, l⟩], b⟩) : Sat C (vcloneC es z) Q ⟨env, H, b⟩ := by
  cases l with
  | nil =>
    refine vsat_empty he (fun A c => ?_)
    refine vclone_step hes0 (a0 := .v (.slice A 0 c)) (t := A.isNone) rfl (fun _ => rfl) (fun fm w L x hx => ?_) (fun e he => by cases he) hmax (by simp [lookE]) h1 h2
    rw [vr_v hx]; exact .rd0 A es c
  | cons e0 l0 =>
    exact vclone_step hes0 (a0 := .rd es (e0 :: l0)) (t := false) rfl (fun h => by cases h) (fun _ _ _ _ h => h) hlen hmax he h1 h2
end
theorem vclone_aux {C : Ctx} {c : Cs} {n : Nat} {z : List Value} {Kp : Nat → Prop} {H : Heap} {pls : Pl} {args : List AV} (x : List c.den) (hn : 1 ≤ n) (hmax : x.length ≤ maxEl) (hw0 : 0 < c.width) (hct : CT [] pls [.l c x] args) (hrs : HRel Kp H [] pls H) (hfr : FrOK Kp H)
    (h9 : wfX [some (.sq c x)] [some (.sq c x)] = true) :
    args.length ≤ n ∧ Sat C (vcloneC c.width z) (RetQ [.t 2] (encT [some (.sq c x)] (plI pls 0 H.length [some (.sq c x)]) (.ref 0)) (heapI Kp H 0 [some (.sq c x)] (plI pls 0 H.length [some (.sq c x)]))) ⟨entryE 0 args, H, H.length⟩ := by
  obtain ⟨a, ra, rfl, ha, hra⟩ := hct.inv
  have hra0 : ra = [] := List.length_eq_zero_iff.1 hra.1.symm
  subst hra0
  refine ⟨by simpa using hn, ?_⟩
  have hcoe : Coe a (.rd c.width (x.map c.enc)) := by
    cases ha with
    | l _ _ _ hc => exact hc
  have hw : Wk ⟨entryE 0 [a], H, H.length⟩ ⟨[(0, .rd c.width (x.map c.enc))], H, H.length⟩ := by
    intro fm n w0 L0 aa w hs
    obtain ⟨k1, k2, k3, L, k4, k5, k6, k7⟩ := hs
    refine ⟨k1, k2, k3, L, k4, k5, k6, fun s => ?_⟩
    have := k7 s
    simp only [entryE, lookE] at this ⊢
    cases hst : ((0 : Nat) == s) with
    | true => rw [hst] at this; simp only [cond_true] at this ⊢; exact vr_coe hcoe this
    | false => simp only [cond_false]; exact .u _
  refine Sat.wk hw ?_
  have fin : ∀ env, lookE env 2 = .ref H.length 0 (x.map c.enc).length →
      RetQ [.t 2] (encT [some (.sq c x)] (plI pls 0 H.length [some (.sq c x)]) (.ref 0)) (heapI Kp H 0 [some (.sq c x)] (plI pls 0 H.length [some (.sq c x)])) .ret ⟨env, H ++ [some ⟨c.width, x.map c.enc⟩], H.length⟩ := by
    intro env he
    refine ⟨[lookE env 2], ⟨rfl, trivial⟩, ?_⟩
    simp only [tupR, he]
    have hr0 : HRel Kp H [] (fun _ => none) H := ⟨fun a o h => (by cases h), fun p q x h => (by cases h), fun p x h => (by cases h), hrs.fr, fun p x h => (by cases h), Nat.le_refl _⟩
    have hrow : Rows (x.map c.enc) c x := by
      refine ⟨by simp, fun i e v' k1 k2 => ?_⟩
      rw [List.getElem?_map, k2, Option.map_some] at k1
      injection k1 with k1; subst k1
      exact ⟨rfl, fun j x x' k1 k2 => by rw [k1] at k2; injection k2 with k2; subst k2; exact .refl _⟩
    obtain ⟨hr, _⟩ := hr_push hr0 (.sq c x) ⟨c.width, x.map c.enc⟩ (fun _ => ⟨H.length, x.map c.enc, by simp [plS], by simp, hw0, hrow⟩)
    have ht : TR ([] ++ [some (VObj.sq c x)]) (plS (fun _ => none) (.m 0) (some H.length)) (.ref 0) (.ref H.length 0 (x.map c.enc).length) :=
      .ref 0 H.length (.sq c x) _ rfl (by simp [lenO]) (by simp [plS])
    exact fin_I (Xs := []) (pls := pls) (m := [0]) (s := ⟨env, H ++ [some ⟨c.width, x.map c.enc⟩], H.length⟩) hrs hfr hr rfl (Nat.zero_le _) (fun i hi => absurd hi (Nat.not_lt_zero _)) (by simp) (List.nil_prefix) ht rfl h9
  refine vclone_rd hw0 (l := x.map c.enc) (fun e he => ?_) (by simpa using hmax) (by simp [lookE]) (fun h0 env he => ?_) (fun env he => fin env he)
  · obtain ⟨w, _, rfl⟩ := List.mem_map.1 he
    exact enc_len c w
  · refine ⟨_, wk_new he hw0, ?_⟩
    have := fin ((2, .ref H.length 0 0) :: env) (by rw [h0]; simp [lookE])
    rw [h0] at this
    exact this
theorem vclone_fok {P : Program} {fm : FM} {C : Ctx} (hC : CtxOK P fm C) (hm : P.follows .mixedOrders = true) {f : FuncId} {g n : Nat} {c : Cs} {z : List Value} (h : fnTr P fm C.pf f = some (n, [.t 2], vcloneC c.width z)) (hn : 1 ≤ n) :
    FOK P fm f (vcloneE g c).RI := by
  refine fok_of_sat hC hm h (by simp) ?_
  rintro args H r H' ⟨x, y, vs, Xs, pls, Kp, v, l, X2, h1, h2, h3, hct, hrs, hfr, hall, h5, h6, h7, h8, h9, h10, rfl, rfl⟩
  have key : ∀ (x y : List c.den), (bif Nat.ble x.length maxEl && Nat.ble 1 c.width then some x else none) = some y → Sg.fill ⟨[0], [.l c], [], .cons (.l c) .nil⟩ x = some ⟨zipE [0] vs, Xs⟩ → vs.length = 1 → fillV (.ref 0) (unp (.cons (.l c) .nil) y) = some (v, l) → fillOs [.sq c] l = some (X2, []) →
      x.length ≤ maxEl ∧ 0 < c.width ∧ vs = [.l c x] ∧ Xs = [] ∧ v = .ref 0 ∧ X2 = [some (.sq c x)] := by
    intro x y hF hfill hlen e5 e6
    obtain ⟨hb, hF⟩ := cond_ok hF
    injection hF with hF; subst hF
    simp only [Bool.and_eq_true, Nat.ble_eq] at hb
    have hu : unp (.cons (.l c) .nil) x = [⟨.l c, x⟩] := rfl
    unfold Sg.fill at hfill
    simp only [hu, fillVs, fillV, asL_refl, fillOs] at hfill
    injection hfill with hfill; injection hfill with hz hX
    obtain ⟨w0, rfl⟩ := List.length_eq_one_iff.1 hlen
    simp only [zipE, List.cons.injEq, Prod.mk.injEq, and_true, true_and] at hz
    simp only [hu, fillV, Option.some.injEq, Prod.mk.injEq] at e5
    obtain ⟨rfl, rfl⟩ := e5
    simp only [fillOs, fillO, asL_refl, Option.some.injEq, Prod.mk.injEq, and_true] at e6
    exact ⟨hb.1, hb.2, by rw [hz], hX.symm, rfl, e6.symm⟩
  have hlen : vs.length = 1 := by
    unfold Sg.read at h2
    split at h2
    · rename_i svs sos k1 k2
      obtain ⟨e1, _⟩ := cond_ok h2
      simp only [Bool.and_eq_true] at e1
      have := SV.eqs_of e1.1
      rw [← shs_len k1, this]; rfl
    · cases h2
  obtain ⟨k1, k2, rfl, rfl, rfl, rfl⟩ := key x y h1 (read_fill h2) hlen h5 h6
  exact vclone_aux (c := c) x hn k1 k2 hct hrs hfr h9
def vclonePE (g : Nat) (c : Cs) : FnE := ⟨g, true, ⟨[0], [.l c], [], .cons (.l c) .nil⟩, .l c, [], .cons (.l c) .nil,
  fun (l : List c.den) => bif Nat.ble l.length maxEl && Nat.ble 1 c.width then some l else none⟩
theorem vcloneP_fok {P : Program} {fm : FM} {C : Ctx} (hC : CtxOK P fm C) (hm : P.follows .mixedOrders = true) {f : FuncId} {g n : Nat} {c : Cs} {z : List Value} (h : fnTr P fm C.pf f = some (n, [.t 2], vcloneC c.width z)) (hn : 1 ≤ n) :
    FOK P fm f (pureC (vclonePE g c).R) := by
  refine fok_pure hC hm h (by simp) ?_
  rintro args r ⟨x, y, vs, v, h1, h2, h3, rfl, h5, h6, rfl⟩
  have key : ∀ (x y : List c.den), (bif Nat.ble x.length maxEl && Nat.ble 1 c.width then some x else none) = some y → Sg.fill ⟨[0], [.l c], [], .cons (.l c) .nil⟩ x = some ⟨zipE [0] vs, []⟩ → vs.length = 1 → fillV (.l c) (unp (.cons (.l c) .nil) y) = some (v, []) →
      x.length ≤ maxEl ∧ 0 < c.width ∧ vs = [.l c x] ∧ v = .l c x := by
    intro x y hF hfill hlen e5
    obtain ⟨hb, hF⟩ := cond_ok hF
    injection hF with hF; subst hF
    simp only [Bool.and_eq_true, Nat.ble_eq] at hb
    have hu : unp (.cons (.l c) .nil) x = [⟨.l c, x⟩] := rfl
    unfold Sg.fill at hfill
    simp only [hu, fillVs, fillV, asL_refl, fillOs] at hfill
    injection hfill with hfill; injection hfill with hz _
    obtain ⟨w0, rfl⟩ := List.length_eq_one_iff.1 hlen
    simp only [zipE, List.cons.injEq, Prod.mk.injEq, and_true, true_and] at hz
    simp only [hu, fillV, asL_refl, Option.some.injEq, Prod.mk.injEq, and_true] at e5
    exact ⟨hb.1, hb.2, by rw [hz], e5.symm⟩
  have hlen : vs.length = 1 := by
    unfold Sg.read at h2
    split at h2
    · rename_i svs sos k1 k2
      obtain ⟨e1, _⟩ := cond_ok h2
      simp only [Bool.and_eq_true] at e1
      have := SV.eqs_of e1.1
      rw [← shs_len k1, this]; rfl
    · cases h2
  obtain ⟨k1, k2, rfl, rfl⟩ := key x y h1 (read_fill h2) hlen h5
  clear h1 h2 h5 key hlen h3 h6
  generalize hxx : (show List c.den from x) = xx
  have hxx : x = xx := hxx
  subst hxx
  refine ⟨by simpa [avTs] using hn, fun k => ?_⟩
  have main : ∀ x : List c.den, x.length ≤ maxEl → Sat C (vcloneC c.width z) (RetP k [.t 2] (avT (.l c x))) ⟨entryE 0 (avTs [.l c x]), Z k [], k⟩ := by
    intro x k1
    have fin : ∀ env, lookE env 2 = .ref (Z k []).length 0 (x.map c.enc).length → RetP k [.t 2] (avT (.l c x)) .ret ⟨env, Z k [] ++ [some ⟨c.width, x.map c.enc⟩], k⟩ := by
      intro env he
      refine ⟨rfl, [lookE env 2], ⟨rfl, trivial⟩, ?_⟩
      simp only [tupR, he]
      have hrow : Rows (x.map c.enc) c x := by
        refine ⟨by simp, fun i e v' k1 k2 => ?_⟩
        rw [List.getElem?_map, k2, Option.map_some] at k1
        injection k1 with k1; subst k1
        exact ⟨rfl, fun j x x' k1 k2 => by rw [k1] at k2; injection k2 with k2; subst k2; exact .refl _⟩
      obtain ⟨hr, _⟩ := hr_push (hrel_nil k) (.sq c x) ⟨c.width, x.map c.enc⟩ (fun _ => ⟨(Z k []).length, x.map c.enc, by simp [plS], by simp, k2, hrow⟩)
      have ht : TR ([] ++ [some (VObj.sq c x)]) (plS (fun _ => none) (.m 0) (some (Z k []).length)) (.ref 0) (.ref (Z k []).length 0 (x.map c.enc).length) :=
        .ref 0 (Z k []).length (.sq c x) _ rfl (by simp [lenO]) (by simp [plS])
      exact dat_ok hr ht rfl
    refine vclone_rd (by simpa [Nat.ble_eq] using k2) (l := x.map c.enc) (fun e he => ?_) (by simpa using k1) (by simp [avTs, avT, entryE, lookE]) (fun h0 env he => ?_) (fun env he => fin env he)
    · obtain ⟨w, _, rfl⟩ := List.mem_map.1 he
      exact enc_len c w
    · refine ⟨_, wk_new he k2, ?_⟩
      have := fin ((2, .ref (Z k []).length 0 0) :: env) (by rw [h0]; simp [lookE])
      rw [h0] at this
      exact this
  exact main x k1
theorem vcloneP_sound {P : Program} {fm : FM} {T : Tabs} (hS : Sound P fm T) (hm : P.follows .mixedOrders = true) {g : Nat} (c : Cs) (hp : T.pf g = true) (z : List Value) (n : Nat) (hn : 1 ≤ n)
    (htie : ∀ f, fm f = g → fnTr P fm T.pf f = some (n, [.t 2], vcloneC c.width z)) : Sound P fm ⟨T.pf, vclonePE g c :: T.fs, T.ls, 0⟩ := by
  obtain ⟨C, hC, hT⟩ := hS
  exact ⟨ctxAdd C g (pureC (vclonePE g c).R), ctxAdd_ok hC (fun _ => pure_pureC _) (fun f hf => vcloneP_fok hC hm (by rw [hT.p.pf]; exact htie f hf) hn), tok_addP (e := vclonePE g c) hT hp⟩
theorem vclone_sound {P : Program} {fm : FM} {T : Tabs} (hS : Sound P fm T) (hm : P.follows .mixedOrders = true) {g : Nat} (c : Cs) (hp : T.pf g = false) (z : List Value) (n : Nat) (hn : 1 ≤ n)
    (htie : ∀ f, fm f = g → fnTr P fm T.pf f = some (n, [.t 2], vcloneC c.width z)) : Sound P fm ⟨T.pf, vcloneE g c :: T.fs, T.ls, 0⟩ := by
  obtain ⟨C, hC, hT⟩ := hS
  have hpC : C.pf g = true → Pure (vcloneE g c).RI := fun h => by rw [hT.p.pf, hp] at h; cases h
  exact ⟨ctxAdd C g (vcloneE g c).RI, ctxAdd_ok hC hpC (fun f hf => vclone_fok hC hm (by rw [hT.p.pf]; exact htie f hf) hn), tok_add (e := vcloneE g c) hT (fun h => by rw [show (vcloneE g c).g = g from rfl, hp] at h; cases h) (fun _ _ _ _ _ h => h)⟩
end Go.Abs
