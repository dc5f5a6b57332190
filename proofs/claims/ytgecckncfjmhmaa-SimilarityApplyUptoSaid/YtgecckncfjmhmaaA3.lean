/- Functions that touch no object of others: from code over typed values to the model's function. No condition. -/
import Derived.Test.YtgecckncfjmhmaaA2
import Derived.KernelRfl
namespace Go.Abs
set_option linter.unusedSimpArgs false
open Go Go.RowKit
section
variable {Fr : Nat → Prop} {H0 : Heap} {X : VHeap} {pl : Pl} {H : Heap}
theorem dats_map (X : VHeap) : ∀ l : List TV, TV.dats X l = l.map (TV.dat X)
  | [] => rfl
  | a :: r => by simp [TV.dats, dats_map X r]
theorem dat_ok (hr : HRel Fr H0 X pl H) {v : TV} {a : AV} (h : TR X pl v a) : dataT (v.dat X) = true → Out H a (avT (v.dat X)) := by
  have one : ∀ {v : TV} {a : AV}, TR X pl v a → v.dat X = v → dataT (v.dat X) = true → Out H a (avT (v.dat X)) := by
    intro v a ht e hd
    rw [e] at hd ⊢
    exact cz_of_coe (data_coe ht hd) (nr_avT v)
  have list : ∀ {cs : List TV} {as : List AV}, cs.length = as.length → (∀ (j : Nat) (c : TV) (a : AV), cs[j]? = some c → as[j]? = some a → dataT (c.dat X) = true → Out H a (avT (c.dat X))) → dataTs (TV.dats X cs) = true →
      as.length = (avTs (TV.dats X cs)).length ∧ ∀ (j : Nat) (x x' : AV), as[j]? = some x → (avTs (TV.dats X cs))[j]? = some x' → Out H x x' := by
    intro cs as hl h hd
    refine ⟨by simp [avTs_map, dats_map, hl], fun j x x' h1 h2 => ?_⟩
    rw [avTs_map, dats_map, List.map_map, List.getElem?_map, Option.map_eq_some_iff] at h2
    obtain ⟨c, h2, rfl⟩ := h2
    refine h j c x h2 h1 (dataTs_mem hd j _ ?_)
    rw [dats_map, List.getElem?_map, h2]; rfl
  induction h with
  | i k n => exact one (.i k n) rfl
  | b x => exact one (.b x) rfl
  | s x => exact one (.s x) rfl
  | l c v a h => exact one (.l c v a h) rfl
  | e c => intro _; simp only [TV.dat, avT, List.map_nil]; exact .empRd _
  | ref a x o n h hn hp =>
    intro hd
    simp only [TV.dat, h] at hd ⊢
    cases o with
    | sq c l =>
      simp only [lenO] at hn; injection hn with hn; subst hn
      have := frz_sq (Fz := fun _ => True) (h1 := fun _ => none) hr h hp trivial (Nat.le_refl _)
      rw [List.take_length] at this
      exact this
    | fm c ver hole l =>
      cases hole with
      | some i => cases hd
      | none =>
        simp only [lenO] at hn; injection hn with hn; subst hn
        exact frz_fm (Fz := fun _ => True) (h1 := fun _ => none) hr h hp (fun _ _ _ _ => trivial)
    | st cs => cases hd
    | sb s =>
      simp only [lenO] at hn; injection hn with hn; subst hn
      exact frz_sb (Fz := fun _ => True) (h1 := fun _ => none) hr h hp trivial
  | pre a x m o n h hn hp h0 hm =>
    intro hd
    simp only [TV.dat, h] at hd ⊢
    cases o with
    | sq c l =>
      simp only [lenO] at hn; injection hn with hn; subst hn
      exact frz_sq (Fz := fun _ => True) (h1 := fun _ => none) hr h hp trivial hm
    | fm c ver hole l => cases hd
    | st cs => cases hd
    | sb s => cases hd
  | refD a av h ha => intro hd; simp only [TV.dat, h] at hd; cases hd
  | preD a m av h ha => intro hd; simp only [TV.dat, h] at hd; cases hd
  | ag cs as hl h ih =>
    intro hd
    have := list hl ih hd
    exact .agg _ _ this.1 this.2
  | tp cs as hl h ih =>
    intro hd
    have := list hl ih hd
    exact .tup _ _ this.1 this.2
  | clo g cs as hl h ih =>
    intro hd
    have := list hl ih hd
    exact .clo g _ _ this.1 this.2
  | _ => intro hd; cases hd
theorem res_ok {s : VSt} {st : ASt} (he : ERel s.heap pl s.env st.env) (hr : HRel Fr H0 s.heap pl st.heap) : ∀ {rs : List RV} {vs : List TV}, resVs s rs = some vs → ∃ as, resAll st rs as ∧ CT s.heap pl vs as
  | [], vs, h => by simp only [resVs] at h; injection h with h; subst h; exact ⟨[], trivial, .nil⟩
  | r :: rs, vs, h => by
    simp only [resVs] at h
    split at h
    · rename_i v vs' h1 h2
      injection h with h; subst h
      obtain ⟨as, k1, k2⟩ := res_ok he hr h2
      cases r with
      | t n =>
        simp only [resV1] at h1; injection h1 with h1; subst h1
        exact ⟨_ :: as, ⟨rfl, k1⟩, .cons (he n) k2⟩
      | c n g sz =>
        simp only [resV1] at h1
        have hx : TR s.heap pl (vlook s.env n) (opd st.env (.t n)) := he n
        have key : ∃ va, evG (.load g sz (.t n)) st.env (hf st.heap) 0 (fun v' _ => v' = va) ∧ TR s.heap pl v va := by
          have := vload_ok (KA := fun va => TR s.heap pl v va) h1 hx hr (fun w wa e1 e2 => by injection e1 with e1; subst e1; exact e2)
          have hev : evG (.load g sz (.t n)) st.env (hf st.heap) 0 (fun va _ => TR s.heap pl v va) := this
          obtain ⟨va, us, g1, g2⟩ := evG_det _ _ _ _ _ hev
          refine ⟨va, ?_, g1⟩
          simp only [evG, opK] at g2 ⊢
          revert g2
          generalize opd st.env (.t n) = p
          intro g2
          have lm : ∀ {cs : List AV}, loadK g sz cs (fun a => a = va ∧ ([] : List Upd) = us) → loadK g sz cs (fun a => a = va) := fun h => by
            cases g with
            | true => exact ⟨h.1, h.2.1⟩
            | false => obtain ⟨c, h1, h2, _⟩ := h; exact ⟨c, h1, h2⟩
          split at g2 <;> first | exact lm g2 | skip
          · obtain ⟨o, ho, e, he', hl⟩ := g2; exact ⟨o, ho, e, he', lm hl⟩
          · exact g2.elim
        obtain ⟨va, g1, g2⟩ := key
        exact ⟨va :: as, ⟨g1, k1⟩, .cons g2 k2⟩
    · cases h
theorem tup_ok {vs : List TV} {as : List AV} (h : CT X pl vs as) : TR X pl (tupV vs) (tupR as) := by
  match vs, as, h with
  | [], as, h =>
    have := h.1
    cases as with
    | nil => exact .tp _ _ rfl (fun j c a h => by simp at h)
    | cons _ _ => simp at this
  | [v], as, h =>
    obtain ⟨a, r, rfl, h1, h2⟩ := h.inv
    have := h2.1
    cases r with
    | nil => exact h1
    | cons _ _ => simp at this
  | v :: w :: r, as, h =>
    have hl := h.1
    match as, hl with
    | a :: b :: r', _ => exact .tp _ _ h.1 h.2
theorem zip_entry : ∀ (i : Nat) (vs : List TV), dataTs vs = true → ERel X pl (zipE (List.range' i vs.length) vs) (entryE i (avTs vs))
  | i, [], _ => fun t => .u _
  | i, v :: vs, h => by
    simp only [dataTs, Bool.and_eq_true] at h
    intro t
    simp only [List.length_cons, List.range'_succ, zipE, avTs, entryE, vlook, lookE]
    have e0 : (i == t) = Nat.beq i t := by rw [Bool.eq_iff_iff, beq_iff_eq, Nat.beq_eq]
    rw [e0]
    cases Nat.beq i t with
    | true => exact data_tr v h.1
    | false => exact zip_entry (i + 1) vs h.2 t
theorem hrel_nil (k : Nat) : HRel (fun _ => False) [] [] (fun _ => none) (Z k []) :=
  ⟨fun a o h => (by cases h), fun p q x h => (by cases h), fun p x h => (by cases h), fun x h => h.elim, fun p x h => (by cases h), Nat.zero_le _⟩
theorem shs_len : ∀ {vs : List TV} {svs : List SV}, TV.shs vs = some svs → svs.length = vs.length
  | [], svs, h => by simp only [TV.shs] at h; injection h with h; subst h; rfl
  | a :: vs, svs, h => by
    simp only [TV.shs] at h
    split at h
    · rename_i x xs h1 h2; injection h with h; subst h; simp [shs_len h2]
    · cases h
theorem avTs_len (vs : List TV) : (avTs vs).length = vs.length := by simp [avTs_map]
theorem readV_fill {sv : SV} {c : Cs} {v : TV} {y : c.den} (h : readV sv c v = some y) : fillV sv (unp c y) = some (v, []) := by
  unfold readV at h
  split at h
  · rename_i sv' hs
    obtain ⟨h1, h2⟩ := cond_ok h
    have e1 := SV.eq_of h1
    have hu := unp_pack v.lv
    generalize packL v.lv = p at h2 hu
    obtain ⟨c', z⟩ := p
    simp only at h2 hu
    obtain ⟨e, he⟩ := Cs.cast_some h2
    have hx : unp c y = v.lv := by
      rw [← hu, ← he]
      clear h2 hu he
      subst e
      rfl
    rw [hx, ← e1]
    have := fill_sh [] hs
    rwa [List.append_nil] at this
  · cases h
def Sound (P : Program) (fm : FM) (T : Tabs) : Prop := ∃ C : Ctx, CtxOK P fm C ∧ TOK T C
theorem sound_nil (P : Program) (fm : FM) (pf : Nat → Bool) (ls : List LpE) : Sound P fm ⟨pf, [], ls, 0⟩ :=
  ⟨ctxOf pf [], ctx_nil P fm pf, ⟨rfl, fun e h => by cases h⟩, fun e h => by cases h⟩
def ctxAdd (C : Ctx) (g : Nat) (R : Contract) : Ctx := ⟨fun h args H r H' => C.C h args H r H' ∨ (h = g ∧ R args H r H'), C.pf⟩
theorem ctxAdd_ok {P : Program} {fm : FM} {C : Ctx} {g : Nat} {R : Contract} (h : CtxOK P fm C) (hp : C.pf g = true → Pure R) (hf : ∀ f, fm f = g → FOK P fm f R) : CtxOK P fm (ctxAdd C g R) := by
  refine ⟨fun f args H r H' hc => ?_, fun f args H r H' hp' hc => ?_, fun f args r n hp' hc => ?_⟩
  · rcases hc with hc | ⟨e, hc⟩
    · exact h.ok f args H r H' hc
    · exact hf f e args H r H' hc
  · rcases hc with hc | ⟨e, hc⟩
    · exact h.nr f args H r H' hp' hc
    · exact (hp (e ▸ hp')).nr _ _ _ _ hc
  · rcases hc with hc | ⟨e, hc⟩
    · exact .inl (h.any f args r n hp' hc)
    · exact .inr ⟨e, (hp (e ▸ hp')).any _ _ _ hc⟩
theorem tok_add {T : Tabs} {C : Ctx} (h : TOK T C) {e : FnE} {R : Contract} (hR : T.pf e.g = true → ∀ args r, e.R args r → R args [] r []) (hI : T.pf e.g = false → ∀ args H r H', e.RI args H r H' → R args H r H') : TOK ⟨T.pf, e :: T.fs, T.ls, 0⟩ (ctxAdd C e.g R) := by
  refine ⟨⟨h.p.pf, fun e' he' hp args r hr => ?_⟩, fun e' he' hp args H r H' hr => ?_⟩
  · rcases List.mem_cons.1 he' with rfl | he'
    · exact .inr ⟨rfl, hR hp _ _ hr⟩
    · exact .inl (h.p.fn e' he' hp args r hr)
  · rcases List.mem_cons.1 he' with rfl | he'
    · exact .inr ⟨rfl, hI hp _ _ _ _ hr⟩
    · exact .inl (h.fnI e' he' hp args H r H' hr)
theorem pure_add {e : FnE} {args : List AV} {r : AV} (hr : e.R args r) : pureC e.R args [] r [] := by
  refine ⟨0, rfl, rfl, ?_, ?_, hr⟩
  · obtain ⟨x, y, vs, v, h1, h2, h3, rfl, h5, h6, rfl⟩ := hr
    exact fun a ha => nr_avTs vs a ha
  · obtain ⟨x, y, vs, v, h1, h2, h3, rfl, h5, h6, rfl⟩ := hr
    exact nr_avT v
theorem tok_addP {T : Tabs} {C : Ctx} (h : TOK T C) {e : FnE} (hp : T.pf e.g = true) : TOK ⟨T.pf, e :: T.fs, T.ls, 0⟩ (ctxAdd C e.g (pureC e.R)) :=
  tok_add h (fun _ _ _ hr => pure_add hr) (fun hq => by rw [hp] at hq; cases hq)
theorem fok_fn {P : Program} {fm : FM} {T : Tabs} {C : Ctx} (hC : CtxOK P fm C) (hT : TOK T C) (hm : P.follows .mixedOrders = true) {e : FnE} {F : VFn} {f : FuncId}
    (htie : fnTr P fm T.pf f = some (F.slots, F.res, F.code.er)) (h4 : F.res.length ≤ 4) (hts : e.args.ts = List.range' 0 e.args.vs.length) (hsl : e.args.vs.length ≤ F.slots)
    (hkb : T.kb = 0) (hl : LsOK (fun _ => False) [] C T F.code) (hF : ∀ x y, e.F x = some y → evP T F e.args e.res e.co x = some y) : FOK P fm f (pureC e.R) := by
  refine fok_pure hC hm (by rw [hT.p.pf]; exact htie) h4 ?_
  rintro args r ⟨x, y, vs, v, h1, h2, h3, rfl, h5, h6, rfl⟩
  have hlen : e.args.vs.length = vs.length := by
    unfold Sg.read at h2
    split at h2
    · rename_i svs sos k1 k2
      obtain ⟨e1, _⟩ := cond_ok h2
      simp only [Bool.and_eq_true] at e1
      rw [← SV.eqs_of e1.1, shs_len k1]
    · cases h2
  refine ⟨by rw [avTs_len, ← hlen]; exact hsl, fun k => ?_⟩
  have hev := hF x y h1
  unfold evP at hev
  rw [read_fill h2] at hev
  simp only at hev
  have hvs : VS (fun _ => False) [] (T.kb, fun _ => none) k ⟨zipE e.args.ts vs, []⟩ ⟨entryE 0 (avTs vs), Z k [], k⟩ := by
    refine ⟨rfl, by rw [hkb]; exact Nat.zero_le _, fun _ => none, ?_, hrel_nil k, fun i hi x hx => by cases hx⟩
    show ERel _ _ (zipE e.args.ts vs) _
    rw [hts, hlen]; exact zip_entry 0 vs h3
  refine ev_ok hT frNo hev hl hvs (fun ex s' st' g1 g2 => ?_)
  have post : (match resVs s' F.res with | some vs => readV e.res e.co ((tupV vs).dat s'.heap) | none => none) = some y → st'.base = k ∧ ∃ vs, resAll st' F.res vs ∧ Out st'.heap (tupR vs) (avT v) := by
    intro g1
    split at g1
    · rename_i ws hws
      obtain ⟨hb, _, pl, he, hr, _⟩ := g2
      obtain ⟨as, k1, k2⟩ := res_ok he hr hws
      have hfill := readV_fill g1
      rw [h5] at hfill
      injection hfill with hfill; injection hfill with hfill _
      refine ⟨hb, as, k1, ?_⟩
      rw [hfill]
      exact dat_ok hr (tup_ok k2) (by rw [← hfill]; exact h6)
    · cases g1
  cases ex with
  | exit id => cases g1
  | nor => exact post g1
  | ret => exact post g1
theorem fn_sound {P : Program} {fm : FM} {T : Tabs} (hS : Sound P fm T) (hm : P.follows .mixedOrders = true) (L : List LpE) (e : FnE) (hp : T.pf e.g = true) (F : VFn)
    (htie : ∀ f, fm f = e.g → fnTr P fm T.pf f = some (F.slots, F.res, F.code.er)) (h4 : F.res.length ≤ 4) (hts : e.args.ts = List.range' 0 e.args.vs.length) (hsl : e.args.vs.length ≤ F.slots)
    (hl : ∀ C, TOK ⟨T.pf, T.fs, L, 0⟩ C → LsOK (fun _ => False) [] C ⟨T.pf, T.fs, L, 0⟩ F.code) (hF : ∀ x y, e.F x = some y → evP ⟨T.pf, T.fs, L, 0⟩ F e.args e.res e.co x = some y) : Sound P fm ⟨T.pf, e :: T.fs, T.ls, 0⟩ := by
  obtain ⟨C, hC, hT⟩ := hS
  have hT' : TOK ⟨T.pf, T.fs, L, 0⟩ C := ⟨⟨hT.p.pf, hT.p.fn⟩, hT.fnI⟩
  exact ⟨ctxAdd C e.g (pureC e.R), ctxAdd_ok hC (fun _ => pure_pureC _) (fun f hf => fok_fn hC hT' hm (htie f hf) h4 hts hsl rfl (hl C hT') hF), tok_addP hT hp⟩
theorem sound_fok {P : Program} {fm : FM} {T : Tabs} (hS : Sound P fm T) {e : FnE} (he : e ∈ T.fs) (hp : T.pf e.g = true) {f : FuncId} (hf : fm f = e.g) {args : List AV} {r : AV} (h : e.R args r) {W : World} {vals : Array Value} (hsz : vals.size = args.length)
    (hv : ∀ j a, args[j]? = some a → VR fm W noLoc (vals.getD j undef) a) : Calls P f vals W fun ex W' => ∃ v, ex = .returned v ∧ Keep noLoc W W' ∧ ∃ L', VR fm W' L' v r := by
  obtain ⟨C, hC, hT⟩ := hS
  have h1 := hT.p.fn e he hp args r h
  rw [← hf] at h1
  obtain ⟨_, h2⟩ := hC.ok f args [] r [] h1
  refine (h2 W noLoc vals (noLoc_hr fm W) hsz hv).mono ?_
  rintro ex w' ⟨v, L', rfl, hk, _, _, hvr⟩
  exact ⟨v, rfl, hk, L', hvr⟩
end
end Go.Abs
namespace Go.Abs
set_option linter.unusedSimpArgs false
open Go Go.RowKit
theorem readR_fill {sv : SV} {os : List SO} {c : Cs} {v : TV} {X : VHeap} {y : c.den} (h : readR sv os c v X = some y) : fillV sv (unp c y) = some (v, lvOs X) ∧ fillOs os (lvOs X) = some (X, []) := by
  unfold readR at h
  split at h
  · rename_i sv' os' h1 h2
    obtain ⟨e1, e2⟩ := cond_ok h
    simp only [Bool.and_eq_true] at e1
    have q1 := SV.eq_of e1.1; have q2 := SO.eqs_of e1.2
    have hu := unp_pack (v.lv ++ lvOs X)
    generalize packL (v.lv ++ lvOs X) = p at e2 hu
    obtain ⟨c', z⟩ := p
    simp only at e2 hu
    obtain ⟨e, he⟩ := Cs.cast_some e2
    have hx : unp c y = v.lv ++ lvOs X := by
      rw [← hu, ← he]
      clear e2 hu he
      subst e
      rfl
    subst q1; subst q2
    refine ⟨by rw [hx]; exact fill_sh _ h1, ?_⟩
    have := fillOs_sh [] h2
    rwa [List.append_nil] at this
  · cases h
section
variable {Fr : Nat → Prop} {H0 : Heap} {X : VHeap} {pl : Pl} {H : Heap}
theorem zip_entryC : ∀ (i : Nat) (vs : List TV) (as : List AV), CT X pl vs as → ERel X pl (zipE (List.range' i vs.length) vs) (entryE i as)
  | i, [], as, _ => fun t => .u _
  | i, v :: vs, as, h => by
    obtain ⟨a, r, rfl, h1, h2⟩ := h.inv
    intro t
    simp only [List.length_cons, List.range'_succ, zipE, entryE, vlook, lookE]
    have e0 : (i == t) = Nat.beq i t := by rw [Bool.eq_iff_iff, beq_iff_eq, Nat.beq_eq]
    rw [e0]
    cases Nat.beq i t with
    | true => exact h1
    | false => exact zip_entryC (i + 1) vs r h2 t
theorem cz_enc {m : List Nat} {q : Pl} {ρ : Nat → Nat} {H' : HF} {X2 : VHeap}
    (look : ∀ {b i o}, idxV m b 0 = some i → vget X b = some o → ∀ {x}, pl (.m b) = some x → vget X2 i = some (o.ren fun a => idxV m a 0) ∧ ∃ z, q (.m i) = some z ∧ ρ z = x ∧ ∃ o', H' z = some (some o'))
    (dead : ∀ {b i}, idxV m b 0 = some i → vget X b = none → vget X2 i = none) {tv : TV} {av : AV} (h : TR X pl tv av) :
    wfT X2 (tv.ren fun a => idxV m a 0) = true → Cz ρ (fun _ => False) (hf H) H' av (encT X2 q (tv.ren fun a => idxV m a 0)) := by
  have hn : ∀ (o : VObj), lenO (o.ren fun a => idxV m a 0) = lenO o ∧ elN (o.ren fun a => idxV m a 0) = elN o := fun o => by cases o <;> exact ⟨rfl, rfl⟩
  have list : ∀ {cs : List TV} {as : List AV}, cs.length = as.length → (∀ (j : Nat) (c : TV) (a : AV), cs[j]? = some c → as[j]? = some a → wfT X2 (c.ren fun a => idxV m a 0) = true → Cz ρ (fun _ => False) (hf H) H' a (encT X2 q (c.ren fun a => idxV m a 0))) → wfTs X2 (TV.rens (fun a => idxV m a 0) cs) = true →
      as.length = (encTs X2 q (TV.rens (fun a => idxV m a 0) cs)).length ∧ ∀ (j : Nat) (x x' : AV), as[j]? = some x → (encTs X2 q (TV.rens (fun a => idxV m a 0) cs))[j]? = some x' → Cz ρ (fun _ => False) (hf H) H' x x' := by
    intro cs as hl h hd
    refine ⟨by simp [encTs_map, rens_map, hl], fun j x x' h1 h2 => ?_⟩
    rw [encTs_map, rens_map, List.map_map, List.getElem?_map, Option.map_eq_some_iff] at h2
    obtain ⟨c, h2, rfl⟩ := h2
    refine h j c x h2 h1 ?_
    have wf : ∀ {l : List TV} {j : Nat} {c : TV}, wfTs X2 l = true → l[j]? = some c → wfT X2 c = true := by
      intro l
      induction l with
      | nil => intro j c _ h; simp at h
      | cons a l ih =>
        intro j c hw hj
        simp only [wfTs, Bool.and_eq_true] at hw
        cases j with
        | zero => simp at hj; subst hj; exact hw.1
        | succ j => exact ih hw.2 (by simpa using hj)
    refine wf hd (j := j) ?_
    rw [rens_map, List.getElem?_map, h2]; rfl
  induction h with
  | i k n => intro _; exact .v _
  | b x => intro _; exact .v _
  | s x => intro _; exact .v _
  | l c v a h => intro _; exact cz_of_coe h (nr_enc (.l c) v)
  | e c => intro hw; exact .emp
  | u a => intro _; exact .u _
  | v x => intro _; exact .u _
  | ref a x o n h hl hp =>
    intro hw
    simp only [TV.ren] at hw ⊢
    split
    · rename_i i hi
      obtain ⟨h1, z, h2, rfl, o', h3⟩ := look hi h hp
      have hs : seqN X2 i = n := by simp only [seqN, h1, (hn o).1, hl, Option.getD_some]
      simp only [encT, h2, hs]
      exact .ref z 0 n o' h3
    · exact .u _
  | refD a av h ha =>
    intro hw
    simp only [TV.ren] at hw ⊢
    split
    · rename_i i hi
      simp only [hi, wfT, dead hi h] at hw; cases hw
    · exact .u _
  | pre a x k o n h hl hp h0 hm =>
    intro hw
    simp only [TV.ren] at hw ⊢
    split
    · rename_i i hi; simp only [hi, wfT] at hw; cases hw
    · exact .u _
  | preD a k av h ha =>
    intro hw
    simp only [TV.ren] at hw ⊢
    split
    · rename_i i hi; simp only [hi, wfT] at hw; cases hw
    · exact .u _
  | ptr a i j x o h hi hp =>
    intro hw
    simp only [TV.ren] at hw ⊢
    split
    · rename_i b hb
      obtain ⟨h1, z, h2, rfl, o', h3⟩ := look hb h hp
      simp only [encT, h2]
      exact .ptr z i j o' h3
    · exact .u _
  | ptrD a i j av h ha =>
    intro hw
    simp only [TV.ren] at hw ⊢
    split
    · rename_i b hb
      simp only [hb, wfT, dead hb h, Bool.and_false] at hw; cases hw
    · exact .u _
  | np a x o h hp =>
    intro hw
    simp only [TV.ren] at hw ⊢
    split
    · rename_i b hb
      obtain ⟨h1, z, h2, rfl, o', h3⟩ := look hb h hp
      simp only [encT, h2]
      exact .np z o' h3
    · exact .u _
  | npD a av h ha =>
    intro hw
    simp only [TV.ren] at hw ⊢
    split
    · rename_i b hb
      simp only [hb, wfT, dead hb h] at hw; cases hw
    · exact .u _
  | ag cs as hl h ih =>
    intro hw
    have := list hl ih hw
    exact .agg _ _ this.1 this.2
  | tp cs as hl h ih =>
    intro hw
    have := list hl ih hw
    exact .tup _ _ this.1 this.2
  | clo g cs as hl h ih =>
    intro hw
    have := list hl ih hw
    exact .clo g _ _ this.1 this.2
  | _ => intro _; exact .u _
theorem shOs_len : ∀ {X : VHeap} {so : List SO}, shOs X = some so → so.length = X.length
  | [], so, h => by simp only [shOs] at h; injection h with h; subst h; rfl
  | none :: X, so, h => by
    simp only [shOs] at h
    split at h
    · rename_i xs h2; injection h with h; subst h; simp [shOs_len h2]
    · cases h
  | some o :: X, so, h => by
    simp only [shOs] at h
    split at h
    · rename_i x xs h1 h2; injection h with h; subst h; simp [shOs_len h2]
    · cases h
theorem getElem?_pre {l m : List Nat} (h : l <+: m) {i : Nat} (hi : i < l.length) : m[i]? = l[i]? := by
  obtain ⟨r, rfl⟩ := h
  rw [List.getElem?_append_left hi]
theorem fin_I {Kp : Nat → Prop} {Xs : VHeap} {pls : Pl} {Xh : VHeap} {ph : Pl} {s : ASt} {v : TV} {a : AV} {m : List Nat} (hrs : HRel Kp H Xs pls H) (hfr : FrOK Kp H) (hr : HRel Kp H Xh ph s.heap) (hb : s.base = H.length) (hk : Xs.length ≤ Xh.length)
    (hpk : ∀ i, i < Xs.length → ∀ x, ph (.m i) = some x → pls (.m i) = some x) (hnd : m.Nodup) (hpre : List.range Xs.length <+: m) (ht : TR Xh ph v a)
    (hw : wfT (renX Xh m) (v.ren fun a => idxV m a 0) = true) (hX : wfX (renX Xh m) (renX Xh m) = true) :
    Fin s a (encT (renX Xh m) (plI pls Xs.length H.length (renX Xh m)) (v.ren fun a => idxV m a 0)) (heapI Kp H Xs.length (renX Xh m) (plI pls Xs.length H.length (renX Xh m))) := by
  have hlm : Xs.length ≤ m.length := by simpa using hpre.length_le
  have hlX : (renX Xh m).length = m.length := by simp [renX]
  have hlen : Xs.length ≤ (renX Xh m).length := by omega
  let ρ : Nat → Nat := fun z => if z < H.length then z else match m[Xs.length + (z - H.length)]? with | some b => (ph (.m b)).getD z | none => z
  have hlow : ∀ z, z < H.length → ρ z = z := fun z hz => by simp only [ρ, if_pos hz]
  have hm1 : ∀ {i}, i < Xs.length → m[i]? = some i := fun {i} hi => by
    rw [getElem?_pre hpre (by simpa using hi), List.getElem?_range hi]
  have src : ∀ {i o}, vget (renX Xh m) i = some o → ∃ b ob x, m[i]? = some b ∧ vget Xh b = some ob ∧ o = ob.ren (fun a => idxV m a 0) ∧ ph (.m b) = some x ∧ ∃ z, plI pls Xs.length H.length (renX Xh m) (.m i) = some z ∧ ρ z = x := by
    intro i o ho
    have ho' := ho
    unfold renX at ho'
    rw [vget_map] at ho'
    cases hb : m[i]? with
    | none => rw [hb] at ho'; cases ho'
    | some b =>
      rw [hb] at ho'
      simp only [Option.bind_some, Option.map_eq_some_iff] at ho'
      obtain ⟨ob, hob, rfl⟩ := ho'
      obtain ⟨x, hx⟩ := placed hr hob
      refine ⟨b, ob, x, rfl, hob, rfl, hx, ?_⟩
      by_cases hi : i < Xs.length
      · have := hm1 hi; rw [hb] at this; injection this with this; subst this
        have hz := hpk b hi x hx
        exact ⟨x, by simp only [plI, ho, if_pos hi]; exact hz, hlow x (hrs.bd hz)⟩
      · refine ⟨H.length + (i - Xs.length), by simp only [plI, ho, if_neg hi], ?_⟩
        simp only [ρ]
        rw [if_neg (by omega), show Xs.length + (H.length + (i - Xs.length) - H.length) = i by omega, hb]
        simp only [hx, Option.getD_some]
  have hat := fun {i x : Nat} => heapI_at (Xs := Xs) hrs hlen (i := i) (x := x)
  have hkp := fun {x : Nat} => heapI_kp (Xs := Xs) hrs (X2 := renX Xh m) (x := x)
  have hqi := fun {p q : Pos} {x : Nat} => plI_inj (Xs := Xs) hrs (X2 := renX Xh m) (p := p) (q := q) (x := x)
  have hqv : ∀ {i x}, plI pls Xs.length H.length (renX Xh m) (.m i) = some x → ∃ o, vget (renX Xh m) i = some o := by
    intro i x h
    simp only [plI] at h
    split at h
    · exact ⟨_, by assumption⟩
    · cases h
  have hHl := heapI_len Kp H Xs.length (renX Xh m) (plI pls Xs.length H.length (renX Xh m))
  have hinv := fun {x : Nat} {o : AObj} => heapI_inv (Kp := Kp) (H := H) (Xs := Xs) (pls := pls) (X2 := renX Xh m) (x := x) (o := o)
  generalize hH' : heapI Kp H Xs.length (renX Xh m) (plI pls Xs.length H.length (renX Xh m)) = H' at hat hkp hHl hinv ⊢
  generalize hq : plI pls Xs.length H.length (renX Xh m) = q at hat hqi hqv hinv src ⊢
  have look : ∀ {b i o}, idxV m b 0 = some i → vget Xh b = some o → ∀ {x}, ph (.m b) = some x → vget (renX Xh m) i = some (o.ren fun a => idxV m a 0) ∧ ∃ z, q (.m i) = some z ∧ ρ z = x ∧ ∃ o', hf H' z = some (some o') := by
    intro b i o hi ho x hx
    have hmi := (idxV_spec hi).2
    simp only [Nat.sub_zero] at hmi
    have hv : vget (renX Xh m) i = some (o.ren fun a => idxV m a 0) := by rw [ren_get hmi, ho]; rfl
    obtain ⟨b', ob, x', h1, h2, h3, h4, z, h5, h6⟩ := src hv
    rw [hmi] at h1; injection h1 with h1; subst h1
    rw [hx] at h4; injection h4 with h4; subst h4
    exact ⟨hv, z, h5, h6, _, hat h5⟩
  have dead : ∀ {b i}, idxV m b 0 = some i → vget Xh b = none → vget (renX Xh m) i = none := by
    intro b i hi ho
    have hmi := (idxV_spec hi).2
    simp only [Nat.sub_zero] at hmi
    rw [ren_get hmi, ho]; rfl
  have keepA : ∀ x, Kp x → ρ x = x ∧ ∃ o, hf H' x = some (some o) := fun x hx => by
    obtain ⟨⟨o, ho⟩, _⟩ := hfr x hx
    exact ⟨hlow x (hrs.fr x hx).1, o, (hkp hx).trans ho⟩
  refine fin_cz ρ (fun _ => False) ⟨fun a b o o' h1 h2 he => ?_, fun a ha => ⟨hlow a (by omega), fun _ => ?_⟩, fun a o' ho => ⟨fun h => h, ?_⟩⟩ (cz_enc look dead ht hw)
  · rcases hinv h1 with ⟨k1, _⟩ | ⟨i, k1, _⟩ <;> rcases hinv h2 with ⟨k2, _⟩ | ⟨j, k2, _⟩
    · rw [(keepA a k1).1, (keepA b k2).1] at he; exact he
    · obtain ⟨o2, ho2⟩ := hqv k2
      obtain ⟨b', ob, x, g1, g2, g3, g4, z, g5, g6⟩ := src ho2
      rw [k2] at g5; injection g5 with g5; subst g5
      rw [(keepA a k1).1, g6] at he
      exact absurd (he ▸ k1) (hr.nfr _ _ g4)
    · obtain ⟨o2, ho2⟩ := hqv k1
      obtain ⟨b', ob, x, g1, g2, g3, g4, z, g5, g6⟩ := src ho2
      rw [k1] at g5; injection g5 with g5; subst g5
      rw [(keepA b k2).1, g6] at he
      exact absurd (he ▸ k2) (hr.nfr _ _ g4)
    · obtain ⟨o1, ho1⟩ := hqv k1
      obtain ⟨o2, ho2⟩ := hqv k2
      obtain ⟨b1, ob1, x1, g1, g2, g3, g4, z1, g5, g6⟩ := src ho1
      obtain ⟨b2, ob2, x2, f1, f2, f3, f4, z2, f5, f6⟩ := src ho2
      rw [k1] at g5; injection g5 with g5; subst g5
      rw [k2] at f5; injection f5 with f5; subst f5
      rw [g6, f6] at he
      rw [he] at g4
      have := hr.inj _ _ _ g4 f4
      injection this with this; subst this
      have i1 := idxV_of hnd g1
      have i2 := idxV_of hnd f1
      rw [i1] at i2; injection i2 with i2; subst i2
      rw [k1] at k2; injection k2
  · show H'[a]? ≠ none
    rw [List.getElem?_eq_getElem (by rw [hHl]; omega)]; simp
  · rcases hinv ho with ⟨k1, k2⟩ | ⟨i, k1, k2⟩
    · refine ⟨o', ?_, rfl, rfl, fun j e e' h1 h2 => ?_⟩
      · show s.heap[ρ a]? = _
        rw [(keepA a k1).1, (hr.fr a k1).2]; exact k2
      · rw [h1] at h2; injection h2 with h2; subst h2
        refine ⟨rfl, fun j x x' h3 h4 => ?_⟩
        rw [h3] at h4; injection h4 with h4; subst h4
        exact cz_refin keepA ((hfr a k1).2 o' k2 e (List.mem_of_getElem? h1) x (List.mem_of_getElem? h3))
    · obtain ⟨o2, ho2⟩ := hqv k1
      obtain ⟨b, ob, x, g1, g2, g3, g4, z, g5, g6⟩ := src ho2
      rw [k1] at g5; injection g5 with g5; subst g5
      have hob := hr.obj b ob g2
      cases ob with
      | fm c ver hole l => rcases wfX_get hX ho2 with ⟨_, _, e, _⟩ | ⟨_, e, _⟩ | ⟨_, e⟩ <;> (rw [g3] at e; cases e)
      | sb s0 =>
        obtain ⟨x', e1, e2⟩ := hob
        rw [g4] at e1; injection e1 with e1; subst e1
        have g3 : o2 = .sb s0 := g3
        subst g3
        rw [k2]
        simp only [encO, ho2]
        refine ⟨⟨0, strA s0⟩, by show s.heap[ρ a]? = _; rw [g6]; exact e2, rfl, rfl, fun j e e' h1 h2 => ?_⟩
        rw [h1] at h2; injection h2 with h2; subst h2
        refine ⟨rfl, fun k y y' h3 h4 => ?_⟩
        rw [h3] at h4; injection h4 with h4; subst h4
        obtain ⟨n, hn⟩ := get_pair (strL_rows s0).1.symm h1
        have := (strL_rows s0).2 j e n h1 hn
        subst this
        cases k with
        | zero => simp at h3; subst h3; exact .v _
        | succ k => simp at h3
      | sq c l =>
        obtain ⟨x', el, e1, e2, e3, e4⟩ := hob
        rw [g4] at e1; injection e1 with e1; subst e1
        have g3 : o2 = .sq c l := g3
        subst g3
        rw [k2]
        simp only [encO, ho2]
        refine ⟨⟨c.width, el⟩, by show s.heap[ρ a]? = _; rw [g6]; exact e2, rfl, by simp [e4.1], fun j e e' h1 h2 => ?_⟩
        simp only [List.getElem?_map, Option.map_eq_some_iff] at h2
        obtain ⟨w, h2, rfl⟩ := h2
        have := e4.2 j e w h1 h2
        exact ⟨this.1, fun k y y' h3 h4 => cz_of_coe (this.2 k y y' h3 h4) (nr_encs c w y' (List.mem_of_getElem? h4))⟩
      | st cs =>
        obtain ⟨x', e, e1, e2, e3, e4⟩ := hob
        rw [g4] at e1; injection e1 with e1; subst e1
        have g3 : o2 = .st (TV.rens (fun a => idxV m a 0) cs) := g3
        subst g3
        rcases wfX_get hX ho2 with ⟨_, _, e, _⟩ | ⟨cs', e5, _, hwc⟩ | ⟨_, e⟩
        · cases e
        rotate_left
        · cases e
        · injection e5 with e5; subst e5
          rw [k2]
          simp only [encO, ho2]
          refine ⟨⟨cs.length, [e]⟩, by show s.heap[ρ a]? = _; rw [g6]; exact e2, by simp [rens_map], rfl, fun j f f' h1 h2 => ?_⟩
          cases j with
          | succ j => simp at h1
          | zero =>
            simp at h1 h2; subst h1; subst h2
            have := cz_enc (H := s.heap) (tv := .tp cs) look dead (.tp cs e e4.1 e4.2) (by simpa [TV.ren, wfT] using hwc)
            simp only [TV.ren, encT] at this
            cases this with
            | tup _ _ hl hc => exact ⟨hl, hc⟩
theorem fok_fnI {P : Program} {fm : FM} {T : Tabs} {C : Ctx} (hC : CtxOK P fm C) (hT : TOK T C) (hm : P.follows .mixedOrders = true) {e : FnE} {F : VFn} {f : FuncId}
    (htie : fnTr P fm T.pf f = some (F.slots, F.res, F.code.er)) (h4 : F.res.length ≤ 4) (hts : e.args.ts = List.range' 0 e.args.vs.length) (hsl : e.args.vs.length ≤ F.slots)
    (hkb : T.kb = e.args.os.length) (hl : ∀ Fr H0, FrOK Fr H0 → LsOK Fr H0 C T F.code) (hF : ∀ x y, e.F x = some y → evI T F e.args e.res e.os e.co x = some y) : FOK P fm f e.RI := by
  refine fok_of_sat hC hm (by rw [hT.p.pf]; exact htie) h4 ?_
  rintro args H r H' ⟨x, y, vs, Xs, pls, Kp, v, l, X2, h1, h2, h3, hct, hrs, hfr, hall, h5, h6, h7, h8, h9, h10, rfl, rfl⟩
  have hlen : e.args.vs.length = vs.length ∧ e.args.os.length = Xs.length := by
    unfold Sg.read at h2
    split at h2
    · rename_i svs sos k1 k2
      obtain ⟨e1, _⟩ := cond_ok h2
      simp only [Bool.and_eq_true] at e1
      exact ⟨by rw [← SV.eqs_of e1.1, shs_len k1], by rw [← SO.eqs_of e1.2, shOs_len k2]⟩
    · cases h2
  refine ⟨by rw [← hct.1, ← hlen.1]; exact hsl, ?_⟩
  have hev := hF x y h1
  unfold evI at hev
  rw [read_fill h2] at hev
  simp only at hev
  have hkb' : T.kb = Xs.length := hkb.trans hlen.2
  have hvs : VS Kp H (T.kb, fun i => pls (.m i)) H.length ⟨zipE e.args.ts vs, Xs⟩ ⟨entryE 0 args, H, H.length⟩ := by
    refine ⟨rfl, by rw [hkb']; exact Nat.le_refl _, pls, ?_, hrs, fun i hi x hx => hx⟩
    show ERel _ _ (zipE e.args.ts vs) _
    rw [hts, hlen.1]; exact zip_entryC 0 vs args hct
  refine ev_ok hT hfr hev (hl Kp H hfr) hvs (fun ex s' st' g1 g2 => ?_)
  have post : (match resVs s' F.res with | some vs => (match retI T.kb (tupV vs) s'.heap with | (v, X) => readR e.res e.os e.co v X) | none => none) = some y →
      ∃ as, resAll st' F.res as ∧ Fin st' (tupR as) (encT X2 (plI pls Xs.length H.length X2) v) (heapI Kp H Xs.length X2 (plI pls Xs.length H.length X2)) := by
    intro g1
    split at g1
    · rename_i ws hws
      obtain ⟨hb, hkl, ph, he, hr, hpk⟩ := g2
      obtain ⟨as, k1, k2⟩ := res_ok he hr hws
      have hr := hr_nrm hr
      have k3 := TR.nrm _ ((tup_ok k2).ext nrm_ext)
      have hkl' : Xs.length ≤ (nrmX s'.heap).length := by rw [← hkb']; simpa [nrmX] using hkl
      unfold retI at g1
      simp only at g1
      have hmin : min T.kb (nrmX s'.heap).length = Xs.length := by omega
      rw [hmin] at g1
      generalize nrmX s'.heap = Xh at g1 hr k3 hkl' hmin
      generalize (tupV ws).nrm = tw at g1 k3
      have hnd : (reachV Xh 5 (addIds Xh (List.range Xs.length) tw.ids)).Nodup := reachV_ok (addIds_ok List.nodup_range)
      have hpre : List.range Xs.length <+: reachV Xh 5 (addIds Xh (List.range Xs.length) tw.ids) := (addIds_pre _ _ _).trans (reachV_pre _ _ _)
      generalize reachV Xh 5 (addIds Xh (List.range Xs.length) tw.ids) = m at g1 hnd hpre
      obtain ⟨q1, q2⟩ := readR_fill g1
      rw [h5] at q1; injection q1 with q1; injection q1 with q1 q3
      rw [← q3, h6] at q2; injection q2 with q2; injection q2 with q2 _
      subst q1; subst q2
      exact ⟨as, k1, fin_I hrs hfr hr hb hkl' (fun i hi z hz => hpk i (by rw [hkb']; exact hi) z hz) hnd hpre k3 h8 h9⟩
    · cases g1
  cases ex with
  | exit id => cases g1
  | nor => exact post g1
  | ret => exact post g1
theorem fnI_sound {P : Program} {fm : FM} {T : Tabs} (hS : Sound P fm T) (hm : P.follows .mixedOrders = true) (L : List LpE) (e : FnE) (hp : T.pf e.g = false) (F : VFn)
    (htie : ∀ f, fm f = e.g → fnTr P fm T.pf f = some (F.slots, F.res, F.code.er)) (h4 : F.res.length ≤ 4) (hts : e.args.ts = List.range' 0 e.args.vs.length) (hsl : e.args.vs.length ≤ F.slots)
    (hl : ∀ C, TOK ⟨T.pf, T.fs, L, e.args.os.length⟩ C → ∀ Fr H0, FrOK Fr H0 → LsOK Fr H0 C ⟨T.pf, T.fs, L, e.args.os.length⟩ F.code) (hF : ∀ x y, e.F x = some y → evI ⟨T.pf, T.fs, L, e.args.os.length⟩ F e.args e.res e.os e.co x = some y) : Sound P fm ⟨T.pf, e :: T.fs, T.ls, 0⟩ := by
  obtain ⟨C, hC, hT⟩ := hS
  have hT' : TOK ⟨T.pf, T.fs, L, e.args.os.length⟩ C := ⟨⟨hT.p.pf, hT.p.fn⟩, hT.fnI⟩
  have hpC : C.pf e.g = true → Pure e.RI := fun h => by rw [hT.p.pf, hp] at h; cases h
  exact ⟨ctxAdd C e.g e.RI, ctxAdd_ok hC hpC (fun f hf => fok_fnI hC hT' hm (htie f hf) h4 hts hsl rfl (hl C hT') hF), tok_add hT (fun h => by rw [hp] at h; cases h) (fun _ _ _ _ _ h => h)⟩
theorem fnI_rec {P : Program} {fm : FM} {T : Tabs} (hS : Sound P fm T) (hm : P.follows .mixedOrders = true) (e : FnE) (hp : T.pf e.g = false) (Fn : Nat → e.args.c.den → Option e.co.den) (L : Nat → List LpE) (F : VFn)
    (htie : ∀ f, fm f = e.g → fnTr P fm T.pf f = some (F.slots, F.res, F.code.er)) (h4 : F.res.length ≤ 4) (hts : e.args.ts = List.range' 0 e.args.vs.length) (hsl : e.args.vs.length ≤ F.slots)
    (h0 : ∀ x, Fn 0 x = none) (hlim : ∀ x y, e.F x = some y → ∃ n, Fn n x = some y)
    (hl : ∀ n C, TOK ⟨T.pf, ⟨e.g, e.pf, e.args, e.res, e.os, e.co, Fn n⟩ :: T.fs, L n, e.args.os.length⟩ C → ∀ Fr H0, FrOK Fr H0 → LsOK Fr H0 C ⟨T.pf, ⟨e.g, e.pf, e.args, e.res, e.os, e.co, Fn n⟩ :: T.fs, L n, e.args.os.length⟩ F.code)
    (hF : ∀ n x y, Fn (n + 1) x = some y → evI ⟨T.pf, ⟨e.g, e.pf, e.args, e.res, e.os, e.co, Fn n⟩ :: T.fs, L n, e.args.os.length⟩ F e.args e.res e.os e.co x = some y) : Sound P fm ⟨T.pf, e :: T.fs, T.ls, 0⟩ := by
  obtain ⟨C, hC, hT⟩ := hS
  have hpC : ∀ R : Contract, C.pf e.g = true → Pure R := fun R h => by rw [hT.p.pf, hp] at h; cases h
  have step : ∀ n f, fm f = e.g → FOK P fm f (FnE.RI ⟨e.g, e.pf, e.args, e.res, e.os, e.co, Fn n⟩) := by
    intro n
    induction n with
    | zero =>
      intro f _ args H r H' hc
      obtain ⟨x, y, vs, Xs, pls, Kp, v, l, X2, h1, _⟩ := hc
      have : Fn 0 x = some y := h1
      rw [h0] at this; cases this
    | succ n ih =>
      intro f hf
      have hC' := ctxAdd_ok hC (hpC _) ih
      have hT' := tok_add hT (e := ⟨e.g, e.pf, e.args, e.res, e.os, e.co, Fn n⟩) (R := FnE.RI ⟨e.g, e.pf, e.args, e.res, e.os, e.co, Fn n⟩) (fun h => by rw [hp] at h; cases h) (fun _ _ _ _ _ h => h)
      have hT2 : TOK ⟨T.pf, ⟨e.g, e.pf, e.args, e.res, e.os, e.co, Fn n⟩ :: T.fs, L n, e.args.os.length⟩ _ := ⟨⟨hT'.p.pf, hT'.p.fn⟩, hT'.fnI⟩
      exact fok_fnI (e := ⟨e.g, e.pf, e.args, e.res, e.os, e.co, Fn (n + 1)⟩) hC' hT2 hm (htie f hf) h4 hts hsl rfl (hl n _ hT2) (hF n)
  refine ⟨ctxAdd C e.g e.RI, ctxAdd_ok hC (hpC _) (fun f hf args H r H' hc => ?_), tok_add hT (fun h => by rw [hp] at h; cases h) (fun _ _ _ _ _ h => h)⟩
  obtain ⟨x, y, vs, Xs, pls, Kp, v, l, X2, h1, h2⟩ := hc
  obtain ⟨n, hn⟩ := hlim x y h1
  exact step n f hf args H r H' ⟨x, y, vs, Xs, pls, Kp, v, l, X2, hn, h2⟩
end
end Go.Abs
namespace Go.Abs
open Go
def cs : List Ty → Cs
  | [] => .nil
  | t :: r => .cons t (cs r)
abbrev I : Ty := .i .i64
abbrev o (d : Nat) (op : VOp) : VI := ⟨some d, op, none, false, false⟩
abbrev on (op : VOp) : VI := ⟨none, op, none, false, false⟩
abbrev og (d g : Nat) (w : Bool) (op : VOp) : VI := ⟨some d, op, some (g, w), false, false⟩
abbrev t (n : Nat) : VOpd := .t n
abbrev k (n : Int) : VOpd := .c (.one (.i .i64 n))
abbrev ki (kd : IntKind) (n : Int) : VOpd := .c (.one (.i kd n))
abbrev kb (x : Bool) : VOpd := .c (.one (.b x))
abbrev ks (x : ByteArray) : VOpd := .c (.one (.s x))
abbrev ke (c : Cs) : VOpd := .c (.one (.e c))
def alt2 {A B γ : Type} (y : A ⊕ B) (f : A → γ) (g : B → γ) : γ := match y with | .inl a => f a | .inr b => g b
theorem loopO_congr {S R : Type} {step s : S → Option (S ⊕ R)} (h : ∀ x, step x = s x) {x : S} {y : R} (hs : loopO s x = some y) : loopO step x = some y := by
  have : step = s := funext h
  rw [this]; exact hs
theorem tok_ls {p : Nat → Bool} {fs : List FnE} {l l' : List LpE} {k k' : Nat} {C : Ctx} (h : TOK ⟨p, fs, l, k⟩ C) : TOK ⟨p, fs, l', k'⟩ C := ⟨⟨h.p.pf, h.p.fn⟩, h.fnI⟩
theorem lsGet {Fr : Nat → Prop} {H0 : Heap} {kb : Nat} {C : Ctx} {code : ACode} {id : Nat} {ls : List LpE} {p : LpE} (h0 : findL id ls = some p) (hp : LpSound Fr H0 kb C code p) : ∀ e, findL id ls = some e → LpSound Fr H0 kb C code e := fun e h => by
  rw [h0] at h; injection h with h; subst h; exact hp
structure Lo where
  run : ∀ {S R : Type}, (S → Option (S ⊕ R)) → S → Option R
def LoOK (lo : Lo) : Prop := ∀ {S R : Type} (step : S → Option (S ⊕ R)) (x : S) (y : R), lo.run step x = some y → loopO step x = some y
theorem loopF_mono {S R : Type} {step : S → Option (S ⊕ R)} : ∀ {n m : Nat} {x : S} {y : R}, n ≤ m → loopF step n x = some y → loopF step m x = some y
  | 0, _, _, _, _, h => by cases h
  | n + 1, 0, _, _, h, _ => by omega
  | n + 1, m + 1, x, y, h, hy => by
    simp only [loopF] at hy ⊢
    split at hy
    · exact loopF_mono (by omega) hy
    · exact hy
    · cases hy
theorem loopO_of {S R : Type} {step : S → Option (S ⊕ R)} {n : Nat} {x : S} {y : R} (h : loopF step n x = some y) : loopO step x = some y := by
  have hx : ∃ n r, loopF step n x = some r := ⟨n, y, h⟩
  unfold loopO
  rw [dif_pos hx]
  have h2 := Classical.choose_spec (Classical.choose_spec hx)
  have k1 := loopF_mono (Nat.le_max_left n (Classical.choose hx)) h
  have k2 := loopF_mono (Nat.le_max_right n (Classical.choose hx)) h2
  rw [k1] at k2; injection k2 with k2; rw [k2]
noncomputable def loO : Lo := ⟨fun step x => loopO step x⟩
theorem loO_ok : LoOK loO := fun _ _ _ h => h
theorem loopO_eq {S R : Type} (step : S → Option (S ⊕ R)) (x : S) : loopO step x = match step x with | some (.inl s) => loopO step s | some (.inr r) => some r | none => none := by
  refine Option.ext (fun y => ⟨fun h => ?_, fun h => ?_⟩)
  · obtain ⟨n, hn⟩ := loopF_of h
    cases n with
    | zero => cases hn
    | succ n =>
      simp only [loopF] at hn
      split at hn
      · rename_i hs; rw [hs]; exact loopO_of hn
      · rename_i hs; rw [hs]; exact hn
      · cases hn
  · split at h
    · rename_i s hs
      obtain ⟨n, hn⟩ := loopF_of h
      exact loopO_of (n := n + 1) (by simp only [loopF, hs]; exact hn)
    · rename_i r hs
      exact loopO_of (n := 1) (by simp only [loopF, hs]; exact h)
    · cases h
def fixS {A B : Type} (f : Nat → A → Option B) : Nat × A → Option ((Nat × A) ⊕ B) := fun x => match f x.1 x.2 with
  | some y => some (.inr y)
  | none => some (.inl (x.1 + 1, x.2))
theorem fix_lim {A B : Type} {f : Nat → A → Option B} {n : Nat} {x : A} {y : B} (h : loopO (fixS f) (n, x) = some y) : ∃ m, f m x = some y := by
  obtain ⟨k, hk⟩ := loopF_of h
  induction k generalizing n with
  | zero => cases hk
  | succ k ih =>
    simp only [loopF, fixS] at hk
    cases hf : f n x with
    | some z => rw [hf] at hk; simp only at hk; injection hk with hk; subst hk; exact ⟨n, hf⟩
    | none => rw [hf] at hk; simp only at hk; exact ih (loopO_of hk) hk
end Go.Abs
