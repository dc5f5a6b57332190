/- Code in the abstract form, and what it says of the model's code. No condition. -/
import Derived.Test.YtppagmmeofoekaaDoorA
import Derived.ProofKit
set_option linter.unusedVariables false
set_option linter.unusedSimpArgs false
set_option linter.unusedSectionVars false
namespace Go.Abs
open Go Go.RowKit
structure SR (fm : FM) (n : Nat) (w0 : World) (L0 : Nat → Loc) (st : ASt) (a : Act) (w : World) : Prop where
  defers : a.defers = []
  size : a.tmps.size = n
  base : ∀ b, L0 b ≠ .fresh → b < st.base
  rel : ∃ L, Keep L0 w0 w ∧ LStep L0 L w0.heap.size ∧ HR fm w L (hf st.heap) ∧ ER fm w L a st.env
section
variable {P : Program} {fm : FM} {w : World} {L : Nat → Loc} {n : Nat} {w0 : World} {L0 : Nat → Loc}
theorem er_put {a : Act} {env : Env} (he : ER fm w L a env) {d : Nat} (hd : d < a.tmps.size) {x : Value} {v : AV} (hv : VR fm w L x v) : ER fm w L (a.put (some d) x) ((d, v) :: env) := by
  intro t
  simp only [Act.put, lookE]
  by_cases e : d = t
  · subst e
    have : (a.tmps.setIfInBounds d x).getD d undef = x := by simp [Array.getD, hd]
    simp [this, hv]
  · have h1 : (d == t) = false := by simp [e]
    have h2 : (a.tmps.setIfInBounds d x).getD t undef = a.tmps.getD t undef := by
      rw [Array.getD_eq_getD_getElem?, Array.getD_eq_getD_getElem?, Array.getElem?_setIfInBounds_ne e]
    rw [h1, h2]
    exact he t
theorem er_put' {a : Act} {env : Env} (he : ER fm w L a env) {d : Option Nat} (hd : ∀ k, d = some k → k < a.tmps.size) {x : Value} {v : AV} (hv : VR fm w L x v) : ER fm w L (a.put d x) (put env d v) := by
  cases d with
  | none => exact he
  | some d => exact er_put he (hd d rfl) hv
theorem er_refine {a : Act} {env : Env} (he : ER fm w L a env) {g : Nat} {b : Bool} (h : lookE env g = .v (.bool b)) : ER fm w L a ((g, .v (.bool b)) :: env) := by
  intro t
  simp only [lookE]
  by_cases e : g = t
  · subst e; have := he g; rw [h] at this; simpa using this
  · have h1 : (g == t) = false := by simp [e]
    rw [h1]; exact he t
theorem put_size (a : Act) (d : Option Nat) (x : Value) : (a.put d x).tmps.size = a.tmps.size := by cases d <;> simp [Act.put]
theorem put_defers (a : Act) (d : Option Nat) (x : Value) : (a.put d x).defers = a.defers := by cases d <;> rfl
theorem SR.step {st : ASt} {a : Act} (hs : SR fm n w0 L0 st a w) {env : Env} {H : Heap} {L' : Nat → Loc} {w' : World} {a' : Act} (hd : a'.defers = a.defers) (hz : a'.tmps.size = a.tmps.size)
    {L1 : Nat → Loc} (h1 : Keep L0 w0 w ∧ LStep L0 L1 w0.heap.size) (hk : Keep L1 w w') (hls : LStep L1 L' w.heap.size) (hr : HR fm w' L' (hf H)) (he : ER fm w' L' a' env) :
    SR fm n w0 L0 ⟨env, H, st.base⟩ a' w' :=
  ⟨hd.trans hs.defers, hz.trans hs.size, hs.base, L', h1.1.trans h1.2 hk, h1.2.trans (hls.mono h1.1.size), hr, he⟩
theorem trAI_spec {ops : Array Oper} {o : Oper} {y : AI} (h : trAI P fm n ops o = some y) :
    trOp P fm o = some y.op ∧ y.dst = o.dst ∧ (∀ k, o.dst = some k → k < n) ∧ y.old = false ∧ y.nw = false ∧
      (o.guard = none ∧ y.guard = none ∨ ∃ j want g, o.guard = some (j, want) ∧ (ops[j]?).bind (·.dst) = some g ∧ g < n ∧ y.guard = some (g, want)) := by
  have key : ∀ op, trOp P fm o = some op → (∀ k, o.dst = some k → k < n) → (match o.guard with
      | none => some (⟨o.dst, op, none, false, false⟩ : AI)
      | some (j, want) => match (ops[j]?).bind (·.dst) with
        | some g => if g < n then some ⟨o.dst, op, some (g, want), false, false⟩ else none
        | none => none) = some y → trOp P fm o = some y.op ∧ y.dst = o.dst ∧ (∀ k, o.dst = some k → k < n) ∧ y.old = false ∧ y.nw = false ∧
      (o.guard = none ∧ y.guard = none ∨ ∃ j want g, o.guard = some (j, want) ∧ (ops[j]?).bind (·.dst) = some g ∧ g < n ∧ y.guard = some (g, want)) := by
    intro op ho hd' h
    cases hg : o.guard with
    | none => rw [hg] at h; injection h with h; subst h; exact ⟨ho, rfl, hd', rfl, rfl, .inl ⟨rfl, rfl⟩⟩
    | some jw =>
      obtain ⟨j, want⟩ := jw
      simp only [hg] at h
      cases hgd : (ops[j]?).bind (·.dst) with
      | none => simp [hgd] at h
      | some g =>
        simp only [hgd] at h
        by_cases hlt : g < n
        · rw [if_pos hlt] at h; injection h with h; subst h; exact ⟨ho, rfl, hd', rfl, rfl, .inr ⟨j, want, g, rfl, hgd, hlt, rfl⟩⟩
        · rw [if_neg hlt] at h; cases h
  unfold trAI at h
  cases ho : trOp P fm o with
  | none => simp [ho] at h
  | some op =>
    simp only [ho] at h
    rw [← ho]
    obtain ⟨dst, oop, ty, pos, after, guard⟩ := o
    cases dst with
    | none => exact key op ho (fun k hk => by cases hk) h
    | some d =>
      by_cases hlt : d < n
      · simp only [decide_eq_true hlt] at h
        exact key op ho (fun k hk => by cases hk; exact hlt) h
      · simp only [decide_eq_false hlt] at h
        cases h
theorem yielded_of {ops : Array Oper} {j g : Nat} (h : (ops[j]?).bind (·.dst) = some g) {tmps : Array Value} (hg : g < tmps.size) {b : Bool} (hb : tmps.getD g undef = .bool b) :
    yielded ops tmps j = some b := by
  unfold yielded
  rw [h]
  simp only [Option.bind_some]
  have : tmps[g]? = some (.bool b) := by rw [getD_of_lt hg, hb]
  rw [this]
theorem yielded_no {ops : Array Oper} {j g : Nat} (h : (ops[j]?).bind (·.dst) = some g) {tmps : Array Value} (hg : g < tmps.size) (hb : tmps.getD g undef = undef) :
    yielded ops tmps j = none := by
  unfold yielded
  rw [h]
  simp only [Option.bind_some]
  have : tmps[g]? = some undef := by rw [getD_of_lt hg, hb]
  rw [this]
  rfl
theorem evAI_sound {C : Ctx} (hC : CtxOK P fm C) {ops : Array Oper} {o : Oper} {y : AI} (htr : trAI P fm n ops o = some y) {n0 : Nat → Prop} {K : ASt → Prop} {st : ASt} {a : Act} (hs : SR fm n w0 L0 st a w)
    (hev : evAI C n0 y K st) {Q : Exit → Act → World → Prop} :
    (Region.wanted o (yielded ops a.tmps) = true → o.wp P a w (fun a' w' => ∃ st', K st' ∧ SR fm n w0 L0 st' a' w') Q) ∧
    (Region.wanted o (yielded ops a.tmps) = false → ∃ st', K st' ∧ SR fm n w0 L0 st' (a.put o.dst undef) w) := by
  obtain ⟨hop, hdst, hdn, hold, hnw, hg⟩ := trAI_spec htr
  obtain ⟨dst, op, guard, old, nw⟩ := y
  simp only at hop hdst hold hnw hg
  subst hdst; subst hold; subst hnw
  obtain ⟨L1, hk1, hs1, hr1, he1⟩ := hs.rel
  have hdn' : ∀ k, o.dst = some k → k < a.tmps.size := fun k hk => by rw [hs.size]; exact hdn k hk
  have run : ∀ env, ER fm w L1 a env → evOp C op env st.heap (fun v H => K ⟨put env o.dst v, H, st.base⟩) →
      o.wp P a w (fun a' w' => ∃ st', K st' ∧ SR fm n w0 L0 st' a' w') Q := by
    intro env he hev
    refine Oper.wp_mono ?_ (evOp_sound hC hop hr1 he hev)
    rintro a' w' ⟨x, v, H', L', rfl, hk, k1, k2, k3, k4⟩
    refine ⟨_, hk, hs.step (put_defers _ _ _) (put_size _ _ _) ⟨hk1, hs1⟩ k1 k2 k3 (er_put' (fun t => (he t).mono k1 k2) hdn' k4)⟩
  have skip : ∀ env, ER fm w L1 a env → K ⟨put env o.dst (.v undef), st.heap, st.base⟩ → ∃ st', K st' ∧ SR fm n w0 L0 st' (a.put o.dst undef) w := by
    intro env he hk
    exact ⟨_, hk, hs.step (put_defers _ _ _) (put_size _ _ _) ⟨hk1, hs1⟩ (Keep.refl _ _) (LStep.refl _ _) hr1 (er_put' he hdn' (.v _))⟩
  rcases hg with ⟨hg1, hg2⟩ | ⟨j, want, g, hg1, hg2, hg3, hg4⟩
  · subst hg2
    refine ⟨fun _ => run st.env he1 ?_, fun h => ?_⟩
    · simpa [evAI, evOpF] using hev
    · simp [Region.wanted, hg1] at h
  · subst hg4
    have hwant : ∀ b, lookE st.env g = .v (.bool b) → Region.wanted o (yielded ops a.tmps) = (b == want) := by
      intro b hb
      have h1 := he1 g
      rw [hb] at h1
      have h2 := yielded_of hg2 (by rw [hs.size]; exact hg3) (vr_v h1)
      simp only [Region.wanted, hg1, h2]
      cases b <;> cases want <;> rfl
    have hno : lookE st.env g = .v undef → Region.wanted o (yielded ops a.tmps) = false := by
      intro hb
      have h1 := he1 g
      rw [hb] at h1
      have h2 := yielded_no hg2 (by rw [hs.size]; exact hg3) (vr_v h1)
      simp only [Region.wanted, hg1, h2]
      cases want <;> rfl
    cases want with
    | true =>
      rcases hev with ⟨b, hb, hev⟩ | ⟨hb, hev⟩
      case inr => rw [hno hb]; exact ⟨fun h => (by cases h), fun _ => skip _ he1 hev⟩
      have hb' : lookE st.env g = .v (.bool b) := hb
      rw [hwant b hb']
      cases b with
      | true => exact ⟨fun _ => run _ (er_refine he1 hb') (hev.1 rfl).2.2, fun h => by cases h⟩
      | false => exact ⟨fun h => (by cases h), fun _ => skip _ (er_refine he1 hb') (hev.2 rfl)⟩
    | false =>
      rcases hev with ⟨b, hb, hev⟩ | ⟨hb, hev⟩
      case inr => rw [hno hb]; exact ⟨fun h => (by cases h), fun _ => skip _ he1 hev⟩
      have hb' : lookE st.env g = .v (.bool b) := hb
      rw [hwant b hb']
      cases b with
      | true => exact ⟨fun h => (by cases h), fun _ => skip _ (er_refine he1 hb') (hev.1 rfl)⟩
      | false => exact ⟨fun _ => run _ (er_refine he1 hb') (hev.2 rfl).2.2, fun h => by cases h⟩
theorem mapOpt_cons {α β : Type} {f : α → Option β} {x : α} {r : List α} {ys : List β} (h : mapOpt f (x :: r) = some ys) : ∃ y zs, f x = some y ∧ mapOpt f r = some zs ∧ ys = y :: zs := by
  simp only [mapOpt] at h
  cases h1 : f x with
  | none => simp [h1] at h
  | some y =>
    cases h2 : mapOpt f r with
    | none => simp [h1, h2] at h
    | some zs => simp [h1, h2] at h; exact ⟨y, zs, rfl, rfl, h.symm⟩
theorem list_sound {C : Ctx} (hC : CtxOK P fm C) {ops : Array Oper} {n0 : Nat → Prop} {Q : Exit → Act → World → Prop} {K : ASt → Prop}
    (hQ : ∀ st a w, K st → SR fm n w0 L0 st a w → Q .normal a w) : ∀ (os : List Oper) (ys : List AI) (st : ASt) (a : Act) (w : World), mapOpt (trAI P fm n ops) os = some ys → evOps C n0 ys K st →
    SR fm n w0 L0 st a w → wpList P ops Q os a w
  | [], ys, st, a, w, hm, hev, hs => by
    simp [mapOpt] at hm; subst hm
    exact hQ st a w hev hs
  | o :: os, ys, st, a, w, hm, hev, hs => by
    obtain ⟨y, zs, h1, h2, rfl⟩ := mapOpt_cons hm
    obtain ⟨r1, r2⟩ := evAI_sound hC h1 hs hev (Q := Q)
    unfold wpList
    cases hw : Region.wanted o (yielded ops a.tmps) with
    | true =>
      rw [if_pos rfl]
      refine .inl (Oper.wp_mono ?_ (r1 hw))
      rintro a' w' ⟨st', hk, hs'⟩
      exact list_sound hC hQ os zs st' a' w' h2 hk hs'
    | false =>
      simp only [Bool.false_eq_true, if_false]
      obtain ⟨st', hk, hs'⟩ := r2 hw
      exact list_sound hC hQ os zs st' _ w h2 hk hs'
end
end Go.Abs
namespace Go.Abs
open Go Go.RowKit
def nmd (a : Nat) : AV → Prop
  | .ptr b _ _ => a = b
  | .ref b _ _ => a = b
  | .clo _ cs => ∃ c ∈ cs, nm1 a c
  | .agg cs => ∃ off len, AV.ref a off len ∈ cs
  | _ => False
def Named (op : AOp) (env : Env) (a : Nat) : Prop := ∃ x ∈ op.touched, nmd a (opd env x)
theorem fillK_det {env : Env} : ∀ (ps : List (Nat × Nat × Opd)) (l : List AV) (K : List AV → Prop), fillK l env ps K → ∃ cs, K cs ∧ fillK l env ps (fun c => c = cs)
  | [], l, K, h => ⟨l, h, rfl⟩
  | (off, n, x) :: r, l, K, h => by
    obtain ⟨cs, h1, h2, h3, h4⟩ := h
    obtain ⟨ds, h5, h6⟩ := fillK_det r _ K h4
    exact ⟨ds, h5, cs, h1, h2, h3, h6⟩
theorem fillE_det {env : Env} {es : Nat} : ∀ (ps : List (Nat × Opd)) (l : List (List AV)) (K : List (List AV) → Prop), fillE es l env ps K → ∃ cs, K cs ∧ fillE es l env ps (fun c => c = cs)
  | [], l, K, h => ⟨l, h, rfl⟩
  | (i, x) :: r, l, K, h => by
    obtain ⟨cs, h1, h2, h3, h4⟩ := h
    obtain ⟨ds, h5, h6⟩ := fillE_det r _ K h4
    exact ⟨ds, h5, cs, h1, h2, h3, h6⟩
theorem fillK_mono {env : Env} : ∀ (ps : List (Nat × Nat × Opd)) (l : List AV) {K K' : List AV → Prop}, (∀ c, K c → K' c) → fillK l env ps K → fillK l env ps K'
  | [], l, K, K', hk, h => hk _ h
  | (off, n, x) :: r, l, K, K', hk, h => by
    obtain ⟨cs, h1, h2, h3, h4⟩ := h
    exact ⟨cs, h1, h2, h3, fillK_mono r _ hk h4⟩
theorem fillE_mono {env : Env} {es : Nat} : ∀ (ps : List (Nat × Opd)) (l : List (List AV)) {K K' : List (List AV) → Prop}, (∀ c, K c → K' c) → fillE es l env ps K → fillE es l env ps K'
  | [], l, K, K', hk, h => hk _ h
  | (i, x) :: r, l, K, K', hk, h => by
    obtain ⟨cs, h1, h2, h3, h4⟩ := h
    exact ⟨cs, h1, h2, h3, fillE_mono r _ hk h4⟩
def DetK (G : (AV → List Upd → Prop) → Prop) : Prop := ∀ K, G K → ∃ v us, K v us ∧ G (fun v' us' => v' = v ∧ us' = us)
theorem loadK_det {g : Bool} {n : Nat} {cs : List AV} {K : AV → List Upd → Prop} (h : loadK g n cs fun a => K a []) : ∃ v us, K v us ∧ loadK g n cs (fun a => a = v ∧ ([] : List Upd) = us) := by
  cases g
  · obtain ⟨c, h1, h2⟩ := h; exact ⟨_, _, h2, c, h1, rfl, rfl⟩
  · obtain ⟨h1, h2⟩ := h; exact ⟨_, _, h2, h1, rfl, rfl⟩
theorem intBin_det {op : BinOp} {k : IntKind} {x y : Int} {K : Value → Prop} (h : intBin op k x y K) : ∃ v, K v ∧ intBin op k x y (fun v' => v' = v) := by
  cases op <;> simp only [intBin] at h ⊢ <;> first | exact ⟨_, h, rfl⟩ | exact ⟨_, h.2, h.1, rfl⟩
theorem strBin_det {op : BinOp} {x y : ByteArray} {K : Value → Prop} (h : strBin op x y K) : ∃ v, K v ∧ strBin op x y (fun v' => v' = v) := by
  cases op <;> simp only [strBin] at h ⊢ <;> first | exact h.elim | exact ⟨_, h, rfl⟩ | exact ⟨_, h.2, h.1, rfl⟩
theorem binK_det {op : BinOp} {a b : AV} {K : Value → Prop} (h : binK op a b K) : ∃ v, K v ∧ binK op a b (fun v' => v' = v) := by
  unfold binK at h ⊢
  split at h
  · obtain ⟨v, h1, h2⟩ := intBin_det h.2; exact ⟨v, h1, h.1, h2⟩
  · exact strBin_det h
  · exact h.elim
theorem slB_det {env : Env} {o : Option Opd} {d : Nat} {K : Nat → Prop} (h : slB env o d K) : ∃ n, K n ∧ ∀ K' : Nat → Prop, K' n → slB env o d K' := by
  cases o with
  | none => exact ⟨d, h, fun K' h => h⟩
  | some x => obtain ⟨k, n, e, h0, h⟩ := h; exact ⟨_, h, fun K' h => ⟨k, n, e, h0, h⟩⟩
theorem appK_det {es : Nat} {s : AV} {l : List (List AV)} {h : HF} {nid : Nat} {K : AV → List Upd → Prop} (hev : appK es s l h nid K) : ∃ v us, K v us ∧ appK es s l h nid (fun v' us' => v' = v ∧ us' = us) := by
  cases s <;> try exact hev.elim
  case emp => obtain ⟨h1, h2, h0, h3⟩ := hev; exact ⟨_, _, h3, h1, h2, h0, rfl, rfl⟩
  case ref a off len => obtain ⟨o, ha, h1, h2, h3, h4, h5, h6⟩ := hev; exact ⟨_, _, h6, o, ha, h1, h2, h3, h4, h5, rfl, rfl⟩
theorem evG_det (op : AOp) (env : Env) (h : HF) (nid : Nat) (K : AV → List Upd → Prop) (hev : evG op env h nid K) : ∃ v us, K v us ∧ evG op env h nid (fun v' us' => v' = v ∧ us' = us) := by
  cases op <;> simp only [evG, opK] at hev ⊢ <;> try exact hev.elim
  case pv => obtain ⟨r, h1, h2⟩ := hev; exact ⟨_, _, h2, r, h1, rfl, rfl⟩
  case mv => exact ⟨_, _, hev, rfl, rfl⟩
  case pick c a b =>
    obtain ⟨t, e, h1, h2⟩ := hev
    cases t
    · exact ⟨_, _, h2 rfl, false, e, (bsp_false _ _).mpr ⟨rfl, rfl⟩⟩
    · exact ⟨_, _, h1 rfl, true, e, (bsp_true _ _).mpr ⟨rfl, rfl⟩⟩
  case box => obtain ⟨cs, h1, h2, h3, h4⟩ := hev; exact ⟨_, _, h4, cs, h1, h2, h3, rfl, rfl⟩
  case alloc => exact ⟨_, _, hev, rfl, rfl⟩
  case build z ps => obtain ⟨cs, h1, h2⟩ := fillK_det _ _ _ hev; exact ⟨_, _, h1, fillK_mono _ _ (fun c e => by rw [e]; exact ⟨rfl, rfl⟩) h2⟩
  case bsl es z n ps => obtain ⟨cs, h1, h2⟩ := fillE_det _ _ _ hev; exact ⟨_, _, h1, fillE_mono _ _ (fun c e => by rw [e]; exact ⟨rfl, rfl⟩) h2⟩
  case load g n x =>
    split at hev <;> try exact hev.elim
    · exact loadK_det hev
    · obtain ⟨o, ha, e, he, h1⟩ := hev
      obtain ⟨v, us, h2, h3⟩ := loadK_det h1
      exact ⟨v, us, h2, o, ha, e, he, h3⟩
  case loadR g n x =>
    split at hev <;> try exact hev.elim
    exact loadK_det hev
  case store n x y =>
    split at hev <;> try exact hev.elim
    obtain ⟨o, ha, e, he, cs, hcs, h1, h2, h3⟩ := hev
    exact ⟨_, _, h3, o, ha, e, he, cs, hcs, h1, h2, rfl, rfl⟩
  case nilc x => split at hev <;> first | exact hev.elim | exact ⟨_, _, hev, rfl, rfl⟩
  case bin op x y => obtain ⟨v, h1, h2⟩ := binK_det hev; exact ⟨_, _, h1, (by
      have : ∀ {a b : AV} {K K' : Value → Prop}, (∀ v, K v → K' v) → binK op a b K → binK op a b K' := by
        intro a b K K' hk hb
        unfold binK at hb ⊢
        split at hb
        · refine ⟨hb.1, ?_⟩
          have hb := hb.2
          cases op <;> simp only [intBin] at hb ⊢ <;> first | exact hk _ hb | exact ⟨hb.1, hk _ hb.2⟩
        · cases op <;> simp only [strBin] at hb ⊢ <;> first | exact hb | exact hk _ hb | exact ⟨hb.1, hk _ hb.2⟩
        · exact hb
      exact this (fun v e => by rw [e]; exact ⟨rfl, rfl⟩) h2)⟩
  case beq => obtain ⟨b, e, c, e', h⟩ := hev; exact ⟨_, _, h, b, e, c, e', rfl, rfl⟩
  case eqa => obtain ⟨cs, ds, r, h1, h2, h3, h4⟩ := hev; exact ⟨_, _, h4, cs, ds, r, h1, h2, h3, rfl, rfl⟩
  case not => obtain ⟨b, e, h⟩ := hev; exact ⟨_, _, h, b, e, rfl, rfl⟩
  case neg => obtain ⟨k, n, e, h⟩ := hev; exact ⟨_, _, h, k, n, e, rfl, rfl⟩
  case conv => obtain ⟨k, n, e, h⟩ := hev; exact ⟨_, _, h, k, n, e, rfl, rfl⟩
  case cvs => obtain ⟨s, e, h⟩ := hev; exact ⟨_, _, h, s, e, rfl, rfl⟩
  case fad => split at hev <;> first | exact hev.elim | exact ⟨_, _, hev, rfl, rfl⟩
  case fld g off n x =>
    obtain ⟨cs, e, h1, h2⟩ := hev
    obtain ⟨v, us, h3, h4⟩ := loadK_det h2
    exact ⟨v, us, h3, cs, e, h1, h4⟩
  case iad es x i =>
    obtain ⟨k, n, e, h⟩ := hev
    split at h <;> try exact h.elim
    · obtain ⟨h1, h2, c, h3, h4⟩ := h
      exact ⟨_, _, h4, k, n, e, h1, h2, c, h3, rfl, rfl⟩
    · obtain ⟨o, ha, h1, h2, h3, h4, h5⟩ := h
      exact ⟨_, _, h5, k, n, e, o, ha, h1, h2, h3, h4, rfl, rfl⟩
  case iada es len x i =>
    obtain ⟨k, n, e, h0, h1, h⟩ := hev
    split at h <;> first | exact h.elim | exact ⟨_, _, h, k, n, e, h0, h1, rfl, rfl⟩
  case idx => obtain ⟨s, e, k, n, e', h0, b, h1, h2⟩ := hev; exact ⟨_, _, h2, s, e, k, n, e', h0, b, h1, rfl, rfl⟩
  case slcS x lo hi =>
    obtain ⟨s, e, h⟩ := hev
    obtain ⟨l, h1, k1⟩ := slB_det h
    obtain ⟨m, ⟨h2, h3, h4⟩, k2⟩ := slB_det h1
    exact ⟨_, _, h4, s, e, k1 _ (k2 _ ⟨h2, h3, rfl, rfl⟩)⟩
  case slcR es x lo hi =>
    split at hev <;> try exact hev.elim
    · obtain ⟨e, h⟩ := hev
      obtain ⟨l, h1, k1⟩ := slB_det h
      obtain ⟨m, ⟨h2, h3, h4⟩, k2⟩ := slB_det h1
      exact ⟨_, _, h4, e, k1 _ (k2 _ ⟨h2, h3, rfl, rfl⟩)⟩
    · obtain ⟨l, h1, k1⟩ := slB_det hev
      obtain ⟨m, ⟨h2, h3, h4⟩, k2⟩ := slB_det h1
      exact ⟨_, _, h4, k1 _ (k2 _ ⟨h2, h3, rfl, rfl⟩)⟩
    · obtain ⟨l, h1, k1⟩ := slB_det hev
      obtain ⟨m, ⟨h2, h3, h4⟩, k2⟩ := slB_det h1
      exact ⟨_, _, h4, k1 _ (k2 _ ⟨h2, h3, rfl, rfl⟩)⟩
  case ext => obtain ⟨l, e, b, h1, h2⟩ := hev; exact ⟨_, _, h2, l, e, b, h1, rfl, rfl⟩
  case len => split at hev <;> first | exact hev.elim | exact ⟨_, _, hev, rfl, rfl⟩
  case lenS => obtain ⟨s, e, h⟩ := hev; exact ⟨_, _, h, s, e, rfl, rfl⟩
  case app es s x =>
    split at hev <;> try exact hev.elim
    · obtain ⟨h1, h2⟩ := hev
      obtain ⟨v, us, h3, h4⟩ := appK_det h2
      exact ⟨v, us, h3, h1, h4⟩
    · exact appK_det hev
  case mksl => obtain ⟨k, n, e, k', c, e', h0, h1, h2, h3⟩ := hev; exact ⟨_, _, h3, k, n, e, k', c, e', h0, h1, h2, rfl, rfl⟩
  case mkf => exact ⟨_, _, hev, rfl, rfl⟩
  case px => obtain ⟨v, us, h1, h2⟩ := hev; exact ⟨_, _, h2, v, us, h1, rfl, rfl⟩
def Shape (op : AOp) (env : Env) (h : HF) (us : List Upd) : Prop :=
  (us = [] ∧ op.news (fun _ => true) = false) ∨ (∃ o, us = [.push o] ∧ op.news (fun _ => true) = true) ∨
  (∃ a o, us = [.set a o] ∧ h a ≠ none ∧ op.eff (fun _ => true) = true ∧ op.news (fun _ => true) = false ∧ Named op env a) ∨
  (∃ a o p, us = [.set a o, .push p] ∧ h a ≠ none ∧ op.eff (fun _ => true) = true ∧ op.news (fun _ => true) = true ∧ Named op env a)
theorem apX_shape {os es : Nat} {s : AV} {l : List (List AV)} {h : HF} {nid : Nat} {o : AObj} {us : List Upd} (hx : apX os es s l h nid = some (o, us)) :
    us = [] ∨ ∃ a off len, s = .ref a off len ∧ us = [.set a none] ∧ h a ≠ none := by
  unfold apX at hx
  obtain ⟨_, hx'⟩ := cond_ok' hx
  clear hx
  split at hx'
  · obtain ⟨_, h2⟩ := cond_ok' hx'; injection h2 with h2; injection h2 with _ h2; exact .inl h2.symm
  · rename_i a off len
    split at hx'
    · rename_i o' ho
      obtain ⟨_, h2⟩ := cond_ok' hx'; injection h2 with h2; injection h2 with _ h2
      exact .inr ⟨a, off, len, rfl, h2.symm, by rw [ho]; simp⟩
    · cases hx'
  · cases hx'
theorem len_two {α : Type} {l : List α} (h : l.length = 2) : ∃ a b, l = [a, b] := by
  match l, h with
  | [a, b], _ => exact ⟨a, b, rfl⟩
theorem xF_shape {op : XOp} {xs : List Opd} {env : Env} {h : HF} {nid : Nat} {v : AV} {us : List Upd} (hx : xF op (xs.map (opd env)) h nid = some (v, us)) : Shape (.px op xs) env h us := by
  have app : ∀ {os es s x l o us0 p}, apX os es s l h nid = some (o, us0) → xs.map (opd env) = [s, x] → op.eff = true → op.news = true → op.look = 1 → Shape (.px op xs) env h (us0 ++ [.push p]) := by
    intro os es s x l o us0 p hap hm he hn hl
    rcases apX_shape hap with rfl | ⟨a, off, len, rfl, rfl, hne⟩
    · exact .inr (.inl ⟨_, rfl, hn⟩)
    · refine .inr (.inr (.inr ⟨a, _, _, rfl, hne, he, hn, ?_⟩))
      obtain ⟨q, r, rfl⟩ := len_two (by have hl := congrArg List.length hm; simpa using hl : xs.length = 2)
      simp at hm
      exact ⟨q, by simp [AOp.touched, hl], by rw [hm.1]; rfl⟩
  revert hx app
  generalize hys : xs.map (opd env) = ys
  intro hx app
  unfold xF at hx
  split at hx
  all_goals (repeat' (first | (cases hx; done) | (replace hx := (cond_ok' hx).2) | split at hx))
  all_goals
    injection hx with hx
    injection hx with _ hx
    subst hx
    first
      | exact .inl ⟨rfl, rfl⟩
      | exact .inr (.inl ⟨_, rfl, rfl⟩)
      | exact app (by assumption) rfl rfl rfl rfl
theorem evG_shape {op : AOp} {env : Env} {h : HF} {nid : Nat} {v : AV} {us : List Upd} (hev : evG op env h nid (fun v' us' => v' = v ∧ us' = us)) : Shape op env h us := by
  cases op
  case store n x y =>
    simp only [evG, opK] at hev
    split at hev <;> try exact hev.elim
    rename_i a i j e
    obtain ⟨o, ha, e', he, cs, hcs, h1, h2, _, h3⟩ := hev
    exact .inr (.inr (.inl ⟨a, _, h3.symm, by rw [ha]; simp, rfl, rfl, x, by simp [AOp.touched], by rw [e]; rfl⟩))
  case app es s x =>
    have key : ∀ l, appK es (opd env s) l h nid (fun v' us' => v' = v ∧ us' = us) → Shape (.app es s x) env h us := by
      intro l hk
      cases hs : opd env s <;> rw [hs] at hk <;> try exact hk.elim
      case emp => obtain ⟨h1, h2, _, _, h3⟩ := hk; exact .inr (.inl ⟨_, h3.symm, rfl⟩)
      case ref a off len =>
        obtain ⟨o, ha, h1, h2, h3, h4, h5, _, h6⟩ := hk
        exact .inr (.inr (.inr ⟨a, _, _, h6.symm, by rw [ha]; simp, rfl, rfl, s, by simp [AOp.touched], by rw [hs]; rfl⟩))
    simp only [evG, opK] at hev
    split at hev <;> try exact hev.elim
    · exact key _ hev.2
    · exact key _ hev
  case box x => obtain ⟨cs, h1, h2, h3, _, h4⟩ := hev; exact .inr (.inl ⟨_, h4.symm, rfl⟩)
  case alloc z => obtain ⟨_, h4⟩ := hev; exact .inr (.inl ⟨_, h4.symm, rfl⟩)
  case mksl => obtain ⟨k, n, e, k', c, e', h0, h1, h2, _, h3⟩ := hev; exact .inr (.inl ⟨_, h3.symm, rfl⟩)
  case call => exact hev.elim
  case dyn => exact hev.elim
  case dynP => exact hev.elim
  case px op xs => obtain ⟨v', us', h1, _, h2⟩ := hev; subst h2; exact xF_shape h1
  all_goals
    refine .inl ⟨?_, rfl⟩
    simp only [evG, opK, boolK, intK, strK, bsp] at hev
  case pv => obtain ⟨r, _, _, h⟩ := hev; exact h.symm
  case mv => exact hev.2.symm
  case mkf => exact hev.2.symm
  case pick c a b =>
    obtain ⟨t, e, h1, h2⟩ := hev
    cases t
    · exact (h2 rfl).2.symm
    · exact (h1 rfl).2.symm
  case build z ps => obtain ⟨cs, h1, h2⟩ := fillK_det _ _ _ hev; exact h1.2.symm
  case bsl es z n ps => obtain ⟨cs, h1, h2⟩ := fillE_det _ _ _ hev; exact h1.2.symm
  case load g n x =>
    split at hev <;> try exact hev.elim
    · obtain ⟨v, us, h2, h3⟩ := loadK_det (K := fun a us' => a = v ∧ us' = us) hev
      cases g
      · obtain ⟨_, _, h⟩ := hev; exact h.2.symm
      · exact hev.2.2.symm
    · obtain ⟨o, ha, e, he, h1⟩ := hev
      cases g
      · obtain ⟨_, _, h⟩ := h1; exact h.2.symm
      · exact h1.2.2.symm
  case loadR g n x =>
    split at hev <;> try exact hev.elim
    cases g
    · obtain ⟨_, _, h⟩ := hev; exact h.2.symm
    · exact hev.2.2.symm
  case nilc x => split at hev <;> first | exact hev.elim | exact hev.2.symm
  case bin op x y => obtain ⟨v, h1, h2⟩ := binK_det hev; exact h1.2.symm
  case beq => obtain ⟨b, e, c, e', h⟩ := hev; exact h.2.symm
  case eqa => obtain ⟨cs, ds, r, h1, h2, h3, h4⟩ := hev; exact h4.2.symm
  case not => obtain ⟨b, e, h⟩ := hev; exact h.2.symm
  case neg => obtain ⟨k, n, e, h⟩ := hev; exact h.2.symm
  case conv => obtain ⟨k, n, e, h⟩ := hev; exact h.2.symm
  case cvs => obtain ⟨s, e, h⟩ := hev; exact h.2.symm
  case fad => split at hev <;> first | exact hev.elim | exact hev.2.symm
  case fld g off n x =>
    obtain ⟨cs, e, h1, h2⟩ := hev
    cases g
    · obtain ⟨_, _, h⟩ := h2; exact h.2.symm
    · exact h2.2.2.symm
  case iad es x i =>
    obtain ⟨k, n, e, h⟩ := hev
    split at h <;> try exact h.elim
    · obtain ⟨h1, h2, c, h3, h4⟩ := h; exact h4.2.symm
    · obtain ⟨o, ha, h1, h2, h3, h4, h5⟩ := h; exact h5.2.symm
  case iada es len x i =>
    obtain ⟨k, n, e, h0, h1, h⟩ := hev
    split at h <;> first | exact h.elim | exact h.2.symm
  case idx => obtain ⟨s, e, k, n, e', h0, b, h1, h2⟩ := hev; exact h2.2.symm
  case slcS x lo hi =>
    obtain ⟨s, e, h⟩ := hev
    obtain ⟨l, h1, k1⟩ := slB_det h
    obtain ⟨m, ⟨h2, h3, h4⟩, k2⟩ := slB_det h1
    exact h4.2.symm
  case slcR es x lo hi =>
    split at hev <;> try exact hev.elim
    · obtain ⟨e, h⟩ := hev
      obtain ⟨l, h1, k1⟩ := slB_det h
      obtain ⟨m, ⟨h2, h3, h4⟩, k2⟩ := slB_det h1
      exact h4.2.symm
    · obtain ⟨l, h1, k1⟩ := slB_det hev
      obtain ⟨m, ⟨h2, h3, h4⟩, k2⟩ := slB_det h1
      exact h4.2.symm
    · obtain ⟨l, h1, k1⟩ := slB_det hev
      obtain ⟨m, ⟨h2, h3, h4⟩, k2⟩ := slB_det h1
      exact h4.2.symm
  case ext => obtain ⟨l, e, b, h1, h2⟩ := hev; exact h2.2.symm
  case len => split at hev <;> first | exact hev.elim | exact hev.2.symm
  case lenS => obtain ⟨s, e, h⟩ := hev; exact h.2.symm
end Go.Abs
namespace Go.Abs
open Go Go.RowKit
def EqE (a b : Env) : Prop := ∀ t, lookE a t = lookE b t
theorem EqE.refl (a : Env) : EqE a a := fun _ => rfl
theorem EqE.symm {a b : Env} (h : EqE a b) : EqE b a := fun t => (h t).symm
theorem EqE.trans {a b c : Env} (h : EqE a b) (k : EqE b c) : EqE a c := fun t => (h t).trans (k t)
def OnE (ts : List Nat) (a b : Env) : Prop := ∀ t ∈ ts, lookE b t = lookE a t
theorem opd_on {x : Opd} {a b : Env} (h : OnE x.tmps a b) : opd b x = opd a x := by
  cases x with
  | t n => exact h n (by simp [Opd.tmps])
  | c v => rfl
theorem OnE.left {xs ys : List Nat} {a b : Env} (h : OnE (xs ++ ys) a b) : OnE xs a b := fun t ht => h t (List.mem_append_left _ ht)
theorem OnE.right {xs ys : List Nat} {a b : Env} (h : OnE (xs ++ ys) a b) : OnE ys a b := fun t ht => h t (List.mem_append_right _ ht)
theorem opds_on {a b : Env} : ∀ {xs : List Opd}, OnE (xs.flatMap Opd.tmps) a b → xs.map (opd b) = xs.map (opd a)
  | [], _ => rfl
  | x :: r, h => by
    simp only [List.flatMap_cons] at h
    simp only [List.map_cons, opd_on h.left, opds_on h.right]
theorem fillK_on {a b : Env} : ∀ {ps : List (Nat × Nat × Opd)} {l : List AV} {K : List AV → Prop}, OnE (ps.flatMap fun p => p.2.2.tmps) a b → fillK l a ps K → fillK l b ps K
  | [], l, K, _, h => h
  | (off, n, x) :: r, l, K, ho, h => by
    simp only [List.flatMap_cons] at ho
    obtain ⟨cs, h1, h2, h3, h4⟩ := h
    exact ⟨cs, by rw [opd_on ho.left]; exact h1, h2, h3, fillK_on ho.right h4⟩
theorem fillE_on {a b : Env} {es : Nat} : ∀ {ps : List (Nat × Opd)} {l : List (List AV)} {K : List (List AV) → Prop}, OnE (ps.flatMap fun p => p.2.tmps) a b → fillE es l a ps K → fillE es l b ps K
  | [], l, K, _, h => h
  | (i, x) :: r, l, K, ho, h => by
    simp only [List.flatMap_cons] at ho
    obtain ⟨cs, h1, h2, h3, h4⟩ := h
    exact ⟨cs, by rw [opd_on ho.left]; exact h1, h2, h3, fillE_on ho.right h4⟩
theorem slB_on {a b : Env} {o : Option Opd} {d : Nat} {K : Nat → Prop} (ho : OnE (match o with | some o => o.tmps | none => []) a b) (h : slB a o d K) : slB b o d K := by
  cases o with
  | none => exact h
  | some x => simp only [slB, opK] at h ⊢; rw [opd_on ho]; exact h
theorem slB_mono {a : Env} {o : Option Opd} {d : Nat} {K K' : Nat → Prop} (hk : ∀ n, K n → K' n) (h : slB a o d K) : slB a o d K' := by
  cases o with
  | none => exact hk _ h
  | some x => obtain ⟨k, n, e, h0, h⟩ := h; exact ⟨k, n, e, h0, hk _ h⟩
theorem xF_frame {op : XOp} {xs : List Opd} {env : Env} {h h2 : HF} {nid : Nat} {r : AV × List Upd} (hh : ∀ a, Named (.px op xs) env a → h2 a = h a) (hx : xF op (xs.map (opd env)) h nid = some r) : xF op (xs.map (opd env)) h2 nid = some r := by
  have key : ∀ (s : AV), (0 < op.look → (xs.map (opd env))[0]? = some s) → 0 < op.look → ∀ a off len, s = .ref a off len → h2 a = h a := by
    intro s hs hl a off len e
    subst e
    cases xs with
    | nil => simp at hs; omega
    | cons x r =>
      have := hs hl
      simp at this
      refine hh a ⟨x, ?_, by rw [this]; rfl⟩
      show x ∈ (x :: r).take op.look
      cases hlk : op.look with
      | zero => omega
      | succ n => simp
  have app : ∀ os es s l, (∀ a off len, s = .ref a off len → h2 a = h a) → apX os es s l h2 nid = apX os es s l h nid := by
    intro os es s l hs
    cases s <;> try rfl
    rename_i a off len
    unfold apX
    simp only [hs a off len rfl]
  revert hx key
  generalize xs.map (opd env) = ys
  intro hx key
  unfold xF at hx ⊢
  split at hx
  all_goals first
    | exact hx
    | (rename_i s x
       have e : ∀ os es l, apX os es s l h2 nid = apX os es s l h nid := fun os es l => app os es s l (key s (fun _ => rfl) Nat.zero_lt_one)
       simp only [e]
       exact hx)
    | (rename_i a off len
       rw [key _ (fun _ => rfl) (by decide) a off len rfl]
       exact hx)
    | cases hx
theorem evG_frame {op : AOp} {env env2 : Env} {h h2 : HF} {nid : Nat} {K : AV → List Upd → Prop} (he : OnE op.uses env env2) (hh : ∀ a, Named op env a → h2 a = h a) (hev : evG op env h nid K) :
    evG op env2 h2 nid K := by
  cases op <;> simp only [AOp.uses] at he <;> simp only [evG, opK] at hev ⊢ <;> try exact hev.elim
  case mv => rw [opd_on he]; exact hev
  case pick => rw [opd_on he.left.left, opd_on he.left.right, opd_on he.right]; exact hev
  case box => rw [opd_on he]; exact hev
  case alloc => exact hev
  case build => exact fillK_on he hev
  case bsl => exact fillE_on he hev
  case load g n x =>
    rw [opd_on he]
    split at hev <;> try exact hev.elim
    · exact hev
    · rename_i a i j e
      obtain ⟨o, ha, h1⟩ := hev
      exact ⟨o, by rw [hh a ⟨x, by simp [AOp.touched], by rw [e]; rfl⟩]; exact ha, h1⟩
  case loadR => rw [opd_on he]; exact hev
  case store n x y =>
    rw [opd_on he.left, opd_on he.right]
    split at hev <;> try exact hev.elim
    rename_i a i j e
    obtain ⟨o, ha, h1⟩ := hev
    exact ⟨o, by rw [hh a ⟨x, by simp [AOp.touched], by rw [e]; rfl⟩]; exact ha, h1⟩
  case nilc => rw [opd_on he]; exact hev
  case bin => rw [opd_on he.left, opd_on he.right]; exact hev
  case beq => rw [opd_on he.left, opd_on he.right]; exact hev
  case eqa => rw [opd_on he.left, opd_on he.right]; exact hev
  case not => rw [opd_on he]; exact hev
  case neg => rw [opd_on he]; exact hev
  case conv => rw [opd_on he]; exact hev
  case cvs => rw [opd_on he]; exact hev
  case fad => rw [opd_on he]; exact hev
  case fld => rw [opd_on he]; exact hev
  case iad es x i =>
    rw [opd_on he.left, opd_on he.right]
    obtain ⟨k, n, ei, h1⟩ := hev
    refine ⟨k, n, ei, ?_⟩
    split at h1 <;> try exact h1.elim
    · exact h1
    · rename_i a off len e
      obtain ⟨o, ha, h3⟩ := h1
      exact ⟨o, by rw [hh a ⟨x, by simp [AOp.touched], by rw [e]; rfl⟩]; exact ha, h3⟩
  case iada => rw [opd_on he.left, opd_on he.right]; exact hev
  case idx => rw [opd_on he.left, opd_on he.right]; exact hev
  case slcS x lo hi =>
    rw [opd_on he.left.left]
    obtain ⟨s, e, h1⟩ := hev
    exact ⟨s, e, slB_on he.left.right (slB_mono (fun l hl => slB_on he.right hl) h1)⟩
  case slcR es x lo hi =>
    rw [opd_on he.left.left]
    split at hev <;> try exact hev.elim
    · exact ⟨hev.1, slB_on he.left.right (slB_mono (fun l hl => slB_on he.right hl) hev.2)⟩
    · exact slB_on he.left.right (slB_mono (fun l hl => slB_on he.right hl) hev)
    · exact slB_on he.left.right (slB_mono (fun l hl => slB_on he.right hl) hev)
  case ext => rw [opd_on he]; exact hev
  case len => rw [opd_on he]; exact hev
  case lenS => rw [opd_on he]; exact hev
  case app es s x =>
    rw [opd_on he.left, opd_on he.right]
    have key : ∀ l, appK es (opd env s) l h nid K → appK es (opd env s) l h2 nid K := by
      intro l hk
      cases hs : opd env s <;> rw [hs] at hk <;> try exact hk.elim
      case emp => exact hk
      case ref a off len =>
        obtain ⟨o, ha, h1⟩ := hk
        exact ⟨o, by rw [hh a ⟨s, by simp [AOp.touched], by rw [hs]; rfl⟩]; exact ha, h1⟩
    split at hev <;> try exact hev.elim
    · exact ⟨hev.1, key _ hev.2⟩
    · exact key _ hev
  case mksl => rw [opd_on he.left, opd_on he.right]; exact hev
  case mkf => rw [opds_on he]; exact hev
  case pv => rw [opds_on he]; exact hev
  case px op xs => rw [opds_on he]; obtain ⟨v, us, h1, h2⟩ := hev; exact ⟨v, us, xF_frame hh h1, h2⟩
theorem xF_nid {op : XOp} (hn : op.news = false) (xs : List AV) (h : HF) (nid nid' : Nat) : xF op xs h nid' = xF op xs h nid := by
  cases op <;> first | (cases hn; done) | (unfold xF; split <;> first | rfl | (rename_i he; cases he))
theorem evG_nid {op : AOp} {env : Env} {h : HF} {nid : Nat} (nid' : Nat) {K : AV → List Upd → Prop} (hn : op.news (fun _ => true) = false) (hev : evG op env h nid K) : evG op env h nid' K := by
  cases op <;> first | exact hev | (cases hn; done) | skip
  case px op xs => obtain ⟨v, us, h1, h2⟩ := hev; exact ⟨v, us, by rw [xF_nid hn]; exact h1, h2⟩
def PureK (C : Ctx) (f : Nat) (args : List AV) (h : HF) (r : AV) : Prop :=
  ∃ args1 args', All2 (Bor h) args args1 ∧ (args1 = args ∨ Scal r) ∧ All2 Coe args1 args' ∧ C.C f args' [] r []
def OpU (C : Ctx) (op : AOp) (env : Env) (h : HF) (nid : Nat) (v : AV) (us : List Upd) : Prop :=
  match op with
  | .call f args => C.pf f = true ∧ us = [] ∧ PureK C f (args.map (opd env)) h v
  | .dynP x args => ∃ f cs, opd env x = .clo f cs ∧ C.pf f = true ∧ us = [] ∧ PureK C f (args.map (opd env) ++ cs) h v
  | .dyn _ _ => False
  | op => evG op env h nid (fun v' us' => v' = v ∧ us' = us)
theorem nm1_nmd {i : Nat} {a : AV} (h : nm1 i a) : nmd i a := by
  cases a <;> first | exact h | exact h.elim
theorem bor1_frame {h h2 : HF} {a b : AV} (hh : ∀ i off len, a = .ref i off len → h2 i = h i) (hb : Bor1 h a b) : Bor1 h2 a b := by
  rcases hb with e | ⟨i, off, len, o, e, h1, h2', h3⟩
  · exact .inl e
  · exact .inr ⟨i, off, len, o, e, by rw [hh i off len e]; exact h1, h2', h3⟩
theorem all2_bor1 {h h2 : HF} : ∀ {as bs : List AV}, (∀ i off len, AV.ref i off len ∈ as → h2 i = h i) → All2 (Bor1 h) as bs → All2 (Bor1 h2) as bs
  | [], [], _, _ => trivial
  | a :: as, b :: bs, hh, hall => ⟨bor1_frame (fun i off len e => hh i off len (by rw [e]; exact List.mem_cons_self ..)) hall.1, all2_bor1 (fun x off len hx => hh x off len (List.mem_cons_of_mem _ hx)) hall.2⟩
  | [], _ :: _, _, h => h.elim
  | _ :: _, [], _, h => h.elim
theorem all2_bor {h h2 : HF} : ∀ {as bs : List AV}, (∀ i, (∃ a ∈ as, nm1 i a) → h2 i = h i) → All2 (Bor h) as bs → All2 (Bor h2) as bs
  | [], [], _, _ => trivial
  | a :: as, b :: bs, hh, hall => by
    refine ⟨?_, all2_bor (fun i ⟨x, hx, hn⟩ => hh i ⟨x, List.mem_cons_of_mem _ hx, hn⟩) hall.2⟩
    rcases hall.1 with hb | ⟨cs, ds, e1, e2, hb⟩
    · exact .inl (bor1_frame (fun i off len e => hh i ⟨a, List.mem_cons_self .., by rw [e]; rfl⟩) hb)
    · exact .inr ⟨cs, ds, e1, e2, all2_bor1 (fun i off len hm => hh i ⟨a, List.mem_cons_self .., by rw [e1]; exact ⟨off, len, hm⟩⟩) hb⟩
  | [], _ :: _, _, h => h.elim
  | _ :: _, [], _, h => h.elim
theorem opU_frame {C : Ctx} {op : AOp} {env env2 : Env} {h h2 : HF} {nid : Nat} {v : AV} {us : List Upd} (he : OnE op.uses env env2) (hh : ∀ a, Named op env a → h2 a = h a)
    (hev : OpU C op env h nid v us) : OpU C op env2 h2 nid v us := by
  cases op
  case call f args =>
    obtain ⟨h1, h2', a1, a2, h3, h4⟩ := hev
    simp only [AOp.uses] at he
    refine ⟨h1, h2', a1, a2, ?_⟩
    rw [opds_on he]
    refine ⟨all2_bor (fun i ⟨a, ha, hn⟩ => hh i ?_) h3, h4⟩
    obtain ⟨x, hx, e⟩ := List.mem_map.1 ha
    exact ⟨x, hx, by rw [e]; exact nm1_nmd hn⟩
  case dynP x args =>
    obtain ⟨f, cs, e, h1, h2', a1, a2, h3, h4⟩ := hev
    simp only [AOp.uses] at he
    refine ⟨f, cs, by rw [opd_on he.left]; exact e, h1, h2', a1, a2, ?_⟩
    rw [opds_on he.right]
    refine ⟨all2_bor (fun i ⟨a, ha, hn⟩ => hh i ?_) h3, h4⟩
    rcases List.mem_append.1 ha with ha | ha
    · obtain ⟨y, hy, e⟩ := List.mem_map.1 ha
      exact ⟨y, List.mem_cons_of_mem _ hy, by rw [e]; exact nm1_nmd hn⟩
    · exact ⟨x, List.mem_cons_self .., by rw [e]; exact ⟨a, ha, hn⟩⟩
  case dyn => exact hev.elim
  all_goals exact evG_frame (h := h) (nid := nid) (K := fun v' us' => v' = v ∧ us' = us) he hh hev
theorem opU_shape {C : Ctx} {op : AOp} {env : Env} {h : HF} {nid : Nat} {v : AV} {us : List Upd} (hev : OpU C op env h nid v us) : Shape op env h us := by
  cases op
  case call f args => exact .inl ⟨hev.2.1, rfl⟩
  case dynP x args => obtain ⟨f, cs, e, h1, h2', _⟩ := hev; exact .inl ⟨h2', rfl⟩
  case dyn => exact hev.elim
  all_goals exact evG_shape (nid := nid) hev
end Go.Abs
namespace Go.Abs
open Go Go.RowKit
theorem look_pos {op : XOp} {xs : List Opd} {x : Opd} (h : x ∈ xs.take op.look) : Nat.blt 0 op.look = true := by
  cases hl : op.look with
  | zero => rw [hl] at h; simp at h
  | succ n => simp [Nat.blt]
theorem named_touch {op : AOp} {env : Env} {a : Nat} (h : Named op env a) : op.touch = true := by
  obtain ⟨x, hx, _⟩ := h
  cases op <;> first | rfl | exact look_pos hx | (simp [AOp.touched] at hx)
theorem wild_touch {op : AOp} {pf : Nat → Bool} (h : op.wild pf = true) : op.touch = true := by
  cases op <;> first | rfl | cases h
theorem eff_up {op : AOp} {pf : Nat → Bool} (h : op.eff (fun _ => true) = true) : op.eff pf = true := by
  cases op <;> first | rfl | exact h | cases h
theorem news_up {op : AOp} {pf : Nat → Bool} (h : op.news (fun _ => true) = true) : op.news pf = true := by
  cases op <;> first | rfl | exact h | cases h
theorem allOld_mem {n0 : Nat → Prop} {env : Env} : ∀ {xs : List Opd}, allOld n0 env xs → ∀ x ∈ xs, oldAV n0 (opd env x)
  | [], _, x, hx => by cases hx
  | y :: r, h, x, hx => by
    rcases List.mem_cons.1 hx with rfl | hx
    · exact h.1
    · exact allOld_mem h.2 x hx
theorem named_old {n0 : Nat → Prop} {env : Env} {op : AOp} {a : Nat} (h : allOld n0 env op.touched) (hn : Named op env a) : ¬ n0 a := by
  obtain ⟨x, hx, ha⟩ := hn
  have := allOld_mem h x hx
  cases hv : opd env x <;> rw [hv] at ha this <;> try exact ha.elim
  · exact ha.symm ▸ this
  · exact ha.symm ▸ this
  · obtain ⟨off, len, ha⟩ := ha; exact this a off len ha
  · obtain ⟨c, hc, ha⟩ := ha; exact this a c hc ha
theorem new_nmd {n0 : Nat → Prop} {a : Nat} {v : AV} (h : newAV n0 v) (ha : nmd a v) : n0 a := by
  cases v <;> first | exact ha.elim | exact h.elim | exact ha.symm ▸ h
theorem named_nw {n0 : Nat → Prop} {env : Env} {op : AOp} {a : Nat} (h : nwC n0 env op) (hn : Named op env a) : n0 a := by
  obtain ⟨x, hx, ha⟩ := hn
  cases op <;> try exact h.elim
  · simp [AOp.touched] at hx; subst hx; exact new_nmd h ha
  · simp [AOp.touched] at hx; subst hx; exact new_nmd h ha
  · exact new_nmd (h x hx) ha
def guardOK (y : AI) (env : Env) : Prop := y.guard = none ∨ ∃ g b, y.guard = some (g, b) ∧ lookE env g = .v (.bool b)
def RunC (C : Ctx) (n0 : Nat → Prop) (y : AI) (env : Env) (h : HF) (v : AV) (nid : Nat) (us : List Upd) : Prop :=
  guardOK y env ∧ (y.old = true → allOld n0 env y.op.touched) ∧ (y.nw = true → nwC n0 env y.op) ∧ n0 nid ∧ (y.op.news (fun _ => true) = true → h nid = none) ∧ OpU C y.op env h nid v us
def SkipC (y : AI) (env : Env) (v : AV) (us : List Upd) : Prop := (∃ g b, y.guard = some (g, b) ∧ (lookE env g = .v (.bool (!b)) ∨ lookE env g = .v undef)) ∧ v = .v undef ∧ us = []
def SmallC (C : Ctx) (n0 : Nat → Prop) (y : AI) (env : Env) (h : HF) (v : AV) (nid : Nat) (us : List Upd) : Prop := RunC C n0 y env h v nid us ∨ SkipC y env v us
def WildC (C : Ctx) (y : AI) (env : Env) (h : HF) (v : AV) (h' : HF) : Prop :=
  guardOK y env ∧ y.op.wild C.pf = true ∧ ∃ H H', h = hf H ∧ h' = hf H' ∧ evOp C y.op env H (fun v' H'' => v' = v ∧ H'' = H')
def Core (C : Ctx) (n0 : Nat → Prop) (y : AI) (env : Env) (h : HF) (v : AV) (h' : HF) : Prop :=
  (∃ nid us, SmallC C n0 y env h v nid us ∧ h' = appF h nid us) ∨ WildC C y env h v h'
def Step (C : Ctx) (n0 : Nat → Prop) (y : AI) (env : Env) (h : HF) (env' : Env) (h' : HF) : Prop :=
  ∃ v, EqE env' (put env y.dst v) ∧ Core C n0 y env h v h'
theorem onE_op {y : AI} {a b : Env} (h : OnE y.uses a b) : OnE y.op.uses a b := h.left
theorem guard_on {y : AI} {a b : Env} (h : OnE y.uses a b) {g : Nat} {w : Bool} (hg : y.guard = some (g, w)) : lookE b g = lookE a g := by
  refine h g ?_
  unfold AI.uses
  rw [hg]
  simp
theorem guardOK_on {y : AI} {a b : Env} (h : OnE y.uses a b) (hg : guardOK y a) : guardOK y b := by
  rcases hg with hg | ⟨g, w, h1, h2⟩
  · exact .inl hg
  · exact .inr ⟨g, w, h1, by rw [guard_on h h1]; exact h2⟩
theorem touched_uses {op : AOp} {x : Opd} (hx : x ∈ op.touched) : ∀ t ∈ x.tmps, t ∈ op.uses := by
  intro t ht
  cases op <;> simp only [AOp.touched, List.mem_cons, List.not_mem_nil, or_false] at hx <;> simp only [AOp.uses]
  · subst hx; exact ht
  · subst hx; exact List.mem_append_left _ ht
  · subst hx; exact List.mem_append_left _ ht
  · subst hx; exact List.mem_append_left _ ht
  · exact List.mem_flatMap.2 ⟨x, hx, ht⟩
  · rcases hx with rfl | hx
    · exact List.mem_append_left _ ht
    · exact List.mem_append_right _ (List.mem_flatMap.2 ⟨x, hx, ht⟩)
  · exact List.mem_flatMap.2 ⟨x, List.mem_of_mem_take hx, ht⟩
theorem opd_touched {op : AOp} {a b : Env} (h : OnE op.uses a b) {x : Opd} (hx : x ∈ op.touched) : opd b x = opd a x :=
  opd_on (fun t ht => h t (touched_uses hx t ht))
theorem named_on {op : AOp} {a b : Env} (h : OnE op.uses a b) {k : Nat} (hn : Named op b k) : Named op a k := by
  obtain ⟨x, hx, hk⟩ := hn
  exact ⟨x, hx, by rw [← opd_touched h hx]; exact hk⟩
theorem allOld_on {n0 : Nat → Prop} {a b : Env} : ∀ {xs : List Opd}, (∀ x ∈ xs, opd b x = opd a x) → allOld n0 a xs → allOld n0 b xs
  | [], _, _ => trivial
  | x :: r, h, ho => ⟨by unfold opK; rw [h x (List.mem_cons_self ..)]; exact ho.1, allOld_on (fun y hy => h y (List.mem_cons_of_mem _ hy)) ho.2⟩
theorem nwC_on {n0 : Nat → Prop} {a b : Env} {op : AOp} (h : OnE op.uses a b) (hn : nwC n0 a op) : nwC n0 b op := by
  cases op <;> try exact hn.elim
  · simp only [nwC, opK] at hn ⊢; rw [opd_touched h (by simp [AOp.touched])]; exact hn
  · simp only [nwC, opK] at hn ⊢; rw [opd_touched h (by simp [AOp.touched])]; exact hn
  · intro x hx; have := hn x hx; simp only [opK] at this ⊢; rw [opd_touched h (show x ∈ _ from hx)]; exact this
theorem small_frame {C : Ctx} {n0 : Nat → Prop} {y : AI} {env env2 : Env} {h h2 : HF} {v : AV} {nid : Nat} {us : List Upd} (hs : SmallC C n0 y env h v nid us) (he : OnE y.uses env env2)
    (hh : RunC C n0 y env h v nid us → (∀ a, Named y.op env a → h2 a = h a) ∧ (y.op.news (fun _ => true) = true → h2 nid = none)) : SmallC C n0 y env2 h2 v nid us := by
  rcases hs with hr | ⟨⟨g, b, h1, h3⟩, h4⟩
  · obtain ⟨k1, k2⟩ := hh hr
    obtain ⟨h1, h3, h4, h5, h6, h7⟩ := hr
    exact .inl ⟨guardOK_on he h1, fun e => allOld_on (fun x hx => opd_touched (onE_op he) hx) (h3 e), fun e => nwC_on (onE_op he) (h4 e), h5, k2, opU_frame (onE_op he) k1 h7⟩
  · exact .inr ⟨⟨g, b, h1, by rw [guard_on he h1]; exact h3⟩, h4⟩
theorem wild_frame {C : Ctx} {y : AI} {env env2 : Env} {h h' : HF} {v : AV} (hs : WildC C y env h v h') (he : OnE y.uses env env2) : WildC C y env2 h v h' := by
  obtain ⟨h1, h2, H, H', h3, h4, h5⟩ := hs
  refine ⟨guardOK_on he h1, h2, H, H', h3, h4, ?_⟩
  have ho := onE_op he
  revert h5 h2 ho
  cases y.op <;> intro h5 h2 ho <;> first | (cases h5; done) | skip
  · simp only [AOp.uses] at ho
    simp only [evOp] at h2 ⊢
    rw [opds_on ho]; exact h2
  · simp only [AOp.uses] at ho
    simp only [evOp, opK] at h2 ⊢
    rw [opd_on ho.left, opds_on ho.right]; exact h2
end Go.Abs
namespace Go.Abs
open Go Go.RowKit
def DU (nid : Nat) : List Upd → Nat → Prop
  | [], _ => False
  | .set a _ :: r, b => b = a ∨ DU nid r b
  | .push _ :: r, b => b = nid ∨ DU nid r b
theorem appF_off {nid b : Nat} : ∀ {us : List Upd} {h : HF}, ¬ DU nid us b → appF h nid us b = h b
  | [], h, _ => rfl
  | .set a o :: r, h, hn => by
    simp only [DU, not_or] at hn
    simp only [appF]
    rw [appF_off hn.2]; simp [appU, hn.1]
  | .push o :: r, h, hn => by
    simp only [DU, not_or] at hn
    simp only [appF]
    rw [appF_off hn.2]; simp [appU, hn.1]
open Classical in
theorem appF_on {nid b : Nat} : ∀ {us : List Upd} {h h2 : HF}, DU nid us b → appF h nid us b = appF h2 nid us b ∧ appF h nid us b ≠ none
  | [], h, h2, hd => hd.elim
  | .set a o :: r, h, h2, hd => by
    simp only [appF]
    by_cases hr : DU nid r b
    · exact appF_on hr
    · have e : b = a := hd.resolve_right hr
      rw [appF_off hr, appF_off hr]; simp [appU, e]
  | .push o :: r, h, h2, hd => by
    simp only [appF]
    by_cases hr : DU nid r b
    · exact appF_on hr
    · have e : b = nid := hd.resolve_right hr
      rw [appF_off hr, appF_off hr]; simp [appU, e]
theorem appF_swap {nx ny : Nat} {us vs : List Upd} {h : HF} (hd : ∀ b, DU nx us b → DU ny vs b → False) : appF (appF h nx us) ny vs = appF (appF h ny vs) nx us := by
  funext b
  open Classical in
  by_cases h1 : DU nx us b
  · rw [appF_off (fun h2 => hd b h1 h2)]
    exact (appF_on h1).1
  · rw [appF_off (us := us) h1]
    by_cases h2 : DU ny vs b
    · exact (appF_on h2).1
    · rw [appF_off h2, appF_off h2, appF_off h1]
section
variable {C : Ctx} {n0 : Nat → Prop} {x y : AI} {env : Env} {h : HF} {v : AV} {nid : Nat} {us : List Upd}
theorem run_dom (hr : RunC C n0 y env h v nid us) {b : Nat} (hd : DU nid us b) :
    (y.op.eff C.pf = true ∧ Named y.op env b) ∨ (y.op.news C.pf = true ∧ b = nid ∧ n0 nid ∧ h nid = none) := by
  obtain ⟨h1, h2, h3, h4, h5, h6⟩ := hr
  rcases opU_shape h6 with ⟨rfl, _⟩ | ⟨o, rfl, hn⟩ | ⟨a, o, rfl, _, he, _, hn⟩ | ⟨a, o, p, rfl, _, he, hw, hn⟩
  · exact hd.elim
  · simp only [DU, or_false] at hd; exact .inr ⟨news_up hn, hd, h4, h5 hn⟩
  · simp only [DU, or_false] at hd; subst hd; exact .inl ⟨eff_up he, hn⟩
  · simp only [DU, or_false] at hd
    rcases hd with rfl | rfl
    · exact .inl ⟨eff_up he, hn⟩
    · exact .inr ⟨news_up hw, rfl, h4, h5 hw⟩
theorem run_news (hr : RunC C n0 y env h v nid us) (hn : y.op.news (fun _ => true) = true) : DU nid us nid := by
  obtain ⟨h1, h2, h3, h4, h5, h6⟩ := hr
  rcases opU_shape h6 with ⟨rfl, he⟩ | ⟨o, rfl, _⟩ | ⟨a, o, rfl, _, _, he, _⟩ | ⟨a, o, p, rfl, _⟩
  · rw [hn] at he; cases he
  · simp [DU]
  · rw [hn] at he; cases he
  · simp [DU]
theorem small_dom (hs : SmallC C n0 y env h v nid us) {b : Nat} (hd : DU nid us b) : RunC C n0 y env h v nid us := by
  rcases hs with hr | ⟨_, _, rfl⟩
  · exact hr
  · exact hd.elim
theorem put_on {dst : Option Nat} {v : AV} {ts : List Nat} (hd : ∀ d, dst = some d → d ∉ ts) : OnE ts env (put env dst v) := by
  intro t ht
  cases dst with
  | none => rfl
  | some d =>
    have : (d == t) = false := by
      simp; exact fun e => hd d rfl (e ▸ ht)
    simp [put, lookE, this]
theorem put_congr {a b : Env} (h : EqE a b) (d : Option Nat) (v : AV) : EqE (put a d v) (put b d v) := by
  cases d with
  | none => exact h
  | some d => intro t; simp only [put, lookE]; rw [h t]
theorem put_comm {d e : Option Nat} (hne : ∀ k, d = some k → e ≠ some k) (v k : AV) : EqE (put (put env d v) e k) (put (put env e k) d v) := by
  cases d with
  | none => exact EqE.refl _
  | some d =>
    cases e with
    | none => exact EqE.refl _
    | some e =>
      have hde : d ≠ e := fun h => hne d rfl (by rw [h])
      intro t
      simp only [put, lookE]
      by_cases h1 : d = t
      · subst h1
        have : (e == d) = false := by simp; exact fun h => hde h.symm
        simp [this]
      · have : (d == t) = false := by simp [h1]
        simp [this]
theorem OnE.of_eq {ts : List Nat} {a b : Env} (h : EqE b a) : OnE ts a b := fun t _ => h t
theorem OnE.trans {ts : List Nat} {a b c : Env} (h : OnE ts a b) (k : OnE ts b c) : OnE ts a c := fun t ht => (k t ht).trans (h t ht)
theorem OnE.symm {ts : List Nat} {a b : Env} (h : OnE ts a b) : OnE ts b a := fun t ht => (h t ht).symm
theorem indep_spec {pf : Nat → Bool} (hi : indep pf x y = true) :
    (∀ d, x.dst = some d → d ∉ y.uses ∧ y.dst ≠ some d) ∧ (∀ d, y.dst = some d → d ∉ x.uses) ∧
    (x.op.wild pf = true → y.op.touch = false ∧ y.op.news pf = false) ∧ (y.op.wild pf = true → x.op.touch = false ∧ x.op.news pf = false) ∧
    (x.op.eff pf = true → y.op.touch = true → x.nw = true ∧ y.old = true) ∧ (y.op.eff pf = true → x.op.touch = true → y.nw = true ∧ x.old = true) ∧
    (x.op.news pf = true → y.op.touch = true → y.old = true) ∧ (y.op.news pf = true → x.op.touch = true → x.old = true) := by
  unfold indep at hi
  rw [Bool.and_eq_true] at hi
  obtain ⟨ht, hh⟩ := hi
  unfold indepT at ht
  unfold indepH at hh
  simp only [Bool.and_eq_true, Bool.or_eq_true, Bool.not_eq_true', Bool.and_eq_false_imp, Bool.or_eq_false_iff] at hh
  rw [Bool.and_eq_true] at ht
  obtain ⟨t1, t2⟩ := ht
  refine ⟨fun d hd => ?_, fun d hd => ?_, ?_⟩
  · rw [hd] at t1; simpa using t1
  · rw [hd] at t2; simpa using t2
  · obtain ⟨⟨⟨⟨⟨a1, a2⟩, a3⟩, a4⟩, a5⟩, a6⟩ := hh
    refine ⟨a1, a2, fun e t => ?_, fun e t => ?_, fun e t => ?_, fun e t => ?_⟩
    · rcases a3 with a3 | a3
      · rw [a3 e] at t; cases t
      · exact a3
    · rcases a4 with a4 | a4
      · rw [a4 e] at t; cases t
      · exact a4
    · rcases a5 with a5 | a5
      · rw [a5 e] at t; cases t
      · exact a5
    · rcases a6 with a6 | a6
      · rw [a6 e] at t; cases t
      · exact a6
theorem small_quiet (hs : SmallC C n0 y env h v nid us) (ht : y.op.touch = false) (hn : y.op.news C.pf = false) : us = [] := by
  rcases hs with hr | ⟨_, _, h⟩
  · rcases opU_shape hr.2.2.2.2.2 with ⟨h, _⟩ | ⟨o, _, he⟩ | ⟨a, o, _, _, _, _, hd⟩ | ⟨a, o, p, _, _, _, he, _⟩
    · exact h
    · rw [news_up he] at hn; cases hn
    · rw [named_touch hd] at ht; cases ht
    · rw [news_up he] at hn; cases hn
  · exact h
theorem small_quiet_frame (hs : SmallC C n0 y env h v nid us) {env2 : Env} (he : OnE y.uses env env2) (ht : y.op.touch = false) (hn : y.op.news C.pf = false) (h2 : HF) : SmallC C n0 y env2 h2 v nid us :=
  small_frame hs he (fun _ => ⟨fun a ha => (by rw [named_touch ha] at ht; cases ht), fun e => (by rw [news_up e] at hn; cases hn)⟩)
theorem core_swap {h1 h2 : HF} {env1 : Env} {vx vy : AV} (hi : indep C.pf x y = true) (he : OnE y.uses env1 env) (he2 : ∀ k, OnE x.uses env (put env y.dst k)) (hx : Core C n0 x env h vx h1) (hy : Core C n0 y env1 h1 vy h2) :
    ∃ h', Core C n0 y env h vy h' ∧ Core C n0 x (put env y.dst vy) h' vx h2 := by
  obtain ⟨_, _, i1, i2, i3, i4, i5, i6⟩ := indep_spec hi
  rcases hx with ⟨nx, usx, hx, rfl⟩ | hx
  · rcases hy with ⟨ny, usy, hy, rfl⟩ | hy
    · have F1 : ∀ a, RunC C n0 y env1 (appF h nx usx) vy ny usy → Named y.op env1 a → ¬ DU nx usx a := by
        intro a hr hn hd
        have hrx := small_dom hx hd
        rcases run_dom hrx hd with ⟨e, hn'⟩ | ⟨e, rfl, hle, _⟩
        · obtain ⟨e1, e2⟩ := i3 e (named_touch hn)
          exact named_old (hr.2.1 e2) hn (named_nw (hrx.2.2.1 e1) hn')
        · exact named_old (hr.2.1 (i5 e (named_touch hn))) hn hle
      have F2 : ∀ a, RunC C n0 x env h vx nx usx → Named x.op env a → ¬ DU ny usy a := by
        intro a hr hn hd
        have hry := small_dom hy hd
        rcases run_dom hry hd with ⟨e, hn'⟩ | ⟨e, rfl, hle, _⟩
        · obtain ⟨e1, e2⟩ := i4 e (named_touch hn)
          exact named_old (hr.2.1 e2) hn (named_nw (hry.2.2.1 e1) hn')
        · exact named_old (hr.2.1 (i6 e (named_touch hn))) hn hle
      have FD : ∀ b, DU nx usx b → DU ny usy b → False := by
        intro b h1 h2
        have hry := small_dom hy h2
        rcases run_dom hry h2 with ⟨e, hn⟩ | ⟨e, rfl, _, hf⟩
        · exact F1 b hry hn h1
        · exact (appF_on (h2 := h) h1).2 hf
      refine ⟨appF h ny usy, .inl ⟨ny, usy, small_frame hy he (fun hr => ⟨fun a ha => (appF_off (F1 a hr ha)).symm, fun e => ?_⟩), rfl⟩,
        .inl ⟨nx, usx, small_frame hx (he2 vy) (fun hr => ⟨fun a ha => appF_off (F2 a hr ha), fun e => ?_⟩), appF_swap FD⟩⟩
      · have hn := hr.2.2.2.2.1 e
        open Classical in
        by_cases hd : DU nx usx ny
        · exact absurd hn (appF_on (h2 := h) hd).2
        · rwa [appF_off hd] at hn
      · rw [appF_off (fun hd => FD nx (run_news hr e) hd)]
        exact hr.2.2.2.2.1 e
    · obtain ⟨ht, hn⟩ := i2 hy.2.1
      have hu := small_quiet hx ht hn
      subst hu
      exact ⟨h2, .inr (wild_frame hy he), .inl ⟨nx, [], small_quiet_frame hx (he2 vy) ht hn h2, rfl⟩⟩
  · obtain ⟨ht, hn⟩ := i1 hx.2.1
    rcases hy with ⟨ny, usy, hy, rfl⟩ | hy
    · have hu := small_quiet hy ht hn
      subst hu
      exact ⟨h, .inl ⟨ny, [], small_quiet_frame hy he ht hn h, rfl⟩, .inr (wild_frame hx (he2 vy))⟩
    · rw [wild_touch hy.2.1] at ht; cases ht
theorem step_swap {h1 h2 : HF} {env1 env2 : Env} (hi : indep C.pf x y = true) (hx : Step C n0 x env h env1 h1) (hy : Step C n0 y env1 h1 env2 h2) :
    ∃ e h', Step C n0 y env h e h' ∧ Step C n0 x e h' env2 h2 := by
  obtain ⟨s1, s2, _⟩ := indep_spec hi
  obtain ⟨vx, ex, hx⟩ := hx
  obtain ⟨vy, ey, hy⟩ := hy
  obtain ⟨h', k1, k2⟩ := core_swap hi (env := env) (env1 := env1) ((OnE.of_eq ex).symm.symm.symm.trans (put_on (fun d hd => (s1 d hd).1)).symm) (fun _ => put_on (fun d hd => s2 d hd)) hx hy
  refine ⟨put env y.dst vy, h', ⟨vy, EqE.refl _, k1⟩, vx, ?_, k2⟩
  exact ey.trans ((put_congr ex y.dst vy).trans (put_comm (fun k hk => (s1 k hk).2) vx vy))
theorem core_env {env2 : Env} {h' : HF} (hc : Core C n0 y env h v h') (he : EqE env env2) : Core C n0 y env2 h v h' := by
  have ho : ∀ ts, OnE ts env env2 := fun ts => OnE.of_eq he.symm
  rcases hc with ⟨nid, us, hs, e⟩ | hw
  · exact .inl ⟨nid, us, small_frame hs (ho _) (fun hr => ⟨fun a _ => rfl, hr.2.2.2.2.1⟩), e⟩
  · exact .inr (wild_frame hw (ho _))
theorem step_env {env2 e1 e2 : Env} {h' : HF} (hs : Step C n0 y env h e1 h') (he : EqE env env2) (he' : EqE e1 e2) : Step C n0 y env2 h e2 h' := by
  obtain ⟨v, h1, h2⟩ := hs
  exact ⟨v, he'.symm.trans (h1.trans (put_congr he _ _)), core_env h2 he⟩
def Runs (C : Ctx) (n0 : Nat → Prop) (F : Env → HF → Prop) : List AI → Env → HF → Prop
  | [], env, h => F env h
  | y :: r, env, h => ∃ env' h', Step C n0 y env h env' h' ∧ Runs C n0 F r env' h'
theorem runs_env {F : Env → HF → Prop} (hF : ∀ a b h, EqE a b → F a h → F b h) : ∀ {ys : List AI} {a b : Env} {h : HF}, EqE a b → Runs C n0 F ys a h → Runs C n0 F ys b h
  | [], a, b, h, he, hr => hF a b h he hr
  | y :: r, a, b, h, he, hr => by
    obtain ⟨e1, h1, k1, k2⟩ := hr
    exact ⟨e1, h1, step_env k1 he (EqE.refl _), k2⟩
theorem runs_front {F : Env → HF → Prop} : ∀ {xs : List AI} {r : List AI} {env : Env} {h : HF}, (∀ x ∈ xs, indep C.pf x y = true) → Runs C n0 F (xs ++ y :: r) env h → Runs C n0 F (y :: (xs ++ r)) env h
  | [], r, env, h, _, hr => hr
  | x :: xs, r, env, h, hi, hr => by
    obtain ⟨e1, h1, k1, k2⟩ := hr
    obtain ⟨e2, h2, k3, k4⟩ := runs_front (fun z hz => hi z (List.mem_cons_of_mem _ hz)) k2
    obtain ⟨e3, h3, k5, k6⟩ := step_swap (hi x (List.mem_cons_self ..)) k1 k3
    exact ⟨e3, h3, k5, e2, h2, k6, k4⟩
end
end Go.Abs
namespace Go.Abs
open Go Go.RowKit
section
variable {C : Ctx}
theorem applyUs_len : ∀ (us : List Upd) (H : Heap), H.length ≤ (applyUs H us).length
  | [], H => Nat.le_refl _
  | .set a o :: r, H => by
    simp only [applyUs, applyU]; exact Nat.le_trans (by simp) (applyUs_len r _)
  | .push o :: r, H => by
    simp only [applyUs, applyU]; exact Nat.le_trans (by simp) (applyUs_len r _)
theorem evOp_core {op : AOp} {env : Env} {H : Heap} {K : AV → Heap → Prop} (hev : evOp C op env H K) :
    ∃ v H', K v H' ∧ H.length ≤ H'.length ∧ ((∃ us, OpU C op env (hf H) H.length v us ∧ hf H' = appF (hf H) H.length us) ∨ (op.wild C.pf = true ∧ evOp C op env H (fun v' H'' => v' = v ∧ H'' = H'))) := by
  have plain : evG op env (hf H) H.length (fun v us => K v (applyUs H us)) → ∃ v us, K v (applyUs H us) ∧ evG op env (hf H) H.length (fun v' us' => v' = v ∧ us' = us) ∧ OKus (hf H) us := by
    intro hev
    obtain ⟨v, us, ⟨h1, h2⟩, h3⟩ := evG_det _ _ _ _ _ (evG_us hev)
    exact ⟨v, us, h1, h3, h2⟩
  cases op
  case call f args =>
    rcases hev with ⟨hpf, a1, a2, r, h1, h2, h3, h4, hk⟩ | ⟨hpf, a2, r, H', h3, h4, hl, hk⟩
    · exact ⟨r, H, hk, Nat.le_refl _, .inl ⟨[], ⟨hpf, rfl, a1, a2, h1, h2, h3, h4⟩, rfl⟩⟩
    · exact ⟨r, H', hk, hl, .inr ⟨by simp [AOp.wild, hpf], .inr ⟨hpf, a2, r, H', h3, h4, hl, rfl, rfl⟩⟩⟩
  case dyn x args =>
    obtain ⟨f, cs, e, hev⟩ := hev
    rcases hev with ⟨hpf, a1, a2, r, h1, h2, h3, h4, hk⟩ | ⟨hpf, a2, r, H', h3, h4, hl, hk⟩
    · exact ⟨r, H, hk, Nat.le_refl _, .inr ⟨rfl, f, cs, e, .inl ⟨hpf, a1, a2, r, h1, h2, h3, h4, rfl, rfl⟩⟩⟩
    · exact ⟨r, H', hk, hl, .inr ⟨rfl, f, cs, e, .inr ⟨hpf, a2, r, H', h3, h4, hl, rfl, rfl⟩⟩⟩
  case dynP x args =>
    obtain ⟨f, cs, e, hpf, hev⟩ := hev
    rcases hev with ⟨hpf, a1, a2, r, h1, h2, h3, h4, hk⟩ | ⟨hpf', a2, r, H', h3, h4, hl, hk⟩
    · exact ⟨r, H, hk, Nat.le_refl _, .inl ⟨[], ⟨f, cs, e, hpf, rfl, a1, a2, h1, h2, h3, h4⟩, rfl⟩⟩
    · rw [hpf] at hpf'; cases hpf'
  all_goals
    obtain ⟨v, us, h1, h2, h3⟩ := plain hev
    exact ⟨v, _, h1, applyUs_len _ _, .inl ⟨us, h2, (appF_list h3).symm⟩⟩
theorem eq_refine {env : Env} {g : Nat} {b : Bool} (h : lookE env g = .v (.bool b)) : EqE ((g, .v (.bool b)) :: env) env := by
  intro t
  simp only [lookE]
  by_cases e : g = t
  · subst e; simp [h]
  · have : (g == t) = false := by simp [e]
    simp [this]
theorem evOps_runs {n0 : Nat → Prop} {K : ASt → Prop} : ∀ (ys : List AI) (st : ASt), (∀ a, st.heap.length ≤ a → n0 a) → evOps C n0 ys K st →
    Runs C n0 (fun env h => ∃ st', K st' ∧ EqE st'.env env ∧ h = hf st'.heap ∧ st'.base = st.base) ys st.env (hf st.heap)
  | [], st, _, hev => ⟨st, hev, EqE.refl _, rfl, rfl⟩
  | y :: r, ⟨env, H, b0⟩, hn, hev => by
    obtain ⟨d, op, guard, old, nw⟩ := y
    have run : ∀ env2, EqE env2 env → guardOK ⟨d, op, guard, old, nw⟩ env → evOpF C n0 old nw op env2 H (fun v H' => evOps C n0 r K ⟨put env2 d v, H', b0⟩) →
        Runs C n0 (fun env h => ∃ st', K st' ∧ EqE st'.env env ∧ h = hf st'.heap ∧ st'.base = b0) (⟨d, op, guard, old, nw⟩ :: r) env (hf H) := by
      intro env2 he hg hev
      obtain ⟨f1, f2, hev⟩ := hev
      obtain ⟨v, H', hk, hle, hc⟩ := evOp_core hev
      have hg2 : guardOK ⟨d, op, guard, old, nw⟩ env2 := guardOK_on (OnE.of_eq he) hg
      have core : Core C n0 ⟨d, op, guard, old, nw⟩ env2 (hf H) v (hf H') := by
        rcases hc with ⟨us, h1, h2⟩ | ⟨h1, h2⟩
        · exact .inl ⟨H.length, us, .inl ⟨hg2, f1, f2, hn _ (Nat.le_refl _), fun _ => by simp [hf], h1⟩, h2⟩
        · exact .inr ⟨hg2, h1, H, H', rfl, rfl, h2⟩
      refine ⟨put env2 d v, hf H', ⟨v, put_congr he _ _, core_env core he⟩, ?_⟩
      exact evOps_runs r ⟨put env2 d v, H', b0⟩ (fun a ha => hn a (Nat.le_trans hle ha)) hk
    have skip : ∀ env2 g b, EqE env2 env → guard = some (g, b) → (lookE env g = .v (.bool (!b)) ∨ lookE env g = .v undef) → evOps C n0 r K ⟨put env2 d (.v undef), H, b0⟩ →
        Runs C n0 (fun env h => ∃ st', K st' ∧ EqE st'.env env ∧ h = hf st'.heap ∧ st'.base = b0) (⟨d, op, guard, old, nw⟩ :: r) env (hf H) := by
      intro env2 g b he hg hl hk
      refine ⟨put env2 d (.v undef), hf H, ⟨.v undef, put_congr he _ _, .inl ⟨0, [], .inr ⟨⟨g, b, hg, hl⟩, rfl, rfl⟩, rfl⟩⟩, ?_⟩
      exact evOps_runs r ⟨put env2 d (.v undef), H, b0⟩ hn hk
    match guard with
    | none => exact run env (EqE.refl _) (.inl rfl) hev
    | some (g, true) =>
      rcases hev with ⟨b, hb, hev⟩ | ⟨hb, hev⟩
      case inr => exact skip _ g true (EqE.refl _) rfl (.inr hb) hev
      have hb' : lookE env g = .v (.bool b) := hb
      cases b with
      | true => exact run _ (eq_refine hb') (.inr ⟨g, true, rfl, hb'⟩) (hev.1 rfl)
      | false => exact skip _ g true (eq_refine hb') rfl (.inl hb') (hev.2 rfl)
    | some (g, false) =>
      rcases hev with ⟨b, hb, hev⟩ | ⟨hb, hev⟩
      case inr => exact skip _ g false (EqE.refl _) rfl (.inr hb) hev
      have hb' : lookE env g = .v (.bool b) := hb
      cases b with
      | true => exact skip _ g false (eq_refine hb') rfl (.inl hb') (hev.1 rfl)
      | false => exact run _ (eq_refine hb') (.inr ⟨g, false, rfl, hb'⟩) (hev.2 rfl)
end
structure SRF (fm : FM) (n : Nat) (w0 : World) (L0 : Nat → Loc) (env : Env) (h : HF) (a : Act) (w : World) : Prop where
  defers : a.defers = []
  size : a.tmps.size = n
  fin : ∃ N, ∀ b, N ≤ b → h b = none
  rel : ∃ L, Keep L0 w0 w ∧ LStep L0 L w0.heap.size ∧ HR fm w L h ∧ ER fm w L a env
theorem fin_appF {nid : Nat} : ∀ (us : List Upd) (h : HF), (∃ N, ∀ b, N ≤ b → h b = none) → ∃ N, ∀ b, N ≤ b → appF h nid us b = none
  | [], h, hh => hh
  | .set a o :: r, h, ⟨N, hN⟩ => fin_appF r _ ⟨max N (a + 1), fun b hb => by
      have : b ≠ a := by omega
      simp [appU, this]; exact hN b (by omega)⟩
  | .push o :: r, h, ⟨N, hN⟩ => fin_appF r _ ⟨max N (nid + 1), fun b hb => by
      have : b ≠ nid := by omega
      simp [appU, this]; exact hN b (by omega)⟩
def VarAI (x y : AI) : Prop := y.dst = x.dst ∧ y.guard = x.guard ∧
  (y.op = x.op ∨ (∃ g n z, x.op = .load g n z ∧ y.op = .loadR g n z) ∨ (∃ z as, x.op = .dyn z as ∧ y.op = .dynP z as))
section
variable {P : Program} {fm : FM} {w : World} {n : Nat} {w0 : World} {L0 : Nat → Loc}
theorem SRF.step {env : Env} {h : HF} {a : Act} (hs : SRF fm n w0 L0 env h a w) {env' : Env} {h' : HF} {L1 L' : Nat → Loc} {w' : World} {a' : Act} (hd : a'.defers = a.defers) (hz : a'.tmps.size = a.tmps.size)
    (hf' : ∃ N, ∀ b, N ≤ b → h' b = none) (h1 : Keep L0 w0 w ∧ LStep L0 L1 w0.heap.size) (hk : Keep L1 w w') (hls : LStep L1 L' w.heap.size) (hr : HR fm w' L' h') (he : ER fm w' L' a' env') :
    SRF fm n w0 L0 env' h' a' w' :=
  ⟨hd.trans hs.defers, hz.trans hs.size, hf', L', h1.1.trans h1.2 hk, h1.2.trans (hls.mono h1.1.size), hr, he⟩
theorem er_eq {L : Nat → Loc} {a : Act} {e e' : Env} (h : ER fm w L a e) (he : EqE e' e) : ER fm w L a e' := fun t => by rw [he t]; exact h t
theorem run_sound {C : Ctx} (hC : CtxOK P fm C) {o : Oper} {op0 op : AOp} (htr : trOp P fm o = some op0)
    (hv : op = op0 ∨ (∃ g n z, op0 = .load g n z ∧ op = .loadR g n z) ∨ (∃ z as, op0 = .dyn z as ∧ op = .dynP z as)) {env : Env} {h : HF} {nid : Nat} {v : AV} {us : List Upd} {a : Act} {L : Nat → Loc}
    (hr : HR fm w L h) (he : ER fm w L a env) (hfin : ∃ N, ∀ b, N ≤ b → h b = none) (hn : op.news (fun _ => true) = true → h nid = none) (hop : OpU C op env h nid v us) {Q : Exit → Act → World → Prop} :
    o.wp P a w (fun a' w' => ∃ x L', a' = a.put o.dst x ∧ Keep L w w' ∧ LStep L L' w.heap.size ∧ HR fm w' L' (appF h nid us) ∧ VR fm w' L' x v) Q := by
  have plain : ∀ op1, trOp P fm o = some op1 → op1.news (fun _ => true) = op.news (fun _ => true) → evG op1 env h nid (fun v' us' => v' = v ∧ us' = us) →
      o.wp P a w (fun a' w' => ∃ x L', a' = a.put o.dst x ∧ Keep L w w' ∧ LStep L L' w.heap.size ∧ HR fm w' L' (appF h nid us) ∧ VR fm w' L' x v) Q := by
    intro op1 ht1 hnw hev
    cases hb : op1.news (fun _ => true) with
    | true =>
      obtain ⟨x, v', us', w', h1, ⟨rfl, rfl⟩, L', h4, h5, h6, h7⟩ := evG_sound ht1 hr he (hn (by rw [← hnw, hb])) hev
      exact wp_to h1 ⟨x, L', rfl, h4, h5, h6, h7⟩
    | false =>
      obtain ⟨N, hN⟩ := hfin
      have hsame : appF h N us = appF h nid us := by
        rcases evG_shape hev with ⟨rfl, _⟩ | ⟨_, _, e⟩ | ⟨a, o, rfl, _⟩ | ⟨_, _, _, _, _, _, e, _⟩
        · rfl
        · rw [hb] at e; cases e
        · rfl
        · rw [hb] at e; cases e
      obtain ⟨x, v', us', w', h1, ⟨rfl, rfl⟩, L', h4, h5, h6, h7⟩ := evG_sound ht1 hr he (hN N (Nat.le_refl _)) (evG_nid N hb hev)
      rw [hsame] at h6
      exact wp_to h1 ⟨x, L', rfl, h4, h5, h6, h7⟩
  cases op
  case call g args =>
    have e0 : op0 = .call g args := by
      rcases hv with hv | ⟨_, _, _, _, hv⟩ | ⟨_, _, _, hv⟩
      · exact hv.symm
      · cases hv
      · cases hv
    subst e0
    obtain ⟨f, xs, ats, ho, h0, rfl, rfl⟩ := trOp_call htr
    obtain ⟨hpf, rfl, a1, a2, hb, hsc, hco, hc⟩ := hop
    obtain ⟨h1, h2⟩ := pure_call hC hpf hr (vs := (xs.toList.map a.eval).toArray) (by simp) (vs_get he xs.toList) hb hsc hco hc
    refine wp_call (f := f) (vs := (xs.toList.map a.eval).toArray) ?_ (h2.mono ?_)
    · have e3 : (xs.map a.eval) = (xs.toList.map a.eval).toArray := by apply Array.ext'; simp
      unfold execOp
      simp [ho, resolve, Deferred.ofValue, Act.eval, invoke]
      rw [callable_run h1]
      exact congrArg (fun z => Result.ok (Next.enter f z) w) e3
    · rintro e w' ⟨x, rfl, k1, k2, k3⟩
      exact ⟨x, rfl, x, L, rfl, k1, LStep.refl _ _, k2, k3⟩
  case dynP x args =>
    have e0 : op0 = .dyn x args := by
      rcases hv with hv | ⟨_, _, _, _, hv⟩ | ⟨_, _, h1, hv⟩
      · subst hv; exact (trOp_dynP htr).elim
      · cases hv
      · injection hv with e1 e2; subst e1; subst e2; exact h1
    subst e0
    obtain ⟨t, xs, ats, ho, rfl, rfl⟩ := trOp_dyn htr
    obtain ⟨g, cs, e, hpf, rfl, a1, a2, hb, hsc, hco, hc⟩ := hop
    have hx := opd_rel he (.tmp t)
    simp only [trOpd] at hx
    rw [show opd env (.t t) = .clo g cs from e] at hx
    obtain ⟨f, ys, ex, hfm, hsz, hall⟩ := vr_clo_inv hx
    subst hfm
    have e3 : (xs.map a.eval) ++ ys = ((xs.toList.map a.eval) ++ ys.toList).toArray := by apply Array.ext'; simp
    obtain ⟨h1, h2⟩ := pure_call hC hpf hr (vs := ((xs.toList.map a.eval) ++ ys.toList).toArray) (by simp [hsz]) (fun j c hj => by
      by_cases hlt : j < xs.toList.length
      · rw [List.getElem?_append_left (by simpa using hlt)] at hj
        rw [getD_append_l (by simpa using hlt)]
        have := vs_get he xs.toList j c hj
        rw [Array.getD_eq_getD_getElem?] at this
        simpa [List.getD] using this
      · rw [List.getElem?_append_right (by simpa using hlt)] at hj
        obtain ⟨m, hm⟩ : ∃ m, j = (xs.toList.map a.eval).length + m := ⟨j - (xs.toList.map a.eval).length, by simp at hlt ⊢; omega⟩
        subst hm
        rw [getD_append_r]
        have := hall m c (by simpa using hj)
        rwa [← list_getD_arr] at this) hb hsc hco hc
    refine wp_call (f := f) (vs := ((xs.toList.map a.eval) ++ ys.toList).toArray) ?_ (h2.mono ?_)
    · unfold execOp
      simp [ho, resolve, ex, Deferred.ofValue, invoke]
      rw [callable_run h1]
      exact congrArg (fun z => Result.ok (Next.enter f z) w) e3
    · rintro e w' ⟨x, rfl, k1, k2, k3⟩
      exact ⟨x, rfl, x, L, rfl, k1, LStep.refl _ _, k2, k3⟩
  case dyn => exact hop.elim
  case loadR g n z =>
    rcases hv with hv | ⟨g', n', z', h1, hv⟩ | ⟨_, _, _, hv⟩
    · subst hv; exact plain _ htr rfl hop
    · injection hv with e1 e2 e3; subst e1; subst e2; subst e3
      subst h1
      refine plain _ htr rfl ?_
      have hop' : evG (.loadR g n z) env h nid (fun v' us' => v' = v ∧ us' = us) := hop
      simp only [evG, opK] at hop' ⊢
      split at hop' <;> try exact hop'.elim
      rename_i e
      rw [e]; exact hop'
    · cases hv
  all_goals
    rcases hv with hv | ⟨_, _, _, _, hv⟩ | ⟨_, _, _, hv⟩
    · exact plain _ (hv ▸ htr) rfl hop
    · cases hv
    · cases hv
theorem step_sound {C : Ctx} (hC : CtxOK P fm C) {ops : Array Oper} {o : Oper} {x y : AI} (htr : trAI P fm n ops o = some x) (hv : VarAI x y) {n0 : Nat → Prop} {env env' : Env} {h h' : HF} {a : Act}
    (hs : SRF fm n w0 L0 env h a w) (hst : Step C n0 y env h env' h') {Q : Exit → Act → World → Prop} :
    (Region.wanted o (yielded ops a.tmps) = true → o.wp P a w (fun a' w' => SRF fm n w0 L0 env' h' a' w') Q) ∧
    (Region.wanted o (yielded ops a.tmps) = false → SRF fm n w0 L0 env' h' (a.put o.dst undef) w) := by
  obtain ⟨hop, hdst, hdn, _, _, hg⟩ := trAI_spec htr
  obtain ⟨vd, vg, vo⟩ := hv
  obtain ⟨v, hev, hco⟩ := hst
  obtain ⟨L1, hk1, hs1, hr1, he1⟩ := hs.rel
  have hyd : y.dst = o.dst := vd.trans hdst
  rw [hyd] at hev
  have hdn' : ∀ k, o.dst = some k → k < a.tmps.size := fun k hk => by rw [hs.size]; exact hdn k hk
  have hwant : ∀ g w, y.guard = some (g, w) → ∀ b, lookE env g = .v (.bool b) → Region.wanted o (yielded ops a.tmps) = (b == w) := by
    intro g wt hyg b hb
    rw [vg] at hyg
    rcases hg with ⟨_, hg2⟩ | ⟨j, want, g', hg1, hg2, hg3, hg4⟩
    · rw [hg2] at hyg; cases hyg
    · rw [hg4] at hyg; injection hyg with hyg; injection hyg with e1 e2; subst e1; subst e2
      have h1 := he1 g'
      rw [hb] at h1
      have h2 := yielded_of hg2 (by rw [hs.size]; exact hg3) (vr_v h1)
      simp only [Region.wanted, hg1, h2]
      cases b <;> cases want <;> rfl
  have hno : ∀ g w, y.guard = some (g, w) → lookE env g = .v undef → Region.wanted o (yielded ops a.tmps) = false := by
    intro g wt hyg hb
    rw [vg] at hyg
    rcases hg with ⟨_, hg2⟩ | ⟨j, want, g', hg1, hg2, hg3, hg4⟩
    · rw [hg2] at hyg; cases hyg
    · rw [hg4] at hyg; injection hyg with hyg; injection hyg with e1 e2; subst e1; subst e2
      have h1 := he1 g'
      rw [hb] at h1
      have h2 := yielded_no hg2 (by rw [hs.size]; exact hg3) (vr_v h1)
      simp only [Region.wanted, hg1, h2]
      cases want <;> rfl
  have hok : guardOK y env → Region.wanted o (yielded ops a.tmps) = true := by
    rintro (h1 | ⟨g, b, h1, h2⟩)
    · rcases hg with ⟨hg1, _⟩ | ⟨j, want, g', _, _, _, hg4⟩
      · simp [Region.wanted, hg1]
      · rw [vg, hg4] at h1; cases h1
    · rw [hwant g b h1 b h2]; simp
  rcases hco with ⟨nid, us, hsm | ⟨⟨g, b, h1, h2⟩, rfl, rfl⟩, rfl⟩ | hw
  · obtain ⟨k1, _, _, _, k5, k6⟩ := hsm
    have hwt := hok k1
    refine ⟨fun _ => ?_, fun h => by rw [hwt] at h; cases h⟩
    refine Oper.wp_mono ?_ (run_sound hC hop vo hr1 he1 hs.fin k5 k6)
    rintro a' w' ⟨x', L', rfl, j1, j2, j3, j4⟩
    exact hs.step (put_defers _ _ _) (put_size _ _ _) (fin_appF us h hs.fin) ⟨hk1, hs1⟩ j1 j2 j3 (er_eq (er_put' (fun t => (he1 t).mono j1 j2) hdn' j4) hev)
  · have hwf : Region.wanted o (yielded ops a.tmps) = false := by
      rcases h2 with h2 | h2
      · rw [hwant g b h1 (!b) h2]; cases b <;> rfl
      · exact hno g b h1 h2
    refine ⟨fun h => (by rw [hwf] at h; cases h), fun _ => ?_⟩
    exact hs.step (put_defers _ _ _) (put_size _ _ _) hs.fin ⟨hk1, hs1⟩ (Keep.refl _ _) (LStep.refl _ _) hr1 (er_eq (er_put' he1 hdn' (.v _)) hev)
  · obtain ⟨k1, k2, H, H', rfl, rfl, k3⟩ := hw
    have hwt := hok k1
    refine ⟨fun _ => ?_, fun h => by rw [hwt] at h; cases h⟩
    have hyo : y.op = x.op := by
      rcases vo with vo | ⟨g, n, z, _, vo⟩ | ⟨z, as, _, vo⟩
      · exact vo
      · rw [vo] at k2; cases k2
      · rw [vo] at k2; cases k2
    rw [hyo] at k3
    refine Oper.wp_mono ?_ (evOp_sound hC hop hr1 he1 k3)
    rintro a' w' ⟨x', v', H'', L', rfl, ⟨rfl, rfl⟩, j1, j2, j3, j4⟩
    exact hs.step (put_defers _ _ _) (put_size _ _ _) ⟨H''.length, fun b hb => List.getElem?_eq_none hb⟩ ⟨hk1, hs1⟩ j1 j2 j3 (er_eq (er_put' (fun t => (he1 t).mono j1 j2) hdn' j4) hev)
end
end Go.Abs
namespace Go.Abs
open Go Go.RowKit
theorem mapOpt_get {α β : Type} {f : α → Option β} : ∀ {l : List α} {r : List β}, mapOpt f l = some r → r.length = l.length ∧ ∀ (i : Nat) (x : α), l[i]? = some x → ∃ y, r[i]? = some y ∧ f x = some y
  | [], r, h => by simp [mapOpt] at h; subst h; exact ⟨rfl, fun i x hx => by simp at hx⟩
  | a :: l, r, h => by
    obtain ⟨y, zs, h1, h2, rfl⟩ := mapOpt_cons h
    obtain ⟨k1, k2⟩ := mapOpt_get h2
    refine ⟨by simp [k1], fun i x hx => ?_⟩
    cases i with
    | zero => simp at hx; subst hx; exact ⟨y, rfl, h1⟩
    | succ i => simpa using k2 i x (by simpa using hx)
def ancOf (o : Oper) (acc : List Nat) : Nat := o.after.toList.foldl (fun s e => if Region.binds .any e then s ||| 2 ^ e.on ||| acc.getD e.on 0 else s) 0
theorem ancs_spec : ∀ (os : List Oper) (acc : List Nat), ∃ B, ancs os acc = acc ++ B ∧ B.length = os.length ∧ ∀ (i : Nat) (o : Oper), os[i]? = some o → B[i]? = some (ancOf o ((acc ++ B).take (acc.length + i)))
  | [], acc => ⟨[], by simp [ancs], rfl, fun i o h => by simp at h⟩
  | o :: r, acc => by
    obtain ⟨B, h1, h2, h3⟩ := ancs_spec r (acc ++ [ancOf o acc])
    refine ⟨ancOf o acc :: B, by simp only [ancs]; rw [show (o.after.toList.foldl (fun s e => if Region.binds .any e then s ||| 2 ^ e.on ||| acc.getD e.on 0 else s) 0) = ancOf o acc from rfl, h1]; simp, by simp [h2], fun i p hp => ?_⟩
    cases i with
    | zero => simp at hp; subst hp; simp
    | succ i =>
      have := h3 i p (by simpa using hp)
      simp only [List.getElem?_cons_succ]
      rw [this]
      congr 2
      simp [Nat.add_assoc, Nat.add_comm 1 i]
theorem anc_bits {acc : List Nat} {k : Nat} : ∀ (es : List Edge) (s : Nat), Nat.testBit (es.foldl (fun s e => if Region.binds .any e then s ||| 2 ^ e.on ||| acc.getD e.on 0 else s) s) k = true →
    Nat.testBit s k = true ∨ ∃ e ∈ es, Region.binds .any e = true ∧ (e.on = k ∨ Nat.testBit (acc.getD e.on 0) k = true)
  | [], s, h => .inl h
  | e :: r, s, h => by
    simp only [List.foldl_cons] at h
    rcases anc_bits r _ h with h | ⟨e', he', h⟩
    · by_cases hb : Region.binds .any e = true
      · rw [if_pos hb, Nat.testBit_or, Nat.testBit_or, Bool.or_eq_true, Bool.or_eq_true] at h
        rcases h with (h | h) | h
        · exact .inl h
        · rw [Nat.testBit_two_pow] at h
          exact .inr ⟨e, List.mem_cons_self .., hb, .inl (by simpa using h)⟩
        · exact .inr ⟨e, List.mem_cons_self .., hb, .inr h⟩
      · rw [if_neg hb] at h; exact .inl h
    · exact .inr ⟨e', List.mem_cons_of_mem _ he', h⟩
theorem anc_get {os : List Oper} {i k : Nat} (h : Nat.testBit ((ancs os []).getD i 0) k = true) :
    ∃ o, os[i]? = some o ∧ ∃ e ∈ o.after.toList, Region.binds .any e = true ∧ (e.on = k ∨ Nat.testBit ((ancs os []).getD e.on 0) k = true) := by
  obtain ⟨B, h1, h2, h3⟩ := ancs_spec os []
  simp only [List.nil_append, List.length_nil, Nat.zero_add] at h1 h3
  rw [h1] at h
  cases ho : os[i]? with
  | none =>
    have : B[i]? = none := by
      rw [List.getElem?_eq_none_iff] at ho ⊢; omega
    simp [List.getD, this] at h
  | some o =>
    refine ⟨o, rfl, ?_⟩
    rw [List.getD, h3 i o ho] at h
    simp only [Option.getD_some, ancOf] at h
    rcases anc_bits _ _ h with h | ⟨e, he, hb, h⟩
    · simp at h
    · refine ⟨e, he, hb, h.imp id (fun h => ?_)⟩
      rw [h1]
      by_cases hlt : e.on < i
      · rw [List.getD, List.getElem?_take, if_pos hlt] at h; exact h
      · rw [List.getD, List.getElem?_take, if_neg hlt] at h; simp at h
theorem edge_spec : ∀ (os : List Oper) (i : Nat), edgeOK os i = true → ∀ (k : Nat) (o : Oper), os[k]? = some o → ∀ e ∈ o.after.toList, Region.binds .any e = true → e.on < i + k
  | [], i, _, k, o, hk => by simp at hk
  | p :: r, i, h, k, o, hk => by
    simp only [edgeOK, Bool.and_eq_true] at h
    intro e he hb
    cases k with
    | zero =>
      simp at hk; subst hk
      have := List.all_eq_true.1 h.1 e he
      simp [hb] at this; exact this
    | succ k => have := edge_spec r (i + 1) h.2 k o (by simpa using hk) e he hb; omega
theorem mark_same (pf : Nat → Bool) (an : List Nat) (i : Nat) (x : AI) : ∀ (l : List (AI × Nat)) (s : AI), (s.dst = x.dst ∧ s.op = x.op ∧ s.guard = x.guard) →
    let r := l.foldl (fun (s : AI) (p : AI × Nat) =>
      if p.2 = i then s
      else if (an.getD (max i p.2) 0).testBit (min i p.2) then s
      else let m := markB pf x p.1; { s with old := s.old || m.1, nw := s.nw || m.2 }) s
    r.dst = x.dst ∧ r.op = x.op ∧ r.guard = x.guard
  | [], s, h => h
  | p :: l, s, h => by
    simp only [List.foldl_cons]
    refine mark_same pf an i x l _ ?_
    split
    · exact h
    · split
      · exact h
      · exact h
theorem markAll_get {pf : Nat → Bool} {an : List Nat} {is : List AI} : (markAll pf an is).length = is.length ∧ ∀ (i : Nat) (y : AI), (markAll pf an is)[i]? = some y → ∃ x, is[i]? = some x ∧ y.dst = x.dst ∧ y.op = x.op ∧ y.guard = x.guard := by
  refine ⟨by simp [markAll], fun i y hy => ?_⟩
  simp only [markAll, List.getElem?_map, List.getElem?_zipIdx] at hy
  cases hx : is[i]? with
  | none => simp [hx] at hy
  | some x =>
    simp [hx] at hy
    refine ⟨x, rfl, ?_⟩
    subst hy
    exact mark_same pf an i x _ x ⟨rfl, rfl, rfl⟩
theorem trDraw_spec {pf : Nat → Bool} {an : List Nat} {is ys : List AI} (h : trDraw pf an is = some ys) :
    okPairs pf an ys = true ∧ ys.length = is.length ∧ ∀ (i : Nat) (y : AI), ys[i]? = some y → ∃ x, is[i]? = some x ∧ VarAI x y := by
  have ro : ∀ (i : Nat) (y : AI), (readOnly is)[i]? = some y → ∃ x, is[i]? = some x ∧ VarAI x y := by
    intro i y hy
    simp only [readOnly, List.getElem?_map] at hy
    cases hx : is[i]? with
    | none => simp [hx] at hy
    | some x =>
      simp [hx] at hy
      refine ⟨x, rfl, ?_⟩
      subst hy
      split
      · rename_i g n z e; exact ⟨rfl, rfl, .inr (.inl ⟨g, n, z, e, rfl⟩)⟩
      · exact ⟨rfl, rfl, .inl rfl⟩
  have pd : ∀ (i : Nat) (y : AI), (pureDyn is)[i]? = some y → ∃ x, is[i]? = some x ∧ VarAI x y := by
    intro i y hy
    simp only [pureDyn, List.getElem?_map] at hy
    cases hx : is[i]? with
    | none => simp [hx] at hy
    | some x =>
      simp [hx] at hy
      refine ⟨x, rfl, ?_⟩
      subst hy
      split
      · rename_i z as e; exact ⟨rfl, rfl, .inr (.inr ⟨z, as, e, rfl⟩)⟩
      · exact ⟨rfl, rfl, .inl rfl⟩
  have mk : ∀ js : List AI, js.length = is.length → (∀ (i : Nat) (y : AI), js[i]? = some y → ∃ x, is[i]? = some x ∧ VarAI x y) → (markAll pf an js).length = is.length ∧
      ∀ (i : Nat) (y : AI), (markAll pf an js)[i]? = some y → ∃ x, is[i]? = some x ∧ VarAI x y := by
    intro js hl hj
    obtain ⟨m1, m2⟩ := markAll_get (pf := pf) (an := an) (is := js)
    refine ⟨m1.trans hl, fun i y hy => ?_⟩
    obtain ⟨x, hx, e1, e2, e3⟩ := m2 i y hy
    obtain ⟨z, hz, f1, f2, f3⟩ := hj i x hx
    exact ⟨z, hz, e1.trans f1, e3.trans f2, by rw [e2]; exact f3⟩
  unfold trDraw at h
  split at h
  · rename_i hok; injection h with h; subst h; exact ⟨hok, rfl, fun i y hy => ⟨y, hy, rfl, rfl, .inl rfl⟩⟩
  · split at h
    · rename_i hok; injection h with h; subst h; exact ⟨hok, mk _ rfl (fun i y hy => ⟨y, hy, rfl, rfl, .inl rfl⟩)⟩
    · split at h
      · rename_i hok; injection h with h; subst h; exact ⟨hok, mk _ (by simp [readOnly]) ro⟩
      · split at h
        · rename_i hok; injection h with h; subst h; exact ⟨hok, mk _ (by simp [pureDyn]) pd⟩
        · cases h
def rem (m : Nat) (listed : Array Bool) : List Nat := (List.range m).filter fun i => !listed.getD i true
theorem rem_split {m : Nat} {listed : Array Bool} (hsz : listed.size = m) {i : Nat} (hi : i < m) (hl : listed.getD i true = false) :
    ∃ R1 R2, rem m listed = R1 ++ i :: R2 ∧ rem m (listed.setIfInBounds i true) = R1 ++ R2 ∧ (∀ j ∈ R1, j < i ∧ listed.getD j true = false) := by
  have hr : List.range m = List.range i ++ i :: List.range' (i + 1) (m - i - 1) := by
    have h1 : List.range m = List.range' 0 i ++ List.range' i (m - i) := by
      rw [List.range_eq_range', show m = i + (m - i) by omega, ← List.range'_append_1]
      simp
    have h2 : List.range' i (m - i) = i :: List.range' (i + 1) (m - i - 1) := by
      rw [show m - i = (m - i - 1) + 1 by omega, List.range'_succ]; simp
    rw [h1, h2, List.range_eq_range']
  refine ⟨(List.range i).filter fun j => !listed.getD j true, (List.range' (i + 1) (m - i - 1)).filter fun j => !listed.getD j true, ?_, ?_, ?_⟩
  · unfold rem; rw [hr, List.filter_append, List.filter_cons]; simp [hl]
  · unfold rem; rw [hr, List.filter_append, List.filter_cons]
    have hs : (listed.setIfInBounds i true).getD i true = true := by
      rw [Array.getD_eq_getD_getElem?]; simp [hsz, hi]
    rw [hs]
    simp only [Bool.not_true, Bool.false_eq_true, if_false]
    congr 1
    · refine List.filter_congr (fun j hj => ?_)
      have : i ≠ j := by simp at hj; omega
      rw [Array.getD_eq_getD_getElem?, Array.getD_eq_getD_getElem?, Array.getElem?_setIfInBounds_ne this]
    · refine List.filter_congr (fun j hj => ?_)
      have : i ≠ j := by simp [List.mem_range'] at hj; omega
      rw [Array.getD_eq_getD_getElem?, Array.getD_eq_getD_getElem?, Array.getElem?_setIfInBounds_ne this]
  · intro j hj
    rw [List.mem_filter] at hj
    simpa using hj
section
variable {P : Program} {fm : FM} {n : Nat} {w0 : World} {L0 : Nat → Loc}
theorem getD_set_ne {l : Array Bool} {i j : Nat} (h : i ≠ j) (d : Bool) : (l.setIfInBounds i true).getD j d = l.getD j d := by
  rw [Array.getD_eq_getD_getElem?, Array.getD_eq_getD_getElem?, Array.getElem?_setIfInBounds_ne h]
theorem any_sound {C : Ctx} (hC : CtxOK P fm C) {ops : Array Oper} {is ys : List AI} (h1 : mapOpt (trAI P fm n ops) ops.toList = some is)
    (h2 : trDraw C.pf (ancs ops.toList []) is = some ys) (hE : edgeOK ops.toList 0 = true) {n0 : Nat → Prop} {F : Env → HF → Prop} {Q : Exit → Act → World → Prop}
    (hQ : ∀ env h a w, F env h → SRF fm n w0 L0 env h a w → Q .normal a w) :
    ∀ (fuel : Nat) (listed : Array Bool) (a : Act) (w : World) (env : Env) (h : HF), listed.size = ops.size →
      (∀ j k, listed.getD j false = true → Nat.testBit ((ancs ops.toList []).getD j 0) k = true → listed.getD k false = true) → (rem ops.size listed).length ≤ fuel →
      SRF fm n w0 L0 env h a w → Runs C n0 F ((rem ops.size listed).map fun i => ys.getD i default) env h → wpAny P .any ops Q fuel listed a w := by
  obtain ⟨ok, hlen, hvar⟩ := trDraw_spec h2
  obtain ⟨l1, g1⟩ := mapOpt_get h1
  have hlen' : ys.length = ops.size := by rw [hlen, l1]; simp
  have none_left : ∀ listed : Array Bool, listed.size = ops.size → Region.ready .any ops listed = [] → rem ops.size listed = [] := by
    intro listed hsz hr
    have key : ∀ i, i < ops.size → listed.getD i true = true := by
      intro i
      induction i using Nat.strongRecOn with
      | _ i ih =>
        intro hi
        apply Classical.byContradiction
        intro hn
        have hn' : listed.getD i true = false := by simpa using hn
        have : i ∈ Region.ready .any ops listed := by
          unfold Region.ready
          rw [List.mem_filter]
          refine ⟨by simpa using hi, ?_⟩
          rw [hn']
          have ho : ops[i]? = some ops[i] := Array.getElem?_eq_getElem hi
          rw [ho]
          simp only [Bool.not_false, Bool.true_and, Option.map_some, Option.getD_some]
          rw [Array.all_eq_true']
          intro e he
          by_cases hb : Region.binds .any e = true
          · have hlt := edge_spec _ 0 hE i ops[i] (by simp [hi]) e (by simpa using he) hb
            have := ih e.on (by omega) (by omega)
            have hlt2 : e.on < listed.size := by omega
            rw [Array.getD_eq_getD_getElem?] at this ⊢
            simp [hlt2] at this ⊢
            exact .inr this
          · simp at hb; simp [hb]
        rw [hr] at this
        cases this
    unfold rem
    rw [List.filter_eq_nil_iff]
    intro i hi
    simp [key i (by simpa using hi)]
  intro fuel
  induction fuel with
  | zero =>
    intro listed a w env h hsz hcl hle hs hr
    have he : rem ops.size listed = [] := List.length_eq_zero_iff.1 (by omega)
    rw [he] at hr
    refine ⟨?_, hQ env h a w hr hs⟩
    apply List.eq_nil_iff_forall_not_mem.2
    intro i hi
    have : i ∈ rem ops.size listed := by
      unfold Region.ready at hi
      rw [List.mem_filter] at hi
      unfold rem
      rw [List.mem_filter]
      refine ⟨hi.1, ?_⟩
      have := hi.2
      rw [Bool.and_eq_true] at this
      exact this.1
    rw [he] at this
    cases this
  | succ fuel ih =>
    intro listed a w env h hsz hcl hle hs hr
    refine ⟨fun hnil => ?_, fun i hi => ?_⟩
    · rw [none_left listed hsz hnil] at hr
      exact hQ env h a w hr hs
    · unfold Region.ready at hi
      rw [List.mem_filter] at hi
      obtain ⟨hir, hi2⟩ := hi
      rw [Bool.and_eq_true] at hi2
      have hlt : i < ops.size := by simpa using hir
      have hnl : listed.getD i true = false := by simpa using hi2.1
      have ho : ops[i]? = some ops[i] := Array.getElem?_eq_getElem hlt
      have hedge : ∀ e ∈ ops[i].after.toList, Region.binds .any e = true → listed.getD e.on false = true := by
        intro e he hb
        have := hi2.2
        rw [ho] at this
        simp only [Option.map_some, Option.getD_some] at this
        rw [Array.all_eq_true'] at this
        have := this e (by simpa using he)
        simpa [hb] using this
      have hdone : ∀ k, Nat.testBit ((ancs ops.toList []).getD i 0) k = true → listed.getD k false = true := by
        intro k hk
        obtain ⟨o, ho', e, he, hb, hek⟩ := anc_get hk
        have : o = ops[i] := by rw [Array.getElem?_toList, ho] at ho'; injection ho' with ho'; exact ho'.symm
        subst this
        rcases hek with rfl | hek
        · exact hedge e he hb
        · exact hcl _ _ (hedge e he hb) hek
      obtain ⟨R1, R2, e1, e2, e3⟩ := rem_split hsz hlt hnl
      rw [e1, List.map_append, List.map_cons] at hr
      have hind : ∀ x ∈ R1.map (fun i => ys.getD i default), indep C.pf x (ys.getD i default) = true := by
        intro x hx
        obtain ⟨j, hj, rfl⟩ := List.mem_map.1 hx
        obtain ⟨hji, hjn⟩ := e3 j hj
        unfold okPairs at ok
        have := List.all_eq_true.1 (List.all_eq_true.1 ok i (by simp; omega)) j (by simpa using hji)
        rw [Bool.or_eq_true] at this
        rcases this with hb | hb
        · have hd := hdone j hb
          have hjs : j < listed.size := by omega
          rw [Array.getD_eq_getD_getElem?] at hd hjn
          simp [hjs] at hd hjn
          rw [hd] at hjn; cases hjn
        · have hj' : ys[j]? = some (ys.getD j default) := by simp [List.getD, show j < ys.length by omega]
          have hi' : ys[i]? = some (ys.getD i default) := by simp [List.getD, show i < ys.length by omega]
          rw [hj', hi'] at hb
          exact hb
      obtain ⟨env', h', hst, hr'⟩ := runs_front hind hr
      rw [← List.map_append, ← e2] at hr'
      have hi' : ys[i]? = some (ys.getD i default) := by simp [List.getD, show i < ys.length by omega]
      obtain ⟨x, hx, hva⟩ := hvar i _ hi'
      obtain ⟨x', hx', htr⟩ := g1 i ops[i] (by simp [hlt])
      have : x' = x := by rw [hx] at hx'; injection hx' with hx'; exact hx'.symm
      subst this
      obtain ⟨r1, r2⟩ := step_sound hC htr hva hs hst (Q := Q)
      have next : ∀ a' w', SRF fm n w0 L0 env' h' a' w' → wpAny P .any ops Q fuel (listed.setIfInBounds i true) a' w' := by
        intro a' w' hs'
        refine ih _ a' w' env' h' (by simpa using hsz) (fun j k hj hk => ?_) ?_ hs' hr'
        · have hk' : listed.getD k false = true := by
            by_cases e : i = j
            · subst e; exact hdone k hk
            · rw [getD_set_ne e] at hj; exact hcl j k hj hk
          by_cases e : i = k
          · subst e
            rw [Array.getD_eq_getD_getElem?]; simp [hsz, hlt]
          · rw [getD_set_ne e]; exact hk'
        · rw [e1] at hle; rw [e2]; simp at hle ⊢; omega
      unfold wpOp
      rw [ho]
      simp only
      split
      · rename_i hw; exact .inl (Oper.wp_mono next (r1 hw))
      · rename_i hw; exact next _ _ (r2 (by simpa using hw))
theorem draw_sound {C : Ctx} (hC : CtxOK P fm C) (hm : P.follows .mixedOrders = true) {ops : Array Oper} {is ys : List AI} (h1 : mapOpt (trAI P fm n ops) ops.toList = some is)
    (hE : edgeOK ops.toList 0 = true) (h2 : trDraw C.pf (ancs ops.toList []) is = some ys) {K : ASt → Prop} {st : ASt} {n0 : Nat → Prop} (hn0 : ∀ a, st.heap.length ≤ a → n0 a) (hev : evOps C n0 ys K st) {a : Act} {w : World} (hs : SR fm n w0 L0 st a w)
    {Q : Exit → Act → World → Prop} (hQ : ∀ st a w, K st → SR fm n w0 L0 st a w → Q .normal a w) {id : Nat} : (Code.region id ops true).wp P Q a w := by
  refine wp_region_any hm ?_
  obtain ⟨L, k1, k2, k3, k4⟩ := hs.rel
  have hk : Keep L w { w with drawn := w.drawn + 1 } := ⟨rfl, rfl, rfl, Nat.le_refl _, fun _ _ _ => rfl, fun _ _ h => h⟩
  have hs0 : SRF fm n w0 L0 st.env (hf st.heap) a { w with drawn := w.drawn + 1 } :=
    ⟨hs.defers, hs.size, ⟨st.heap.length, fun b hb => List.getElem?_eq_none hb⟩, L, k1.trans k2 hk, k2, k3.mono hk (fun _ _ _ => rfl), fun t => (k4 t).mono hk (LStep.refl _ _)⟩
  have hruns := evOps_runs ys st hn0 hev
  have hlen' : ys.length = ops.size := by rw [(trDraw_spec h2).2.1, (mapOpt_get h1).1]; simp
  refine any_sound hC h1 h2 hE (F := fun env h => ∃ st', K st' ∧ EqE st'.env env ∧ h = hf st'.heap ∧ st'.base = st.base) (n0 := n0) ?_ ops.size _ a _ st.env (hf st.heap) (by simp) ?_ ?_ hs0 ?_
  · rintro env h a' w' ⟨st', q1, q2, q3, q4⟩ hs'
    subst q3
    obtain ⟨L', j1, j2, j3, j4⟩ := hs'.rel
    exact hQ st' a' w' q1 ⟨hs'.defers, hs'.size, fun b hb => by rw [q4]; exact hs.base b hb, L', j1, j2, j3, er_eq j4 q2⟩
  · intro j k hj _
    rw [Array.getD_eq_getD_getElem?, Array.getElem?_replicate] at hj
    split at hj <;> simp at hj
  · exact Nat.le_trans (List.length_filter_le ..) (by simp)
  · have hr : rem ops.size (Array.replicate ops.size false) = List.range ops.size := by
      unfold rem
      rw [List.filter_eq_self]
      intro i hi
      have : i < ops.size := by simpa using hi
      rw [Array.getD_eq_getD_getElem?]; simp [this]
    rw [hr]
    have hy : (List.range ops.size).map (fun i => ys.getD i default) = ys := by
      apply List.ext_getElem?
      intro i
      rw [List.getElem?_map]
      by_cases hi : i < ops.size
      · simp [hi, show i < ys.length by omega]
      · rw [List.getElem?_eq_none (by simpa using hi), List.getElem?_eq_none (by omega)]; rfl
    rw [hy]
    exact hruns
end
end Go.Abs
namespace Go.Abs
open Go Go.RowKit
def PostA (fm : FM) (n : Nat) (w0 : World) (L0 : Nat → Loc) (Q : Ex → ASt → Prop) : Exit → Act → World → Prop
  | .normal, a, w => ∃ st, Q .nor st ∧ SR fm n w0 L0 st a w
  | .exit id, a, w => ∃ st, Q (.exit id) st ∧ SR fm n w0 L0 st a w
  | .ret, a, w => ∃ st, Q .ret st ∧ SR fm n w0 L0 st a w
  | _, _, _ => False
def Sat (C : Ctx) (c : ACode) (Q : Ex → ASt → Prop) (st : ASt) : Prop :=
  ∀ (P : Program) (fm : FM) (n : Nat) (code : Code), CtxOK P fm C → P.follows .mixedOrders = true → tr P fm C.pf n code = some c →
    ∀ w0 L0 a w, SR fm n w0 L0 st a w → code.wp P (PostA fm n w0 L0 Q) a w
def Wk (st st' : ASt) : Prop := ∀ (fm : FM) (n : Nat) (w0 : World) (L0 : Nat → Loc) (a : Act) (w : World), SR fm n w0 L0 st a w → SR fm n w0 L0 st' a w
theorem Wk.refl (st : ASt) : Wk st st := fun _ _ _ _ _ _ h => h
theorem Wk.trans {a b c : ASt} (h : Wk a b) (k : Wk b c) : Wk a c := fun _ _ _ _ _ _ x => k _ _ _ _ _ _ (h _ _ _ _ _ _ x)
theorem PostA.mono {fm : FM} {n : Nat} {w0 : World} {L0 : Nat → Loc} {Q Q' : Ex → ASt → Prop} (h : ∀ e s, Q e s → Q' e s) {e : Exit} {a : Act} {w : World} (hp : PostA fm n w0 L0 Q e a w) :
    PostA fm n w0 L0 Q' e a w := by
  cases e <;> first | exact hp | (obtain ⟨s, hq, hs⟩ := hp; exact ⟨s, h _ _ hq, hs⟩)
section
variable {C : Ctx} {Q : Ex → ASt → Prop} {st : ASt}
theorem Sat.mono {c : ACode} {Q' : Ex → ASt → Prop} (h : Sat C c Q st) (hq : ∀ e s, Q e s → Q' e s) : Sat C c Q' st :=
  fun P fm n code hC hm ht w0 L0 a w hs => wp_mono (h P fm n code hC hm ht w0 L0 a w hs) (fun _ _ _ hp => hp.mono hq)
theorem Sat.wk {c : ACode} {s : ASt} (hw : Wk st s) (h : Sat C c Q s) : Sat C c Q st :=
  fun P fm n code hC hm ht w0 L0 a w hs => h P fm n code hC hm ht w0 L0 a w (hw _ _ _ _ _ _ hs)
theorem tr_region {P : Program} {fm : FM} {pf : Nat → Bool} {n id : Nat} {ops : Array Oper} {draw : Bool} {c : ACode} (h : tr P fm pf n (.region id ops draw) = some c) (hb : c ≠ .bad) :
    ∃ is ys, mapOpt (trAI P fm n ops) ops.toList = some is ∧ c = .reg ys ∧ (draw = true ∧ edgeOK ops.toList 0 = true ∧ trDraw pf (ancs ops.toList []) is = some ys ∨ draw = false ∧ ys = is) := by
  simp only [tr] at h
  split at h
  · rename_i ys hr
    injection h with h
    simp only [trReg] at hr
    cases hm : mapOpt (trAI P fm n ops) ops.toList with
    | none => simp [hm] at hr
    | some is =>
      simp only [hm] at hr
      cases draw with
      | true =>
        simp only [if_true] at hr
        by_cases hE : edgeOK ops.toList 0 = true
        · rw [if_pos hE] at hr
          exact ⟨is, ys, rfl, h.symm, .inl ⟨rfl, hE, hr⟩⟩
        · rw [if_neg hE] at hr; cases hr
      | false =>
        simp at hr
        exact ⟨is, ys, rfl, h.symm, .inr ⟨rfl, hr.symm⟩⟩
  · injection h with h; exact absurd h.symm hb
theorem sat_regN {ys : List AI} {n0 : Nat → Prop} (hn0 : ∀ a, st.heap.length ≤ a → n0 a) (h : evOps C n0 ys (Q .nor) st) : Sat C (.reg ys) Q st := by
  intro P fm n code hC hm ht w0 L0 a w hs
  cases code with
  | region id ops draw =>
    obtain ⟨is, zs, h1, h2, h3⟩ := tr_region ht (fun e => by cases e)
    injection h2 with h2
    subst h2
    have hQ : ∀ st a w, Q .nor st → SR fm n w0 L0 st a w → PostA fm n w0 L0 Q .normal a w := fun st a w hq hs => ⟨st, hq, hs⟩
    rcases h3 with ⟨rfl, hE, h3⟩ | ⟨rfl, rfl⟩
    · exact draw_sound hC hm h1 hE h3 hn0 h hs hQ
    · obtain ⟨ops⟩ := ops
      exact wp_region_lit (list_sound hC hQ ops _ st a w h1 h hs)
  | seq x y => simp only [tr] at ht; split at ht <;> cases ht
  | cond c x y => simp only [tr] at ht; split at ht <;> cases ht
  | block id b => simp [tr] at ht
  | loop b => simp [tr] at ht
  | _ => cases ht
theorem sat_reg {ys : List AI} (h : evOps C (fun a => st.heap.length ≤ a) ys (Q .nor) st) : Sat C (.reg ys) Q st := sat_regN (fun _ h => h) h
theorem sat_skip (h : Q .nor st) : Sat C .skip Q st := by
  intro P fm n code hC hm ht w0 L0 a w hs
  cases code with
  | skip => exact wp_skip ⟨st, h, hs⟩
  | region id ops draw => obtain ⟨_, _, _, h2, _⟩ := tr_region ht (fun e => by cases e); cases h2
  | seq x y => simp only [tr] at ht; split at ht <;> cases ht
  | cond c x y => simp only [tr] at ht; split at ht <;> cases ht
  | block id b => simp [tr] at ht
  | loop b => simp [tr] at ht
  | _ => cases ht
theorem sat_exit {id : Nat} (h : Q (.exit id) st) : Sat C (.exit id) Q st := by
  intro P fm n code hC hm ht w0 L0 a w hs
  cases code with
  | exit id' => injection ht with ht; injection ht with ht; subst ht; exact wp_exit ⟨st, h, hs⟩
  | region id ops draw => obtain ⟨_, _, _, h2, _⟩ := tr_region ht (fun e => by cases e); cases h2
  | seq x y => simp only [tr] at ht; split at ht <;> cases ht
  | cond c x y => simp only [tr] at ht; split at ht <;> cases ht
  | block id b => simp [tr] at ht
  | loop b => simp [tr] at ht
  | _ => cases ht
theorem sat_ret (h : Q .ret st) : Sat C .ret Q st := by
  intro P fm n code hC hm ht w0 L0 a w hs
  cases code with
  | ret => exact wp_ret ⟨st, h, hs⟩
  | region id ops draw => obtain ⟨_, _, _, h2, _⟩ := tr_region ht (fun e => by cases e); cases h2
  | seq x y => simp only [tr] at ht; split at ht <;> cases ht
  | cond c x y => simp only [tr] at ht; split at ht <;> cases ht
  | block id b => simp [tr] at ht
  | loop b => simp [tr] at ht
  | _ => cases ht
def Ex.then (N : ASt → Prop) (Q : Ex → ASt → Prop) : Ex → ASt → Prop
  | .nor, s => N s
  | .exit id, s => Q (.exit id) s
  | .ret, s => Q .ret s
theorem sat_seq {x y : ACode} (h : Sat C x (Ex.then (Sat C y Q) Q) st) : Sat C (.seq x y) Q st := by
  intro P fm n code hC hm ht w0 L0 a w hs
  cases code with
  | seq cx cy =>
    simp only [tr] at ht
    split at ht
    · rename_i x' y' hx hy
      injection ht with ht; injection ht with e1 e2; subst e1; subst e2
      refine wp_seq (wp_mono (h P fm n cx hC hm hx w0 L0 a w hs) ?_)
      intro e a' w' hp
      cases e with
      | normal => obtain ⟨s, hq, hs'⟩ := hp; exact hq P fm n cy hC hm hy w0 L0 a' w' hs'
      | exit id => obtain ⟨s, hq, hs'⟩ := hp; exact ⟨s, hq, hs'⟩
      | ret => obtain ⟨s, hq, hs'⟩ := hp; exact ⟨s, hq, hs'⟩
      | goto l => exact hp.elim
      | panic ch => exact hp.elim
      | outgrown => exact hp.elim
    · cases ht
  | region id ops draw => obtain ⟨_, _, _, h2, _⟩ := tr_region ht (fun e => by cases e); cases h2
  | cond c x y => simp only [tr] at ht; split at ht <;> cases ht
  | block id b => simp [tr] at ht
  | loop b => simp [tr] at ht
  | _ => cases ht
def refine1 (st : ASt) : Opd → Bool → ASt
  | .t g, b => ⟨(g, .v (.bool b)) :: st.env, st.heap, st.base⟩
  | .c _, _ => st
theorem sr_refine {fm : FM} {n : Nat} {w0 : World} {L0 : Nat → Loc} {a : Act} {w : World} (hs : SR fm n w0 L0 st a w) {c : Opd} {b : Bool} (h : opd st.env c = .v (.bool b)) :
    SR fm n w0 L0 (refine1 st c b) a w := by
  cases c with
  | c v => exact hs
  | t g =>
    obtain ⟨h1, h2, h3, L, h4, h5, h6, h7⟩ := hs
    exact ⟨h1, h2, h3, L, h4, h5, h6, er_refine h7 h⟩
theorem sat_cond {c : Opd} {x y : ACode} {b : Bool} (hc : opd st.env c = .v (.bool b)) (h1 : b = true → Sat C x Q (refine1 st c true)) (h2 : b = false → Sat C y Q (refine1 st c false)) :
    Sat C (.cond c x y) Q st := by
  intro P fm n code hC hm ht w0 L0 a w hs
  cases code with
  | cond c' cx cy =>
    simp only [tr] at ht
    split at ht
    · rename_i x' y' hx hy
      injection ht with ht; injection ht with e0 e1 e2; subst e0; subst e1; subst e2
      obtain ⟨L, k1, k2, k3, k4⟩ := hs.rel
      have hv := opd_rel k4 c'
      rw [hc] at hv
      have hv' := vr_v hv
      refine wp_cond_split hv' (fun hb => ?_) (fun hb => ?_)
      · subst hb; exact h1 rfl P fm n cx hC hm hx w0 L0 a w (sr_refine hs hc)
      · subst hb; exact h2 rfl P fm n cy hC hm hy w0 L0 a w (sr_refine hs hc)
    · cases ht
  | region id ops draw => obtain ⟨_, _, _, h2, _⟩ := tr_region ht (fun e => by cases e); cases h2
  | seq x y => simp only [tr] at ht; split at ht <;> cases ht
  | block id b => simp [tr] at ht
  | loop b => simp [tr] at ht
  | _ => cases ht
def Ex.blk (id : Nat) (Q : Ex → ASt → Prop) : Ex → ASt → Prop
  | .nor, s => Q .nor s
  | .exit id', s => bif id' == id then Q .nor s else Q (.exit id') s
  | .ret, s => Q .ret s
theorem sat_blk {id : Nat} {b : ACode} (h : Sat C b (Ex.blk id Q) st) : Sat C (.blk id b) Q st := by
  intro P fm n code hC hm ht w0 L0 a w hs
  cases code with
  | block id' cb =>
    simp only [tr, Option.map_eq_some_iff] at ht
    obtain ⟨b', hb, ht⟩ := ht
    injection ht with e1 e2; subst e1; subst e2
    refine wp_block (wp_mono (h P fm n cb hC hm hb w0 L0 a w hs) ?_)
    intro e a' w' hp
    cases e with
    | normal => obtain ⟨s, hq, hs'⟩ := hp; exact ⟨s, hq, hs'⟩
    | exit id =>
      obtain ⟨s, hq, hs'⟩ := hp
      by_cases e : id = id'
      · subst e
        simp only [Ex.blk, beq_self_eq_true, cond_true] at hq
        simp only [Exit.inBlock, if_true]
        exact ⟨s, hq, hs'⟩
      · have e1 : (id == id') = false := by simp [e]
        simp only [Ex.blk, e1, cond_false] at hq
        simp only [Exit.inBlock, e, if_false]
        exact ⟨s, hq, hs'⟩
    | ret => obtain ⟨s, hq, hs'⟩ := hp; exact ⟨s, hq, hs'⟩
    | goto l => exact hp.elim
    | panic ch => exact hp.elim
    | outgrown => exact hp.elim
  | region id ops draw => obtain ⟨_, _, _, h2, _⟩ := tr_region ht (fun e => by cases e); cases h2
  | seq x y => simp only [tr] at ht; split at ht <;> cases ht
  | cond c x y => simp only [tr] at ht; split at ht <;> cases ht
  | loop b => simp [tr] at ht
  | _ => cases ht
theorem sat_loop {b : ACode} (J : Nat → ASt → Prop) (h0 : ∃ m s, J m s ∧ Wk st s)
    (hb : ∀ m s, J m s → Sat C b (Ex.then (fun t => ∃ m' s', J m' s' ∧ m' < m ∧ Wk t s') Q) s) : Sat C (.loop b) Q st := by
  intro P fm n code hC hm ht w0 L0 a w hs
  cases code with
  | loop cb =>
    simp only [tr, Option.map_eq_some_iff] at ht
    obtain ⟨b', hcb, ht⟩ := ht
    injection ht with e1; subst e1
    obtain ⟨m0, s0, hJ0, hw0⟩ := h0
    intro fr k cs
    have key : ∀ m s a w, J m s → SR fm n w0 L0 s a w →
        ∃ e a' w', PostA fm n w0 L0 Q e a' w' ∧ Arrives P (lone (fr.at a (.code cb :: .inLoop cb :: k)) cs w) fr k cs e a' w' := by
      intro m
      induction m using Nat.strongRecOn with
      | _ m ih =>
        intro s a w hJ hs
        obtain ⟨e, a₁, w₁, hq, harr⟩ := hb m s hJ P fm n cb hC hm hcb w0 L0 a w hs fr (.inLoop cb :: k) cs
        cases e with
        | normal =>
          obtain ⟨s1, ⟨m', s', hJ', hlt, hwk⟩, hs1⟩ := hq
          obtain ⟨e₂, a₂, w₂, hq₂, harr₂⟩ := ih m' hlt s' a₁ w₁ hJ' (hwk _ _ _ _ _ _ hs1)
          exact ⟨e₂, a₂, w₂, hq₂, .of_steps (Steps.trans harr (.one step_inLoop)) harr₂⟩
        | exit id => obtain ⟨s1, hq, hs1⟩ := hq; refine ⟨.exit id, a₁, w₁, ?_, .pass (x := .inLoop cb) rfl (fun _ _ => .inl (by simp)) harr⟩; exact ⟨s1, hq, hs1⟩
        | ret => obtain ⟨s1, hq, hs1⟩ := hq; refine ⟨.ret, a₁, w₁, ?_, .pass (x := .inLoop cb) rfl (fun _ _ => .inl (by simp)) harr⟩; exact ⟨s1, hq, hs1⟩
        | goto l => exact hq.elim
        | panic ch => exact hq.elim
        | outgrown => exact hq.elim
    obtain ⟨e, a', w', hq, harr⟩ := key m0 s0 a w hJ0 (hw0 _ _ _ _ _ _ hs)
    exact ⟨e, a', w', hq, .of_steps (.one step_loop) harr⟩
  | region id ops draw => obtain ⟨_, _, _, h2, _⟩ := tr_region ht (fun e => by cases e); cases h2
  | seq x y => simp only [tr] at ht; split at ht <;> cases ht
  | cond c x y => simp only [tr] at ht; split at ht <;> cases ht
  | block id b => simp [tr] at ht
  | _ => cases ht
end
end Go.Abs
namespace Go.Abs
open Go Go.RowKit
inductive Cz (ρ : Nat → Nat) (Fz : Nat → Prop) (H H' : HF) : AV → AV → Prop
  | u (a : AV) : Cz ρ Fz H H' a .u
  | v (x : Value) : Cz ρ Fz H H' (.v x) (.v x)
  | emp : Cz ρ Fz H H' .emp .emp
  | empRd (es : Nat) : Cz ρ Fz H H' .emp (.rd es [])
  | rd (es : Nat) (l l' : List (List AV)) (hl : l.length = l'.length) (hz : ∀ (i : Nat) (e e' : List AV), l[i]? = some e → l'[i]? = some e' → e.length = e'.length)
      (h : ∀ (i : Nat) (e e' : List AV) (j : Nat) (x x' : AV), l[i]? = some e → l'[i]? = some e' → e[j]? = some x → e'[j]? = some x' → Cz ρ Fz H H' x x') : Cz ρ Fz H H' (.rd es l) (.rd es l')
  | rp (cs cs' : List AV) (hl : cs.length = cs'.length) (h : ∀ (j : Nat) (x x' : AV), cs[j]? = some x → cs'[j]? = some x' → Cz ρ Fz H H' x x') : Cz ρ Fz H H' (.rp cs) (.rp cs')
  | agg (cs cs' : List AV) (hl : cs.length = cs'.length) (h : ∀ (j : Nat) (x x' : AV), cs[j]? = some x → cs'[j]? = some x' → Cz ρ Fz H H' x x') : Cz ρ Fz H H' (.agg cs) (.agg cs')
  | tup (cs cs' : List AV) (hl : cs.length = cs'.length) (h : ∀ (j : Nat) (x x' : AV), cs[j]? = some x → cs'[j]? = some x' → Cz ρ Fz H H' x x') : Cz ρ Fz H H' (.tup cs) (.tup cs')
  | clo (f : Nat) (cs cs' : List AV) (hl : cs.length = cs'.length) (h : ∀ (j : Nat) (x x' : AV), cs[j]? = some x → cs'[j]? = some x' → Cz ρ Fz H H' x x') : Cz ρ Fz H H' (.clo f cs) (.clo f cs')
  | ref (a off len : Nat) (o : AObj) (h : H' a = some (some o)) : Cz ρ Fz H H' (.ref (ρ a) off len) (.ref a off len)
  | ptr (a i j : Nat) (o : AObj) (h : H' a = some (some o)) : Cz ρ Fz H H' (.ptr (ρ a) i j) (.ptr a i j)
  | np (a : Nat) (o : AObj) (h : H' a = some (some o)) : Cz ρ Fz H H' (.np (ρ a)) (.np a)
  | frz (i off len : Nat) (o : AObj) (l' : List (List AV)) (hz : Fz i) (ho : H i = some (some o)) (hle : off + len ≤ o.el.length) (hl : len = l'.length)
      (hlz : ∀ (k : Nat) (e e' : List AV), o.el[off + k]? = some e → l'[k]? = some e' → e.length = e'.length)
      (h : ∀ (k : Nat) (e e' : List AV) (j : Nat) (x x' : AV), o.el[off + k]? = some e → l'[k]? = some e' → e[j]? = some x → e'[j]? = some x' → Cz ρ Fz H H' x x') :
      Cz ρ Fz H H' (.ref i off len) (.rd (wd o.es) l')
structure HCz (ρ : Nat → Nat) (Fz : Nat → Prop) (H H' : HF) (base : Nat) : Prop where
  inj : ∀ a b o o', H' a = some (some o) → H' b = some (some o') → ρ a = ρ b → a = b
  low : ∀ a, a < base → ρ a = a ∧ (H a ≠ none → H' a ≠ none)
  obj : ∀ a o', H' a = some (some o') → ¬ Fz (ρ a) ∧ ∃ o, H (ρ a) = some (some o) ∧ o'.es = o.es ∧ o'.el.length = o.el.length ∧
    ∀ (i : Nat) (e e' : List AV), o.el[i]? = some e → o'.el[i]? = some e' → e.length = e'.length ∧ ∀ (j : Nat) (x x' : AV), e[j]? = some x → e'[j]? = some x' → Cz ρ Fz H H' x x'
def locs (ρ : Nat → Nat) (H' : HF) (L : Nat → Loc) : Nat → Loc := fun a =>
  match H' a with
  | none => .fresh
  | some none => match L a with
    | .hid g => .hid g
    | _ => .dead
  | some (some _) => L (ρ a)
section
variable {fm : FM} {w : World} {L : Nat → Loc} {ρ : Nat → Nat} {Fz : Nat → Prop} {H H' : HF} {base : Nat}
theorem locs_cells {a g e c : Nat} (h : locs ρ H' L a = .cells g e c) : (∃ o, H' a = some (some o)) ∧ L (ρ a) = .cells g e c := by
  unfold locs at h
  split at h
  · cases h
  · split at h <;> cases h
  · rename_i o ho; exact ⟨⟨o, ho⟩, h⟩
theorem locs_live {a : Nat} {o : AObj} (h : H' a = some (some o)) : locs ρ H' L a = L (ρ a) := by simp [locs, h]
theorem locs_ownc {b : Nat} (h : OwnC (locs ρ H' L) b) : OwnC L b := by
  obtain ⟨a, e, c, h⟩ := h
  exact ⟨_, e, c, (locs_cells h).2⟩
theorem locs_hid {a g : Nat} (h : locs ρ H' L a = .hid g) : ∃ b, L b = .hid g := by
  unfold locs at h
  split at h
  · cases h
  · split at h
    · rename_i g' hg; injection h with h; subst h; exact ⟨a, hg⟩
    · cases h
  · exact ⟨_, h⟩
theorem locs_owned {b : Nat} (h : Owned (locs ρ H' L) b) : Owned L b := by
  rcases h with h | ⟨a, h⟩
  · exact .inl (locs_ownc h)
  · exact .inr (locs_hid h)
theorem vr_cz (hz : HCz ρ Fz H H' base) (hr : HR fm w L H) {a a' : AV} (hc : Cz ρ Fz H H' a a') : ∀ {x : Value}, VR fm w L x a → VR fm w (locs ρ H' L) x a' := by
  induction hc with
  | u a => intro x _; exact .u x
  | v y => intro x h; rw [vr_v h]; exact .v y
  | emp => intro x h; obtain ⟨A, rfl⟩ := vr_emp_inv h; exact .emp A
  | empRd es => intro x h; obtain ⟨A, rfl⟩ := vr_emp_inv h; exact .rd0 A es 0
  | rd es l l' hl hlz h ih =>
    intro x hx
    rcases vr_rd_inv hx with ⟨rfl, A, c, rfl⟩ | ⟨b, o, c, vals, rfl, hne, hes, hes0, hlc, hb, hbs, hcl, h1, hrr⟩
    · have : l' = [] := List.length_eq_zero_iff.1 hl.symm
      subst this; exact .rd0 A es c
    · have g2 : ∀ (i : Nat) (e' : List AV) (j : Nat) (y' : AV), l'[i]? = some e' → e'[j]? = some y' → ∃ e y, l[i]? = some e ∧ e[j]? = some y := by
        intro i e' j y' hi hj
        obtain ⟨e, he⟩ := get_pair hl hi
        obtain ⟨y, hy⟩ := get_pair (hlz i e e' he hi) hj
        exact ⟨e, y, he, hy⟩
      rw [hl]
      exact .rd b o c es l' vals (fun e => hne (List.length_eq_zero_iff.1 (by rw [hl, e]; rfl))) (fun e' he' => by
          obtain ⟨i, hi, he⟩ := List.mem_iff_getElem.1 he'
          have hi' : l'[i]? = some e' := by rw [List.getElem?_eq_getElem hi, he]
          obtain ⟨e, hie⟩ := get_pair hl hi'
          rw [← hlz i e e' hie hi']
          exact hes e (List.mem_of_getElem? hie)) hes0 (by omega) (fun ho => hb (locs_owned ho)) hbs
        (fun i e' j y' hi hj => by obtain ⟨e, y, h2, h3⟩ := g2 i e' j y' hi hj; exact hcl i e j y h2 h3)
        (fun i e' j y' hi hj => by obtain ⟨e, y, h2, h3⟩ := g2 i e' j y' hi hj; exact h1 i e j y h2 h3)
        (fun i e' j y' hi hj => by obtain ⟨e, y, h2, h3⟩ := g2 i e' j y' hi hj; exact ih i e e' j y y' h2 hi h3 hj (hrr i e j y h2 h3))
  | rp cs cs' hl h ih =>
    intro x hx
    obtain ⟨b, o, vals, rfl, hb, hbs, hcl, h1, hrr⟩ := vr_rp_inv hx
    exact .rp b o cs' vals (fun ho => hb (locs_owned ho)) hbs
      (fun j y' hj => by obtain ⟨y, hy⟩ := get_pair hl hj; exact hcl j y hy)
      (fun j y' hj => by obtain ⟨y, hy⟩ := get_pair hl hj; exact h1 j y hy)
      (fun j y' hj => by obtain ⟨y, hy⟩ := get_pair hl hj; exact ih j y y' hy hj (hrr j y hy))
  | agg cs cs' hl h ih =>
    intro x hx
    obtain ⟨xs, rfl, hs, hall⟩ := vr_agg_inv hx
    exact .agg xs cs' (by omega) (fun j y' hj => by obtain ⟨y, hy⟩ := get_pair hl hj; exact (hall j y hy).1)
      (fun j y' hj => by obtain ⟨y, hy⟩ := get_pair hl hj; exact ih j y y' hy hj (hall j y hy).2)
  | tup cs cs' hl h ih =>
    intro x hx
    obtain ⟨xs, rfl, hs, hall⟩ := vr_tup_inv hx
    exact .tup xs cs' (by omega) (fun j y' hj => by obtain ⟨y, hy⟩ := get_pair hl hj; exact ih j y y' hy hj (hall j y hy))
  | clo f cs cs' hl h ih =>
    intro x hx
    obtain ⟨g, xs, rfl, hf, hs, hall⟩ := vr_clo_inv hx
    subst hf
    exact .clo g xs cs' (by omega) (fun j y' hj => by obtain ⟨y, hy⟩ := get_pair hl hj; exact ih j y y' hy hj (hall j y hy))
  | ref a off len o h =>
    intro x hx
    obtain ⟨_, o2, ho2, _⟩ := hz.obj a o h
    rcases vr_live_ref hr ho2 hx with ⟨g, es, cap, hL, e1, e2, rfl⟩ | ⟨A, b0, hL, hA0, rfl, rfl, rfl⟩
    · exact .refAt g es cap a off len (by rw [locs_live h]; exact hL) e2
    · exact .refNil A a b0 (by rw [locs_live h]; exact hL) hA0
  | ptr a i j o h =>
    intro x hx
    obtain ⟨_, o2, ho2, _⟩ := hz.obj a o h
    obtain ⟨g, es, cap, hL, e1, rfl⟩ := vr_live_ptr hr ho2 hx
    exact .ptrAt g es cap a i j (by rw [locs_live h]; exact hL)
  | np a o h =>
    intro x hx
    obtain ⟨_, o2, ho2, _⟩ := hz.obj a o h
    obtain ⟨g, hL, ht, hv⟩ := vr_live_np hr ho2 hx
    exact .npAt g a x (by rw [locs_live h]; exact hL) ht hv
  | frz i off len o l' hfz ho hle hl hlz h ih =>
    intro x hx
    rcases vr_live_ref hr ho hx with ⟨g, es, cap, hL, e1, e2, rfl⟩ | ⟨A, b0, hL, hA0, rfl, rfl, rfl⟩
    · subst e1
      by_cases hl0 : l' = []
      · subst hl0; simp at hl; subst hl; exact .rd0 _ _ _
      · have hob := hr.obj i o ho
        rw [hL] at hob
        obtain ⟨_, hes, hlc, hcm, hall, cur, ty, hg, hcs, hrr⟩ := hob
        have hlt := (Array.getElem?_eq_some_iff.1 hg).1
        have g2 : ∀ (k : Nat) (e' : List AV), l'[k]? = some e' → ∃ e, o.el[off + k]? = some e := by
          intro k e' hk
          have := (List.getElem?_eq_some_iff.1 hk).1
          exact ⟨o.el[off + k], List.getElem?_eq_getElem (by omega)⟩
        have key : ∀ k e j' y, o.el[off + k]? = some e → e[j']? = some y → (off + k) * (wd o.es) + j' < cur.size := by
          intro k e j' y h1 hj
          have h2 := (List.getElem?_eq_some_iff.1 h1).1
          have h3 := hall e (List.mem_of_getElem? h1)
          have h4 := (List.getElem?_eq_some_iff.1 hj).1
          have h5 : (off + k + 1) * (wd o.es) ≤ cap * (wd o.es) := Nat.mul_le_mul_right _ (by omega)
          rw [Nat.add_mul] at h5
          rw [hcs]; omega
        have hno : ¬ Owned (locs ρ H' L) g := by
          rintro (⟨b, e, c, hb⟩ | ⟨b, hb⟩)
          · obtain ⟨⟨ob, hob⟩, hb2⟩ := locs_cells hb
            have := hr.inj _ _ _ _ _ _ _ hb2 hL
            exact (hz.obj b ob hob).1 (by rw [this]; exact hfz)
          · obtain ⟨b', hb'⟩ := locs_hid hb
            exact (hr.hid b' g hb').2 ⟨i, _, _, hL⟩
        rw [hl]
        refine .rd g (off * (wd o.es)) (cap - off) (wd o.es) l' (fun k j' => cur.getD ((off + k) * (wd o.es) + j') undef) hl0 (fun e' he' => ?_) hes (by omega) hno hlt (fun k e' j' y' hk hj => ?_) (fun k e' j' y' hk hj => ?_) (fun k e' j' y' hk hj => ?_)
        · obtain ⟨k, hk, he⟩ := List.mem_iff_getElem.1 he'
          have hk' : l'[k]? = some e' := by rw [List.getElem?_eq_getElem hk, he]
          obtain ⟨e, hke⟩ := g2 k e' hk'
          rw [← hlz k e e' hke hk']
          exact hall e (List.mem_of_getElem? hke)
        · obtain ⟨e, hke⟩ := g2 k e' hk
          obtain ⟨y, hy⟩ := get_pair (hlz k e e' hke hk) hj
          rw [cell_of_row w g _ cur ty (0, 0) hg, ← Nat.add_mul]
          exact getD_of_lt (key k e j' y hke hy)
        · obtain ⟨e, hke⟩ := g2 k e' hk
          obtain ⟨y, hy⟩ := get_pair (hlz k e e' hke hk) hj
          exact (hrr _ e j' y hke hy).1
        · obtain ⟨e, hke⟩ := g2 k e' hk
          obtain ⟨y, hy⟩ := get_pair (hlz k e e' hke hk) hj
          exact ih k e e' j' y y' hke hk hy hj (hrr _ e j' y hke hy).2
    · have : l' = [] := List.length_eq_zero_iff.1 hl.symm
      subst this; exact .rd0 _ _ _
theorem hr_cz (hz : HCz ρ Fz H H' base) (hr : HR fm w L H) : HR fm w (locs ρ H' L) H' := by
  refine ⟨fun a o' ha => ?_, fun a ha => ?_, fun a => ?_, fun a b g e c e' c' ha hb => ?_, fun a g ha => ?_, fun a o' g es cap h1 h2 h3 => ?_⟩
  · obtain ⟨_, o, ho, hes, hlen, hall⟩ := hz.obj a o' ha
    rw [locs_live ha]
    have hob := hr.obj (ρ a) o ho
    revert hob
    cases hL : L (ρ a) with
    | fresh => exact id
    | dead => exact id
    | hid g => exact id
    | nil => intro h1; exact ⟨List.length_eq_zero_iff.1 (by rw [hlen, show o.el = [] from h1.1]; rfl), fun h0 => h1.2 (hes.symm.trans h0)⟩
    | cells g es cap =>
      rintro ⟨h0, h1, h2, h3, h4, cur, ty, h5, h6, h7⟩
      refine ⟨by rw [hes]; exact h0, h1, by omega, h3, fun e' he' => ?_, cur, ty, h5, h6, fun i e' j x' hi hj => ?_⟩
      · obtain ⟨k, hk, he⟩ := List.mem_iff_getElem.1 he'
        have hk' : o'.el[k]? = some e' := by rw [List.getElem?_eq_getElem hk, he]
        obtain ⟨e, hke⟩ := get_pair hlen.symm hk'
        rw [← (hall k e e' hke hk').1]
        exact h4 e (List.mem_of_getElem? hke)
      · obtain ⟨e, hke⟩ := get_pair hlen.symm hi
        obtain ⟨y, hy⟩ := get_pair (hall i e e' hke hi).1 hj
        exact ⟨(h7 i e j y hke hy).1, vr_cz hz hr ((hall i e e' hke hi).2 j y x' hy hj) (h7 i e j y hke hy).2⟩
  · cases h : H' a with
    | none => simp [locs, h] at ha
    | some oo =>
      cases oo with
      | some o => exact ⟨o, rfl⟩
      | none =>
        simp only [locs, h] at ha
        exfalso
        rcases ha with ⟨g, es, cap, ha⟩ | ⟨_, ha⟩ <;> (split at ha <;> cases ha)
  · cases h : H' a with
    | none => simp [locs, h]
    | some oo =>
      cases oo with
      | some o =>
        rw [locs_live h]
        obtain ⟨_, o2, ho2, _⟩ := hz.obj a o h
        constructor
        · intro hf; have := (hr.fresh _).1 hf; rw [ho2] at this; cases this
        · intro hn; cases hn
      | none =>
        simp only [locs, h]
        constructor
        · intro hf; split at hf <;> cases hf
        · intro hn; cases hn
  · obtain ⟨⟨o, ho⟩, h1⟩ := locs_cells ha
    obtain ⟨⟨o', ho'⟩, h2⟩ := locs_cells hb
    exact hz.inj a b o o' ho ho' (hr.inj _ _ _ _ _ _ _ h1 h2)
  · obtain ⟨b, hb⟩ := locs_hid ha
    exact ⟨(hr.hid b g hb).1, fun hc => (hr.hid b g hb).2 (locs_ownc hc)⟩
  · obtain ⟨_, o2, ho2, hes, _⟩ := hz.obj a o' h1
    rw [locs_live h1] at h3
    exact hr.byt _ o2 g es cap ho2 (by rw [← hes]; exact h2) h3
theorem locs_old (hz : HCz ρ Fz H H' base) (hr : HR fm w L H) {a : Nat} (ha : a < base) (hn : L a ≠ .fresh) : locs ρ H' L a = L a ∨ (locs ρ H' L a = .dead ∧ ∀ g, L a ≠ .hid g) := by
  obtain ⟨h1, h2⟩ := hz.low a ha
  have hHn : H a ≠ none := fun e => hn ((hr.fresh a).2 e)
  cases h : H' a with
  | none => exact absurd h (h2 hHn)
  | some oo =>
    cases oo with
    | some o => rw [locs_live h, h1]; exact .inl rfl
    | none =>
      cases hL : L a with
      | hid g => left; simp [locs, h, hL]
      | _ => right; simp [locs, h, hL]
theorem lstep_cz (hz : HCz ρ Fz H H' base) (hr : HR fm w L H) {L0 : Nat → Loc} {n : Nat} (hb : ∀ b, L0 b ≠ .fresh → b < base) (hs : LStep L0 L n) : LStep L0 (locs ρ H' L) n := by
  refine ⟨fun a ha => ?_, fun b hb => hs.own b (locs_owned hb), fun b hb => hs.ownc b (locs_ownc hb)⟩
  rcases hs.old a ha with e | ⟨e, hg⟩
  · rcases locs_old hz hr (hb a ha) (by rw [e]; exact ha) with e' | ⟨e', hg⟩
    · exact .inl (e'.trans e)
    · exact .inr ⟨e', fun g => by rw [← e]; exact hg g⟩
  · rcases locs_old hz hr (hb a ha) (by rw [e]; exact fun h => by cases h) with e' | ⟨e', _⟩
    · exact .inr ⟨e'.trans e, hg⟩
    · exact .inr ⟨e', hg⟩
end
theorem wk_cz {st st' : ASt} (ρ : Nat → Nat) (Fz : Nat → Prop) (hz : HCz ρ Fz (hf st.heap) (hf st'.heap) st.base) (hb : st'.base = st.base)
    (he : ∀ t, Cz ρ Fz (hf st.heap) (hf st'.heap) (lookE st.env t) (lookE st'.env t)) : Wk st st' := by
  intro fm n w0 L0 a w hs
  obtain ⟨h1, h2, h3, L, h4, h5, h6, h7⟩ := hs
  exact ⟨h1, h2, fun b hb' => by rw [hb]; exact h3 b hb', _, h4, lstep_cz hz h6 h3 h5, hr_cz hz h6, fun t => vr_cz hz h6 (he t) (h7 t)⟩
end Go.Abs
namespace Go.Abs
open Go Go.RowKit
inductive RV where
  | t (n : Nat)
  | c (n : Nat) (g : Bool) (sz : Nat)
def resT (P : Program) : List ResultVar → Option (List RV)
  | [] => some []
  | .tmp t :: r => (resT P r).map (.t t :: ·)
  | .cell a t :: r => match aggT P t, sizeT P t, resT P r with
    | some g, some n, some l => some (.c a g n :: l)
    | _, _, _ => none
def fnTr (P : Program) (fm : FM) (pf : Nat → Bool) (f : FuncId) : Option (Nat × List RV × ACode) :=
  match P.funcs[f]? with
  | some fn => match fn.body with
    | some c => match fn.name == "runtime.NumGoroutine", resT P fn.results.toList, tr P fm pf fn.ntmps c with
      | false, some ts, some ac => some (fn.ntmps, ts, ac)
      | _, _, _ => none
    | none => none
  | none => none
def entryE : Nat → List AV → Env
  | _, [] => []
  | i, a :: r => (i, a) :: entryE (i + 1) r
def resOne (s : ASt) (r : RV) (v : AV) : Prop :=
  match r with
  | .t n => v = lookE s.env n
  | .c n g sz => evG (.load g sz (.t n)) s.env (hf s.heap) 0 (fun v' _ => v' = v)
def resAll (s : ASt) : List RV → List AV → Prop
  | [], [] => True
  | r :: rs, v :: vs => resOne s r v ∧ resAll s rs vs
  | _, _ => False
def tupR : List AV → AV
  | [v] => v
  | vs => .tup vs
def Fin (s : ASt) (rv r : AV) (H' : Heap) : Prop := ∀ (fm : FM) (w : World) (L : Nat → Loc) (x : Value), HR fm w L (hf s.heap) → VR fm w L x rv →
  ∃ L', (∀ (L0 : Nat → Loc) (n : Nat), (∀ b, L0 b ≠ .fresh → b < s.base) → LStep L0 L n → LStep L0 L' n) ∧ HR fm w L' (hf H') ∧ VR fm w L' x r
theorem fin_cz {s : ASt} {rv r : AV} {H' : Heap} (ρ : Nat → Nat) (Fz : Nat → Prop) (hz : HCz ρ Fz (hf s.heap) (hf H') s.base) (hc : Cz ρ Fz (hf s.heap) (hf H') rv r) : Fin s rv r H' :=
  fun _ _ _ _ hr hv => ⟨_, fun _ _ hb hs => lstep_cz hz hr hb hs, hr_cz hz hr, vr_cz hz hr hc hv⟩
theorem fin_same {s : ASt} {rv r : AV} (hc : Coe rv r) : Fin s rv r s.heap :=
  fun _ _ L _ hr hv => ⟨L, fun _ _ _ hs => hs, hr, vr_coe hc hv⟩
def RetQ (ts : List RV) (r : AV) (H' : Heap) : Ex → ASt → Prop
  | .exit _, _ => False
  | _, s => ∃ vs, resAll s ts vs ∧ Fin s (tupR vs) r H'
theorem lookE_entry : ∀ (args : List AV) (i t : Nat), lookE (entryE i args) t = if i ≤ t then (args[t - i]?).getD .u else .u
  | [], i, t => by simp [entryE, lookE]
  | a :: r, i, t => by
    simp only [entryE, lookE]
    by_cases h : i = t
    · subst h; simp
    · have h1 : (i == t) = false := by simp [h]
      rw [h1, cond_false, lookE_entry r (i + 1) t]
      by_cases hle : i ≤ t
      · have h2 : i + 1 ≤ t := by omega
        rw [if_pos h2, if_pos hle, show t - i = (t - (i + 1)) + 1 by omega, List.getElem?_cons_succ]
      · rw [if_neg hle, if_neg (by omega)]
def resOf (tmps : Array Value) : ResultVar → Sem Value
  | .tmp t => pure (tmps.getD t undef)
  | .cell a t => do loadVar t (← asAddr (tmps.getD a undef))
def valR : List Value → Value
  | [v] => v
  | vs => .tuple vs.toArray
def RunsTo (P : Program) (tmps : Array Value) (w : World) : List ResultVar → List Value → Prop
  | [], [] => True
  | r :: rs, y :: ys => (resOf tmps r).run P w = .ok y w ∧ RunsTo P tmps w rs ys
  | _, _ => False
theorem results_run {P : Program} {fn : Func} {rs : List ResultVar} (h2 : fn.results = rs.toArray) (h4 : rs.length ≤ 4) {tmps : Array Value} {w : World} {ys : List Value} (h : RunsTo P tmps w rs ys) :
    (results fn tmps).run P w = .ok (valR ys) w := by
  have he : results fn tmps = (do
    let vs ← fn.results.mapM (resOf tmps)
    pure (if h : vs.size = 1 then vs[0] else .tuple vs)) := rfl
  rw [he, h2]
  match rs, ys, h4, h with
  | [], [], _, _ => simp [valR]
  | [r], [y], _, ⟨k1, _⟩ => simp [valR, k1]
  | [r, r2], [y, y2], _, ⟨k1, k2, _⟩ => simp [valR, k1, k2]
  | [r, r2, r3], [y, y2, y3], _, ⟨k1, k2, k3, _⟩ => simp [valR, k1, k2, k3]
  | [r, r2, r3, r4], [y, y2, y3, y4], _, ⟨k1, k2, k3, k4, _⟩ => simp [valR, k1, k2, k3, k4]
section
variable {P : Program} {fm : FM} {w : World} {L : Nat → Loc}
theorem res_all {s : ASt} {a : Act} (hr : HR fm w L (hf s.heap)) (he : ER fm w L a s.env) : ∀ {rs : List ResultVar} {ts : List RV} {vs : List AV}, resT P rs = some ts → resAll s ts vs →
    rs.length = ts.length ∧ ∃ ys : List Value, RunsTo P a.tmps w rs ys ∧ ys.length = vs.length ∧ ∀ (j : Nat) (v : AV), vs[j]? = some v → ∃ y, ys[j]? = some y ∧ VR fm w L y v
  | [], ts, vs, h1, h2 => by
    simp [resT] at h1; subst h1
    cases vs with
    | nil => exact ⟨rfl, [], trivial, rfl, fun j v h => by simp at h⟩
    | cons v vs => exact h2.elim
  | .tmp t :: r, ts, vs, h1, h2 => by
    simp only [resT, Option.map_eq_some_iff] at h1
    obtain ⟨ts', h1, rfl⟩ := h1
    cases vs with
    | nil => exact h2.elim
    | cons v vs =>
      obtain ⟨h2, h3⟩ := h2
      obtain ⟨k0, ys, k1, k2, k3⟩ := res_all hr he h1 h3
      refine ⟨by simp [k0], a.tmps.getD t undef :: ys, ⟨rfl, k1⟩, by simp [k2], fun j x hx => ?_⟩
      cases j with
      | zero => simp at hx; subst hx; exact ⟨_, rfl, by have h2' : v = lookE s.env t := h2; rw [h2']; exact he t⟩
      | succ j => simpa using k3 j x (by simpa using hx)
  | .cell b t :: r, ts, vs, h1, h2 => by
    simp only [resT] at h1
    split at h1
    · rename_i g n l hg hn hl
      injection h1 with h1; subst h1
      cases vs with
      | nil => exact h2.elim
      | cons v vs =>
        obtain ⟨h2, h3⟩ := h2
        obtain ⟨k0, ys, k1, k2, k3⟩ := res_all hr he hl h3
        have hv : ∃ ad y, a.tmps.getD b undef = .pointer (some ad) ∧ (loadVar t ad).run P w = .ok y w ∧ VR fm w L y v := by
          have hev : evG (.load g n (.t b)) s.env (hf s.heap) 0 (fun v' _ => v' = v) := h2
          simp only [evG, opK] at hev
          have hx := he b
          split at hev <;> try exact hev.elim
          · rename_i cs e
            have e' : lookE s.env b = .rp cs := e
            rw [e'] at hx
            obtain ⟨b', o, vals, e1, hb, hbs, hc, h1, hrr⟩ := vr_rp_inv hx
            obtain ⟨y, v', k1, k2, k3⟩ := load_sound (P := P) (w := w) hg hn hc h1 hrr hev
            subst k2
            exact ⟨_, y, e1, k1, k3⟩
          · rename_i a' i j e
            have e' : lookE s.env b = .ptr a' i j := e
            rw [e'] at hx
            obtain ⟨o, ha, el, hi, hev⟩ := hev
            obtain ⟨ad, y, v', e1, k1, k2, k3⟩ := load_own hg hn hr ha hx hi hev
            subst k2
            exact ⟨ad, y, e1, k1, k3⟩
        obtain ⟨ad, y, e1, e2, e3⟩ := hv
        refine ⟨by simp [k0], y :: ys, ⟨by simp [resOf, e1, asAddr, e2], k1⟩, by simp [k2], fun j x hx => ?_⟩
        cases j with
        | zero => simp at hx; subst hx; exact ⟨y, rfl, e3⟩
        | succ j => simpa using k3 j x (by simpa using hx)
    · cases h1
theorem vr_tupR {ys : List Value} {vs : List AV} (hl : ys.length = vs.length) (h : ∀ (j : Nat) (v : AV), vs[j]? = some v → ∃ y, ys[j]? = some y ∧ VR fm w L y v) : VR fm w L (valR ys) (tupR vs) := by
  have key : VR fm w L (.tuple ys.toArray) (.tup vs) := by
    refine .tup _ _ (by simpa using hl) (fun j c hj => ?_)
    obtain ⟨y, h1, h2⟩ := h j c hj
    rw [Array.getD_eq_getD_getElem?]
    simpa [h1] using h2
  match ys, vs, hl with
  | [], [], _ => exact key
  | [y], [v], _ => obtain ⟨y', h1, h2⟩ := h 0 v rfl; simp at h1; subst h1; exact h2
  | _ :: _ :: _, _ :: _ :: _, _ => exact key
end
theorem fnTr_spec {P : Program} {fm : FM} {pf : Nat → Bool} {f : FuncId} {n : Nat} {ts : List RV} {ac : ACode} (h : fnTr P fm pf f = some (n, ts, ac)) :
    ∃ fn c, P.funcs[f]? = some fn ∧ fn.body = some c ∧ callable P f = true ∧ resT P fn.results.toList = some ts ∧ fn.ntmps = n ∧ tr P fm pf n c = some ac := by
  unfold fnTr at h
  cases hf : P.funcs[f]? with
  | none => simp [hf] at h
  | some fn =>
    simp only [hf] at h
    cases hb : fn.body with
    | none => simp [hb] at h
    | some c =>
      simp only [hb] at h
      split at h
      · rename_i ts' ac' hn hr ht
        injection h with h; injection h with e1 h; injection h with e2 e3
        subst e1; subst e2; subst e3
        exact ⟨fn, c, rfl, hb, by simp [callable, hf, hb]; simpa using hn, hr, rfl, ht⟩
      · cases h
theorem fok_of_sat {P : Program} {fm : FM} {C : Ctx} (hC : CtxOK P fm C) (hm : P.follows .mixedOrders = true) {f : FuncId} {n : Nat} {ts : List RV} {ac : ACode} (h : fnTr P fm C.pf f = some (n, ts, ac))
    (h4 : ts.length ≤ 4) {ct : Contract} (hs : ∀ args H r H', ct args H r H' → args.length ≤ n ∧ Sat C ac (RetQ ts r H') ⟨entryE 0 args, H, H.length⟩) : FOK P fm f ct := by
  obtain ⟨fn, c, hfn, hb, hcal, hres, hn, ht⟩ := fnTr_spec h
  subst hn
  intro args H r H' hct
  obtain ⟨hlen, hsat⟩ := hs args H r H' hct
  refine ⟨hcal, fun w L vs hr hsz hvs => calls_of_wp hfn hb ?_⟩
  have hs0 : SR fm fn.ntmps w L ⟨entryE 0 args, H, H.length⟩ ⟨vs ++ Array.replicate (fn.ntmps - vs.size) undef, []⟩ w := by
    refine ⟨rfl, by simp; omega, fun b hb' => ?_, L, Keep.refl _ _, LStep.refl _ _, hr, fun t => ?_⟩
    · apply Classical.byContradiction
      intro hlt
      exact hb' ((hr.fresh b).2 (List.getElem?_eq_none (by simpa using hlt)))
    · rw [lookE_entry]
      simp only [Nat.zero_le, if_true, Nat.sub_zero]
      cases hj : args[t]? with
      | none => exact .u _
      | some a =>
        have hlt : t < vs.size := by rw [hsz]; exact (List.getElem?_eq_some_iff.1 hj).1
        have := hvs t a hj
        rw [Array.getD_eq_getD_getElem?] at this ⊢
        rw [Array.getElem?_append_left hlt]
        exact this
  have post : ∀ a w', (∃ s, (∃ vs, resAll s ts vs ∧ Fin s (tupR vs) r H') ∧ SR fm fn.ntmps w L s a w') → a.defers = [] ∧ ∃ v, (results fn a.tmps).run P w' = .ok v w' ∧
      ∃ v' L', Ending.returned v = .returned v' ∧ Keep L w w' ∧ LStep L L' w.heap.size ∧ HR fm w' L' (hf H') ∧ VR fm w' L' v' r := by
    rintro a w' ⟨s, ⟨vs, hvs, hfin⟩, hs⟩
    obtain ⟨h1, h2, h3, L1, h4', h5, h6, h7⟩ := hs
    obtain ⟨k0, ys, k1, k2, k3⟩ := res_all h6 h7 hres hvs
    obtain ⟨L2, j1, j2, j3⟩ := hfin fm w' L1 _ h6 (vr_tupR k2 k3)
    exact ⟨h1, _, results_run (rs := fn.results.toList) (by simp) (by omega) k1, _, L2, rfl, h4', j1 L _ h3 h5, j2, j3⟩
  refine wp_mono (hsat P fm fn.ntmps c hC hm ht w L _ w hs0) (fun e a w' hp => ?_)
  cases e with
  | normal => exact post a w' hp
  | ret => exact post a w' hp
  | exit id => obtain ⟨s, hq, _⟩ := hp; exact hq.elim
  | goto l => exact hp.elim
  | panic ch => exact hp.elim
  | outgrown => exact hp.elim
end Go.Abs
namespace Go.Abs
open Go Go.RowKit
def Z (n : Nat) (X : Heap) : Heap := List.replicate n none ++ X
theorem z_len (n : Nat) (X : Heap) : (Z n X).length = n + X.length := by simp [Z]
theorem z_push (n : Nat) (X : Heap) (o : Option AObj) : Z n X ++ [o] = Z n (X ++ [o]) := by simp [Z]
theorem z_get (n : Nat) (X : Heap) (i : Nat) : (Z n X)[n + i]? = X[i]? := by
  simp only [Z]
  rw [List.getElem?_append_right (by simp)]
  simp
theorem z_low (n : Nat) (X : Heap) (i : Nat) (h : i < n) : (Z n X)[i]? = some none := by
  simp only [Z]
  rw [List.getElem?_append_left (by simpa using h)]
  simp [h]
theorem z_set (n : Nat) (X : Heap) (i : Nat) (o : Option AObj) : (Z n X).set (n + i) o = Z n (X.set i o) := by
  simp only [Z]
  rw [List.set_append_right _ _ (by simp)]
  simp
theorem z_obj (n : Nat) (X : Heap) (i : Nat) (K : AObj → Prop) : objK (hf (Z n X)) (n + i) K = objK (hf X) i K := by
  simp only [objK, hf, z_get]
theorem z_obj0 (n : Nat) (X : Heap) (K : AObj → Prop) : objK (hf (Z n X)) n K = objK (hf X) 0 K := z_obj n X 0 K
theorem z_set0 (n : Nat) (X : Heap) (o : Option AObj) : (Z n X).set n o = Z n (X.set 0 o) := z_set n X 0 o
theorem obj_hit (o : AObj) (r : Heap) (K : AObj → Prop) : objK (hf (some o :: r)) 0 K = K o := by simp [objK, hf]
theorem obj_miss (o : Option AObj) (r : Heap) (i : Nat) (K : AObj → Prop) : objK (hf (o :: r)) (i + 1) K = objK (hf r) i K := by simp [objK, hf]
theorem z_dead (n : Nat) (a : Nat) (o : AObj) : hf (Z n []) a ≠ some (some o) := by
  simp only [hf, Z, List.append_nil, List.getElem?_replicate]
  split <;> simp
def pureC (R : List AV → AV → Prop) : Contract := fun args H r H' => ∃ n, H = Z n [] ∧ H' = H ∧ (∀ a ∈ args, NR a) ∧ NR r ∧ R args r
structure Has (C : Ctx) (f : Nat) (R : List AV → AV → Prop) : Prop where
  pf : C.pf f = true
  ok : ∀ args r, (∀ a ∈ args, NR a) → NR r → R args r → C.C f args [] r []
def Out (H : Heap) (a r : AV) : Prop := Cz id (fun _ => True) (hf H) (fun _ => none) a r
def RetP (n : Nat) (ts : List RV) (r : AV) : Ex → ASt → Prop
  | .exit _, _ => False
  | _, s => s.base = n ∧ ∃ vs, resAll s ts vs ∧ Out s.heap (tupR vs) r
theorem out_any {H : Heap} {H' : HF} {a r : AV} (h : Out H a r) : Cz id (fun _ => True) (hf H) H' a r := by
  unfold Out at h
  induction h with
  | u a => exact .u a
  | v x => exact .v x
  | emp => exact .emp
  | empRd es => exact .empRd es
  | rd es l l' hl hz h ih => exact .rd es l l' hl hz ih
  | rp cs cs' hl h ih => exact .rp cs cs' hl ih
  | agg cs cs' hl h ih => exact .agg cs cs' hl ih
  | tup cs cs' hl h ih => exact .tup cs cs' hl ih
  | clo f cs cs' hl h ih => exact .clo f cs cs' hl ih
  | ref a off len o h => cases h
  | ptr a i j o h => cases h
  | np a o h => cases h
  | frz i off len o l' hz ho hle hl hlz h ih => exact .frz i off len o l' hz ho hle hl hlz ih
theorem fin_out {s : ASt} {n : Nat} (hb : s.base = n) {rv r : AV} (h : Out s.heap rv r) : Fin s rv r (Z n []) := by
  refine fin_cz id (fun _ => True) ⟨fun a b o o' ha => absurd ha (z_dead n a o), fun a ha => ⟨rfl, fun _ => ?_⟩, fun a o ha => absurd ha (z_dead n a o)⟩ (out_any h)
  rw [hb] at ha
  simp [hf, z_low n [] a ha]
theorem fok_pure {P : Program} {fm : FM} {C : Ctx} (hC : CtxOK P fm C) (hm : P.follows .mixedOrders = true) {f : FuncId} {n : Nat} {ts : List RV} {ac : ACode} (h : fnTr P fm C.pf f = some (n, ts, ac))
    (h4 : ts.length ≤ 4) {R : List AV → AV → Prop} (hs : ∀ args r, R args r → args.length ≤ n ∧ ∀ k, Sat C ac (RetP k ts r) ⟨entryE 0 args, Z k [], k⟩) : FOK P fm f (pureC R) := by
  refine fok_of_sat hC hm h h4 ?_
  rintro args H r H' ⟨k, rfl, rfl, hna, hnr, hR⟩
  obtain ⟨h1, h2⟩ := hs args r hR
  refine ⟨h1, ?_⟩
  have := (h2 k).mono (Q' := RetQ ts r (Z k [])) (fun e s hq => by
    cases e with
    | exit id => exact hq
    | nor => obtain ⟨hb, vs, h1, h2⟩ := hq; exact ⟨vs, h1, fin_out hb h2⟩
    | ret => obtain ⟨hb, vs, h1, h2⟩ := hq; exact ⟨vs, h1, fin_out hb h2⟩)
  simpa [z_len] using this
def ElC (l l' : List (List AV)) : Prop := l.length = l'.length ∧ ∀ (i : Nat) (e e' : List AV), l[i]? = some e → l'[i]? = some e' →
  e.length = e'.length ∧ ∀ (j : Nat) (x x' : AV), e[j]? = some x → e'[j]? = some x' → Coe x x' ∧ NR x'
theorem ElC.refl {l : List (List AV)} (h : ∀ e ∈ l, ∀ x ∈ e, NR x) : ElC l l := by
  refine ⟨rfl, fun i e e' he he' => ?_⟩
  rw [he] at he'; injection he' with he'; subst he'
  refine ⟨rfl, fun j x x' hx hx' => ?_⟩
  rw [hx] at hx'; injection hx' with hx'; subst hx'
  exact ⟨.refl _, h e (List.mem_of_getElem? he) x (List.mem_of_getElem? hx)⟩
theorem cz_coe {ρ : Nat → Nat} {Fz : Nat → Prop} {H H' : HF} {b : AV} (hn : NR b) : Cz ρ Fz H H' b b := by
  induction hn with
  | v x => exact .v x
  | u => exact .u _
  | emp => exact .emp
  | rd es l h ih =>
    refine .rd es l l rfl (fun i e e' he he' => by rw [he] at he'; injection he' with he'; rw [he']) (fun i e e' j x x' he he' hx hx' => ?_)
    rw [he] at he'; injection he' with he'; subst he'
    rw [hx] at hx'; injection hx' with hx'; subst hx'
    exact ih e (List.mem_of_getElem? he) x (List.mem_of_getElem? hx)
  | rp cs h ih =>
    refine .rp cs cs rfl (fun j x x' hx hx' => ?_)
    rw [hx] at hx'; injection hx' with hx'; subst hx'
    exact ih x (List.mem_of_getElem? hx)
  | agg cs h ih =>
    refine .agg cs cs rfl (fun j x x' hx hx' => ?_)
    rw [hx] at hx'; injection hx' with hx'; subst hx'
    exact ih x (List.mem_of_getElem? hx)
  | tup cs h ih =>
    refine .tup cs cs rfl (fun j x x' hx hx' => ?_)
    rw [hx] at hx'; injection hx' with hx'; subst hx'
    exact ih x (List.mem_of_getElem? hx)
  | clo f cs h ih =>
    refine .clo f cs cs rfl (fun j x x' hx hx' => ?_)
    rw [hx] at hx'; injection hx' with hx'; subst hx'
    exact ih x (List.mem_of_getElem? hx)
theorem cz_of_coe {ρ : Nat → Nat} {Fz : Nat → Prop} {H H' : HF} {a b : AV} (hc : Coe a b) : NR b → Cz ρ Fz H H' a b := by
  induction hc with
  | refl a => exact cz_coe
  | empRd es => intro _; exact .empRd es
  | rd es l l' hl hlz h ih =>
    intro hn
    cases hn with
    | rd es l' hn => exact .rd es l l' hl hlz (fun i e e' j x x' h1 h2 h3 h4 => ih i e e' j x x' h1 h2 h3 h4 (hn e' (List.mem_of_getElem? h2) x' (List.mem_of_getElem? h4)))
  | rp cs cs' hl h ih =>
    intro hn
    cases hn with
    | rp cs' hn => exact .rp cs cs' hl (fun j x x' h3 h4 => ih j x x' h3 h4 (hn x' (List.mem_of_getElem? h4)))
  | agg cs cs' hl h ih =>
    intro hn
    cases hn with
    | agg cs' hn => exact .agg cs cs' hl (fun j x x' h3 h4 => ih j x x' h3 h4 (hn x' (List.mem_of_getElem? h4)))
  | tup cs cs' hl h ih =>
    intro hn
    cases hn with
    | tup cs' hn => exact .tup cs cs' hl (fun j x x' h3 h4 => ih j x x' h3 h4 (hn x' (List.mem_of_getElem? h4)))
  | clo f cs cs' hl h ih =>
    intro hn
    cases hn with
    | clo f cs' hn => exact .clo f cs cs' hl (fun j x x' h3 h4 => ih j x x' h3 h4 (hn x' (List.mem_of_getElem? h4)))
theorem out_val {H : Heap} {a r : AV} (h : Coe a r) (hn : NR r) : Out H a r := cz_of_coe h hn
theorem out_frz {H : Heap} {i off len : Nat} {o : AObj} {l' : List (List AV)} (ho : H[i]? = some (some o)) (hle : off + len ≤ o.el.length) (hl : ElC ((o.el.drop off).take len) l') : Out H (.ref i off len) (.rd (wd o.es) l') := by
  have hlen : len = l'.length := by rw [← hl.1]; simp; omega
  have hsub : ∀ (k : Nat) (e e' : List AV), o.el[off + k]? = some e → l'[k]? = some e' → ((o.el.drop off).take len)[k]? = some e := by
    intro k e e' h1 h2
    have := (List.getElem?_eq_some_iff.1 h2).1
    rw [List.getElem?_take, if_pos (by omega), List.getElem?_drop]; exact h1
  exact .frz i off len o l' trivial ho hle hlen (fun k e e' h1 h2 => (hl.2 k e e' (hsub k e e' h1 h2) h2).1)
    (fun k e e' j x x' h1 h2 h3 h4 => cz_of_coe ((hl.2 k e e' (hsub k e e' h1 h2) h2).2 j x x' h3 h4).1 ((hl.2 k e e' (hsub k e e' h1 h2) h2).2 j x x' h3 h4).2)
def subC (R : AV → AV → Prop) (env : Env) : Env → Prop
  | [] => True
  | (t, v) :: r => R (lookE env t) v ∧ subC R env r
theorem subC_look {R : AV → AV → Prop} (hu : ∀ a, R a .u) {env : Env} : ∀ {env' : Env}, subC R env env' → ∀ t, R (lookE env t) (lookE env' t)
  | [], _, t => hu _
  | (s, v) :: r, h, t => by
    simp only [lookE]
    by_cases e : s = t
    · subst e; simp only [beq_self_eq_true, cond_true]; exact h.1
    · have h1 : (s == t) = false := by simp [e]
      rw [h1, cond_false]; exact subC_look hu h.2 t
def CoeU (a b : AV) : Prop := b = .u ∨ Coe a b
theorem wk_env {env env' : Env} {H : Heap} {b : Nat} (h : subC CoeU env env') : Wk ⟨env, H, b⟩ ⟨env', H, b⟩ := by
  intro fm n w0 L0 a w hs
  obtain ⟨h1, h2, h3, L, h4, h5, h6, h7⟩ := hs
  refine ⟨h1, h2, h3, L, h4, h5, h6, fun t => ?_⟩
  rcases subC_look (R := CoeU) (fun a => .inl rfl) h t with e | e
  · show VR fm w L _ (lookE env' t)
    rw [e]; exact .u _
  · exact vr_coe e (h7 t)
def rho (n : Nat) (src : List Nat) (a : Nat) : Nat := if a < n then a else n + src.getD (a - n) 0
theorem rho_at (n : Nat) {src : List Nat} {i k : Nat} (h : src[i]? = some k) : rho n src (n + i) = n + k := by
  unfold rho
  rw [if_neg (by omega), show n + i - n = i by omega]
  simp [List.getD, h]
def CZ (n : Nat) (src : List Nat) (X Y : Heap) (a b : AV) : Prop := Cz (rho n src) (fun a => n ≤ a ∧ a - n ∉ src) (hf (Z n X)) (hf (Z n Y)) a b
theorem CZ.u {n : Nat} {src : List Nat} {X Y : Heap} (a : AV) : CZ n src X Y a .u := Cz.u a
theorem CZ.val {n : Nat} {src : List Nat} {X Y : Heap} {a b : AV} (h : Coe a b) (hn : NR b) : CZ n src X Y a b := cz_of_coe h hn
theorem CZ.ref {n : Nat} {src : List Nat} {X Y : Heap} {k i off len : Nat} {o : AObj} (h : src[i]? = some k) (ho : Y[i]? = some (some o)) : CZ n src X Y (.ref (n + k) off len) (.ref (n + i) off len) := by
  have := Cz.ref (ρ := rho n src) (Fz := fun a => n ≤ a ∧ a - n ∉ src) (H := hf (Z n X)) (H' := hf (Z n Y)) (n + i) off len o (by simp only [hf, z_get]; exact ho)
  rwa [rho_at n h] at this
theorem CZ.ptr {n : Nat} {src : List Nat} {X Y : Heap} {k i a b : Nat} {o : AObj} (h : src[i]? = some k) (ho : Y[i]? = some (some o)) : CZ n src X Y (.ptr (n + k) a b) (.ptr (n + i) a b) := by
  have := Cz.ptr (ρ := rho n src) (Fz := fun a => n ≤ a ∧ a - n ∉ src) (H := hf (Z n X)) (H' := hf (Z n Y)) (n + i) a b o (by simp only [hf, z_get]; exact ho)
  rwa [rho_at n h] at this
theorem CZ.frz {n : Nat} {src : List Nat} {X Y : Heap} {k off len : Nat} {o : AObj} {l' : List (List AV)} (hk : k ∉ src) (ho : X[k]? = some (some o)) (hle : off + len ≤ o.el.length)
    (hl : ElC ((o.el.drop off).take len) l') : CZ n src X Y (.ref (n + k) off len) (.rd (wd o.es) l') := by
  have hlen : len = l'.length := by rw [← hl.1]; simp; omega
  have hsub : ∀ (k : Nat) (e e' : List AV), o.el[off + k]? = some e → l'[k]? = some e' → ((o.el.drop off).take len)[k]? = some e := by
    intro k e e' h1 h2
    have := (List.getElem?_eq_some_iff.1 h2).1
    rw [List.getElem?_take, if_pos (by omega), List.getElem?_drop]; exact h1
  exact Cz.frz (n + k) off len o l' ⟨by omega, by rwa [show n + k - n = k by omega]⟩ (by simp only [hf, z_get]; exact ho) hle hlen (fun k e e' h1 h2 => (hl.2 k e e' (hsub k e e' h1 h2) h2).1)
    (fun k e e' j x x' h1 h2 h3 h4 => cz_of_coe ((hl.2 k e e' (hsub k e e' h1 h2) h2).2 j x x' h3 h4).1 ((hl.2 k e e' (hsub k e e' h1 h2) h2).2 j x x' h3 h4).2)
def srcOK (X : Heap) : List Nat → Heap → Prop
  | [], [] => True
  | k :: r, y :: Y => (∃ o o', X[k]? = some (some o) ∧ y = some o' ∧ o'.es = o.es ∧ ElC o.el o'.el) ∧ srcOK X r Y
  | _, _ => False
theorem srcOK_get {X : Heap} : ∀ {src : List Nat} {Y : Heap}, srcOK X src Y → ∀ {i : Nat} {y : Option AObj}, Y[i]? = some y → ∃ k o o', src[i]? = some k ∧ X[k]? = some (some o) ∧ y = some o' ∧ o'.es = o.es ∧ ElC o.el o'.el
  | [], [], _, i, y, h => by simp at h
  | k :: r, y0 :: Y, hs, i, y, h => by
    cases i with
    | zero => simp at h; subst h; obtain ⟨⟨o, o', h1, h2, h3, h4⟩, _⟩ := hs; exact ⟨k, o, o', rfl, h1, h2, h3, h4⟩
    | succ i => simpa using srcOK_get hs.2 (i := i) (by simpa using h)
  | [], _ :: _, hs, _, _, _ => hs.elim
  | _ :: _, [], hs, _, _, _ => hs.elim
theorem wk_z {n : Nat} {X Y : Heap} {env env' : Env} (src : List Nat) (hnd : src.Nodup) (hs : srcOK X src Y) (he : subC (CZ n src X Y) env env') : Wk ⟨env, Z n X, n⟩ ⟨env', Z n Y, n⟩ := by
  have key : ∀ a o', hf (Z n Y) a = some (some o') → ∃ i k o, a = n + i ∧ src[i]? = some k ∧ X[k]? = some (some o) ∧ o'.es = o.es ∧ ElC o.el o'.el := by
    intro a o' h
    by_cases hlt : a < n
    · simp [hf, z_low n Y a hlt] at h
    · obtain ⟨i, rfl⟩ : ∃ i, a = n + i := ⟨a - n, by omega⟩
      simp only [hf, z_get] at h
      obtain ⟨k, o, o2, h1, h2, h3, h4, h5⟩ := srcOK_get hs h
      injection h3 with h3; subst h3
      exact ⟨i, k, o, rfl, h1, h2, h4, h5⟩
  refine wk_cz (rho n src) (fun a => n ≤ a ∧ a - n ∉ src) ⟨fun a b o o' ha hb hab => ?_, fun a ha => ?_, fun a o' ha => ?_⟩ rfl (subC_look (R := CZ n src X Y) CZ.u he)
  · obtain ⟨i, k, o1, rfl, h1, _⟩ := key a o ha
    obtain ⟨j, k', o2, rfl, h2, _⟩ := key b o' hb
    rw [rho_at n h1, rho_at n h2] at hab
    have hkk : k = k' := by omega
    subst hkk
    have hi := (List.getElem?_eq_some_iff.1 h1)
    have hj := (List.getElem?_eq_some_iff.1 h2)
    have := (List.getElem_inj (h₀ := hi.1) (h₁ := hj.1) hnd).1 (by rw [hi.2, hj.2])
    rw [this]
  · refine ⟨by simp only [rho]; rw [if_pos ha], fun _ => ?_⟩
    simp [hf, z_low n Y a ha]
  · obtain ⟨i, k, o, rfl, h1, h2, h3, h4⟩ := key a o' ha
    rw [rho_at n h1]
    refine ⟨fun h => h.2 ?_, o, by simp only [hf, z_get]; exact h2, h3, h4.1.symm, fun j e e' he he' => ⟨(h4.2 j e e' he he').1, fun m x x' hx hx' => ?_⟩⟩
    · rw [show n + k - n = k by omega]; exact List.mem_of_getElem? h1
    · exact cz_of_coe ((h4.2 j e e' he he').2 m x x' hx hx').1 ((h4.2 j e e' he he').2 m x x' hx hx').2
theorem wk_new {env : Env} {H : Heap} {b t es : Nat} (he : lookE env t = .emp) (hes : 0 < es) : Wk ⟨env, H, b⟩ ⟨(t, .ref H.length 0 0) :: env, H ++ [some ⟨es, []⟩], b⟩ := by
  intro fm n w0 L0 a w hs
  obtain ⟨h1, h2, h3, L, h4, h5, h6, h7⟩ := hs
  obtain ⟨k1, k2⟩ := push_nil h6 (nid := H.length) (by simp [hf]) (es := es) w0.heap.size false (fun h => absurd h (by omega))
  have k2' : LStep L (fun a => if a = H.length then .nil false else L a) w.heap.size := (push_nil h6 (nid := H.length) (by simp [hf]) (es := es) w.heap.size false (fun h => absurd h (by omega))).1
  rw [hf_push] at k2
  refine ⟨h1, h2, h3, _, h4, h5.trans k1, k2, fun s => ?_⟩
  simp only [lookE]
  by_cases e : t = s
  · subst e
    simp only [beq_self_eq_true, cond_true]
    have := h7 t
    simp only [he] at this
    obtain ⟨A, hA⟩ := vr_emp_inv this
    rw [hA]
    exact .refNil A H.length false (by simp) (fun h => by cases h)
  · have h1 : (t == s) = false := by simp [e]
    rw [h1, cond_false]
    exact (h7 s).mono (Keep.refl _ _) k2'
end Go.Abs
namespace Go.Abs
open Go Go.RowKit
def lookC : List (Nat × Contract) → Nat → Contract
  | [], _ => fun _ _ _ _ => False
  | (k, c) :: r, g => bif k == g then c else lookC r g
def ctxOf (pf : Nat → Bool) (l : List (Nat × Contract)) : Ctx := ⟨lookC l, pf⟩
structure Pure (c : Contract) : Prop where
  nr : ∀ args H r H', c args H r H' → (∀ a ∈ args, NR a) ∧ NR r ∧ H' = H
  any : ∀ args r n, c args [] r [] → c args (List.replicate n none) r (List.replicate n none)
theorem pure_pureC (R : List AV → AV → Prop) : Pure (pureC R) :=
  ⟨fun args H r H' ⟨_, _, h2, h3, h4, _⟩ => ⟨h3, h4, h2⟩, fun args r n ⟨_, _, _, h3, h4, h5⟩ => ⟨n, by simp [Z], rfl, h3, h4, h5⟩⟩
theorem ctx_nil (P : Program) (fm : FM) (pf : Nat → Bool) : CtxOK P fm (ctxOf pf []) :=
  ⟨fun _ _ _ _ _ h => h.elim, fun _ _ _ _ _ _ h => h.elim, fun _ _ _ _ _ h => h.elim⟩
theorem ctx_cons {P : Program} {fm : FM} {pf : Nat → Bool} {l : List (Nat × Contract)} {g : Nat} {c : Contract} (h : CtxOK P fm (ctxOf pf l)) (hf : ∀ f, fm f = g → FOK P fm f c) (hp : pf g = true → Pure c) :
    CtxOK P fm (ctxOf pf ((g, c) :: l)) := by
  refine ⟨fun f => ?_, fun f args H r H' h1 h2 => ?_, fun f args r n h1 h2 => ?_⟩
  · by_cases e : g = fm f
    · subst e
      have : (ctxOf pf ((fm f, c) :: l)).C (fm f) = c := by simp [ctxOf, lookC]
      rw [this]; exact hf f rfl
    · have h1 : (g == fm f) = false := by simp [e]
      have : (ctxOf pf ((g, c) :: l)).C (fm f) = (ctxOf pf l).C (fm f) := by simp [ctxOf, lookC, h1]
      rw [this]; exact h.ok f
  · by_cases e : g = f
    · subst e
      have : (ctxOf pf ((g, c) :: l)).C g = c := by simp [ctxOf, lookC]
      rw [this] at h2; exact (hp h1).nr _ _ _ _ h2
    · have h3 : (g == f) = false := by simp [e]
      have : (ctxOf pf ((g, c) :: l)).C f = (ctxOf pf l).C f := by simp [ctxOf, lookC, h3]
      rw [this] at h2; exact h.nr f args H r H' h1 h2
  · by_cases e : g = f
    · subst e
      have : (ctxOf pf ((g, c) :: l)).C g = c := by simp [ctxOf, lookC]
      rw [this] at h2 ⊢; exact (hp h1).any _ _ _ h2
    · have h3 : (g == f) = false := by simp [e]
      have : (ctxOf pf ((g, c) :: l)).C f = (ctxOf pf l).C f := by simp [ctxOf, lookC, h3]
      rw [this] at h2 ⊢; exact h.any f args r n h1 h2
theorem has_of {pf : Nat → Bool} {l : List (Nat × Contract)} {g : Nat} {R : List AV → AV → Prop} (h : lookC l g = pureC R) (hp : pf g = true) : Has (ctxOf pf l) g R :=
  ⟨hp, fun args r h1 h2 h3 => by show lookC l g args [] r []; rw [h]; exact ⟨0, rfl, rfl, h1, h2, h3⟩⟩
theorem call_has {C : Ctx} {f : Nat} {R : List AV → AV → Prop} (h : Has C f R) {args args' : List AV} {r : AV} {H : Heap} {K : AV → Heap → Prop} (hc : All2 Coe args args') (hn : ∀ a ∈ args', NR a) (hr : NR r) (hR : R args' r) (hk : K r H) :
    callK C f args H K := by
  have hb : ∀ as : List AV, All2 (Bor (hf H)) as as := fun as => by
    induction as with
    | nil => trivial
    | cons a as ih => exact ⟨.inl (.inl rfl), ih⟩
  exact .inl ⟨h.pf, args, args', r, hb _, .inl rfl, hc, h.ok _ _ hn hr hR, hk⟩
theorem call_lent {C : Ctx} {f : Nat} {R : List AV → AV → Prop} (h : Has C f R) {args args1 args' : List AV} {r : AV} {H : Heap} {K : AV → Heap → Prop} (hb : All2 (Bor (hf H)) args args1) (hs : Scal r) (hc : All2 Coe args1 args') (hn : ∀ a ∈ args', NR a) (hr : NR r) (hR : R args' r) (hk : K r H) :
    callK C f args H K := .inl ⟨h.pf, args1, args', r, hb, .inr hs, hc, h.ok _ _ hn hr hR, hk⟩
theorem all2_refl : ∀ as : List AV, All2 Coe as as
  | [] => trivial
  | a :: as => ⟨.refl a, all2_refl as⟩
end Go.Abs
namespace Go.Abs
open Go Go.RowKit
def noLoc : Nat → Loc := fun _ => .fresh
theorem noLoc_ownc (b : Nat) : ¬ OwnC noLoc b := fun ⟨_, _, _, h⟩ => by cases h
theorem noLoc_owned (b : Nat) : ¬ Owned noLoc b := fun h => h.elim (noLoc_ownc b) (fun ⟨_, h⟩ => by cases h)
theorem noLoc_hr (fm : FM) (w : World) : HR fm w noLoc (hf (Z 0 [])) := by
  refine ⟨fun a o h => ?_, fun a h => ?_, fun a => ?_, fun a b g e c e' c' h => ?_, fun a g h => ?_, fun a o g es cap h1 h2 h3 => by cases h3⟩
  · simp [hf, Z] at h
  · rcases h with ⟨_, _, _, h⟩ | ⟨_, h⟩ <;> cases h
  · simp [noLoc, hf, Z]
  · cases h
  · cases h
section
variable {H : Type} {enc : TypeId × Value → H} {P : Program} {w : World} {base : Nat} {spare : Nat → Bool} {held : Bool} {fm : FM}
structure BulkOK (bulk : DataW H → Nat) (all : List (DataW H) → Nat) : Prop where
  str : ∀ l : List UInt8, l.length + 1 ≤ bulk (.lit (.string l))
  slice : ∀ e s, all e + 1 ≤ bulk (.slice e s)
  agg : ∀ e, all e ≤ bulk (.agg e)
  nil : 1 ≤ bulk .nil
  lit : ∀ l, 1 ≤ bulk (.lit l)
  cons : ∀ d r, bulk d + all r ≤ all (d :: r)
def CellR (fm : FM) (w : World) (cs : List Value) (o : Nat) (as : List AV) : Prop := ∀ j v a, cs[o + j]? = some v → as[j]? = some a → v.oneCell' = true ∧ VR fm w noLoc v a
variable (enc P w base spare held fm)
def Reads (bulk : DataW H → Nat) (t : TypeId) (es : Nat) {X : Type} (e : X → List AV) (sz : X → Nat) (ok : X → Prop) : Prop :=
  ∀ fuel cs d ps, DataW.trod enc P w base spare held fuel t cs = some (d, ps) → ∃ x, ok x ∧ cs.length = es ∧ (e x).length = es ∧ sz x ≤ bulk d ∧ CellR fm w cs 0 (e x)
def ReadsF (all : List (DataW H) → Nat) (fs : List Field) (o es : Nat) {X : Type} (e : X → List AV) (sz : X → Nat) (ok : X → Prop) : Prop :=
  ∀ fuel cs xs, (fs.mapM fun f => DataW.trod enc P w base spare held fuel f.type ((cs.drop f.offset).take (P.cellsOf f.type))) = some xs → o + es ≤ cs.length →
    ∃ x, ok x ∧ (e x).length = es ∧ sz x ≤ all (xs.map (·.1)) ∧ CellR fm w cs o (e x)
variable {enc P w base spare held fm}
theorem Reads.conv {bulk : DataW H → Nat} {t : TypeId} {es : Nat} {X Y : Type} {e : X → List AV} {sz : X → Nat} {ok : X → Prop} {e' : Y → List AV} {sz' : Y → Nat} {ok' : Y → Prop}
    (h : Reads enc P w base spare held fm bulk t es e sz ok) (hc : ∀ x, ok x → ∃ y, ok' y ∧ e x = e' y ∧ sz' y ≤ sz x) : Reads enc P w base spare held fm bulk t es e' sz' ok' := by
  intro fuel cs d ps hd
  obtain ⟨x, h1, h2, h3, h4, h5⟩ := h fuel cs d ps hd
  obtain ⟨y, k1, k2, k3⟩ := hc x h1
  exact ⟨y, k1, h2, by rw [← k2]; exact h3, Nat.le_trans k3 h4, by rw [← k2]; exact h5⟩
theorem cellR_one {v : Value} {a : AV} (h1 : v.oneCell' = true) (h : VR fm w noLoc v a) : CellR fm w [v] 0 [a] := by
  intro j x y hx hy
  cases j with
  | zero => simp at hx hy; subst hx; subst hy; exact ⟨h1, h⟩
  | succ j => simp at hy
theorem reads_int {bulk : DataW H → Nat} {all : List (DataW H) → Nat} (hb : BulkOK bulk all) {t : TypeId} {k : IntKind} (ht : P.underlying t = some (.int k)) :
    Reads enc P w base spare held fm bulk t 1 (fun n : Int => [.v (.int k n)]) (fun _ => 1) (fun n => (Lit.int k n).wf = true) := by
  intro fuel cs d ps hd
  cases fuel with
  | zero => cases hd
  | succ fuel =>
    unfold DataW.trod at hd
    rw [ht] at hd
    simp only at hd
    split at hd <;> try cases hd
    all_goals (try (simp_all; done))
    rename_i k1 k2 n hk
    injection hk with hk; injection hk with hk; subst hk
    split at hd
    · rename_i hc
      injection hd with hd; injection hd with hd _; subst hd
      obtain ⟨rfl, hwf⟩ := hc
      exact ⟨n, hwf, rfl, rfl, hb.lit _, cellR_one rfl (.v _)⟩
    · cases hd
theorem reads_bool {bulk : DataW H → Nat} {all : List (DataW H) → Nat} (hb : BulkOK bulk all) {t : TypeId} (ht : P.underlying t = some .bool) :
    Reads enc P w base spare held fm bulk t 1 (fun b : Bool => [.v (.bool b)]) (fun _ => 1) (fun _ => True) := by
  intro fuel cs d ps hd
  cases fuel with
  | zero => cases hd
  | succ fuel =>
    unfold DataW.trod at hd
    rw [ht] at hd
    simp only at hd
    split at hd <;> try cases hd
    all_goals (try (simp_all; done))
    rename_i b hk
    exact ⟨b, trivial, rfl, rfl, hb.lit _, cellR_one rfl (.v _)⟩
theorem reads_str {bulk : DataW H → Nat} {all : List (DataW H) → Nat} (hb : BulkOK bulk all) {t : TypeId} (ht : P.underlying t = some .string) :
    Reads enc P w base spare held fm bulk t 1 (fun s : ByteArray => [.v (.string s)]) (fun s => s.size + 1) (fun _ => True) := by
  intro fuel cs d ps hd
  cases fuel with
  | zero => cases hd
  | succ fuel =>
    unfold DataW.trod at hd
    rw [ht] at hd
    simp only at hd
    split at hd <;> try cases hd
    all_goals (try (simp_all; done))
    rename_i s hk
    split at hd
    · injection hd with hd; injection hd with hd _; subst hd
      exact ⟨s, trivial, rfl, rfl, by have := hb.str s.data.toList; rw [Array.length_toList] at this; exact this, cellR_one rfl (.v _)⟩
    · cases hd
theorem mapM_some {α β : Type} {f : α → Option β} : ∀ {l : List α} {r : List β}, l.mapM f = some r → r.length = l.length ∧ ∀ (i : Nat) (x : α), l[i]? = some x → ∃ y, r[i]? = some y ∧ f x = some y
  | [], r, h => by simp at h; subst h; exact ⟨rfl, fun i x hx => by simp at hx⟩
  | a :: l, r, h => by
    rw [List.mapM_cons] at h
    cases h1 : f a with
    | none => simp [h1] at h
    | some b =>
      cases h2 : l.mapM f with
      | none => simp [h1, h2] at h
      | some bs =>
        simp [h1, h2] at h
        subst h
        obtain ⟨k1, k2⟩ := mapM_some h2
        refine ⟨by simp [k1], fun i x hx => ?_⟩
        cases i with
        | zero => simp at hx; subst hx; exact ⟨b, rfl, h1⟩
        | succ i => simpa using k2 i x (by simpa using hx)
theorem readsF_nil {all : List (DataW H) → Nat} (o : Nat) : ReadsF enc P w base spare held fm all [] o 0 (fun _ : Unit => []) (fun _ => 0) (fun _ => True) := by
  intro fuel cs xs h _
  exact ⟨(), trivial, rfl, Nat.zero_le _, fun j v a _ h => by simp at h⟩
theorem readsF_cons {bulk : DataW H → Nat} {all : List (DataW H) → Nat} (hb : BulkOK bulk all) {f : Field} {r : List Field} {o es es2 : Nat} {X Y : Type} {e : X → List AV} {sz : X → Nat} {ok : X → Prop}
    {e2 : Y → List AV} {sz2 : Y → Nat} {ok2 : Y → Prop} (ho : f.offset = o) (hc : P.cellsOf f.type = es) (h1 : Reads enc P w base spare held fm bulk f.type es e sz ok)
    (h2 : ReadsF enc P w base spare held fm all r (o + es) es2 e2 sz2 ok2) :
    ReadsF enc P w base spare held fm all (f :: r) o (es + es2) (fun x : X × Y => e x.1 ++ e2 x.2) (fun x => sz x.1 + sz2 x.2) (fun x => ok x.1 ∧ ok2 x.2) := by
  intro fuel cs xs h hle
  rw [List.mapM_cons] at h
  cases h3 : DataW.trod enc P w base spare held fuel f.type ((cs.drop f.offset).take (P.cellsOf f.type)) with
  | none => simp [h3] at h
  | some b =>
    cases h4 : (r.mapM fun f => DataW.trod enc P w base spare held fuel f.type ((cs.drop f.offset).take (P.cellsOf f.type))) with
    | none => simp [h3, h4] at h
    | some bs =>
      simp [h3, h4] at h
      subst h
      obtain ⟨x, k1, k2, k3, k4, k5⟩ := h1 fuel _ b.1 b.2 h3
      obtain ⟨y, j1, j2, j3, j4⟩ := h2 fuel cs bs h4 (by omega)
      refine ⟨(x, y), ⟨k1, j1⟩, by simp [k3, j2], ?_, fun j v a hv ha => ?_⟩
      · have := hb.cons b.1 (bs.map (·.1))
        show sz x + sz2 y ≤ all (b.1 :: bs.map (·.1))
        omega
      · replace ha : (e x ++ e2 y)[j]? = some a := ha
        by_cases hj : j < es
        · rw [List.getElem?_append_left (by omega)] at ha
          refine k5 j v a ?_ ha
          rw [ho, hc, List.getElem?_take, if_pos (by omega), List.getElem?_drop]
          simpa using hv
        · rw [List.getElem?_append_right (by omega), k3] at ha
          refine j4 (j - es) v a ?_ ha
          rw [show o + es + (j - es) = o + j by omega]; exact hv
theorem reads_struct {bulk : DataW H → Nat} {all : List (DataW H) → Nat} (hb : BulkOK bulk all) {t : TypeId} {fs : Array Field} {es : Nat} {X : Type} {e : X → List AV} {sz : X → Nat} {ok : X → Prop}
    (ht : P.underlying t = some (.struct fs)) (hc : P.cellsOf t = es) (h : ReadsF enc P w base spare held fm all fs.toList 0 es e sz ok) : Reads enc P w base spare held fm bulk t es e sz ok := by
  intro fuel cs d ps hd
  cases fuel with
  | zero => cases hd
  | succ fuel =>
    unfold DataW.trod at hd
    rw [ht] at hd
    simp only at hd
    have hd' : cs.length = P.cellsOf t ∧ ∃ xs, (fs.toList.mapM fun f => DataW.trod enc P w base spare held fuel f.type ((cs.drop f.offset).take (P.cellsOf f.type))) = some xs ∧ d = .agg (xs.map (·.1)) := by
      split at hd
      · rename_i hl
        simp only [Option.map_eq_some_iff] at hd
        obtain ⟨xs, h1, h2⟩ := hd
        injection h2 with h2 _
        exact ⟨hl, xs, h1, h2.symm⟩
      · cases hd
    obtain ⟨hl, xs, hx, rfl⟩ := hd'
    obtain ⟨x, k1, k2, k3, k4⟩ := h fuel cs xs hx (by omega)
    exact ⟨x, k1, by omega, k2, Nat.le_trans k3 (hb.agg _), k4⟩
theorem pick_list {X : Type} {Pr : Nat → X → Prop} : ∀ (n : Nat), (∀ i, i < n → ∃ x, Pr i x) → ∃ l : List X, l.length = n ∧ ∀ i x, l[i]? = some x → Pr i x
  | 0, _ => ⟨[], rfl, fun i x h => by simp at h⟩
  | n + 1, h => by
    obtain ⟨l, h1, h2⟩ := pick_list n (fun i hi => h i (by omega))
    obtain ⟨x, hx⟩ := h n (by omega)
    refine ⟨l ++ [x], by simp [h1], fun i y hy => ?_⟩
    by_cases hi : i < l.length
    · rw [List.getElem?_append_left hi] at hy; exact h2 i y hy
    · rw [List.getElem?_append_right (by omega)] at hy
      have : i - l.length = 0 := by
        have := (List.getElem?_eq_some_iff.1 hy).1; simp at this; omega
      rw [this] at hy
      simp at hy; subst hy
      have : i = n := by omega
      subst this; exact hx
theorem sum_bulk {bulk : DataW H → Nat} {all : List (DataW H) → Nat} (hb : BulkOK bulk all) {X : Type} {sz : X → Nat} : ∀ {l : List X} {ds : List (DataW H)}, l.length = ds.length → (∀ (i : Nat) (x : X) (d : DataW H), l[i]? = some x → ds[i]? = some d → sz x ≤ bulk d) → (l.map sz).sum ≤ all ds
  | [], [], _, _ => Nat.zero_le _
  | x :: l, d :: ds, hl, h => by
    have h1 := sum_bulk hb (l := l) (ds := ds) (by simpa using hl) (fun i y e hy he => h (i + 1) y e (by simpa using hy) (by simpa using he))
    have h2 := h 0 x d rfl rfl
    have := hb.cons d ds
    simp only [List.map_cons, List.sum_cons]
    omega
  | [], _ :: _, hl, _ => by simp at hl
  | _ :: _, [], hl, _ => by simp at hl
theorem add_plain {a : Addr} (h : a.spot = none) (n : Nat) : a.add n = ⟨a.block, a.off + n, none⟩ := by
  obtain ⟨b, o, s⟩ := a
  subst h
  unfold Addr.add
  split
  · rename_i h; subst h; rfl
  · rfl
theorem cells_get {w : World} {base : Nat} {a : Addr} {n : Nat} {cs : List Value} (h : w.cells? base a n = some cs) : cs.length = n ∧ ∀ j v, cs[j]? = some v → w.cell? (a.add j) = some v := by
  unfold World.cells? at h
  split at h
  · obtain ⟨h1, h2⟩ := mapM_some h
    refine ⟨by simpa using h1, fun j v hv => ?_⟩
    have hj : j < n := by have := (List.getElem?_eq_some_iff.1 hv).1; simp at h1; omega
    obtain ⟨y, k1, k2⟩ := h2 j j (by simp [hj])
    rw [hv] at k1; injection k1 with k1; subst k1; exact k2
  · cases h
theorem cell_spot {w : World} {a : Addr} {v : Value} (h : w.cell? a = some v) : a.spot = none ∧ a.block < w.heap.size := by
  unfold World.cell? at h
  split at h
  · rename_i c t f hc
    split at h
    · cases h
    · rename_i hs; exact ⟨by simpa using hs, (Array.getElem?_eq_some_iff.1 hc).1⟩
  · cases h
theorem slice_vr {u : TypeId} {es : Nat} {X : Type} {e : X → List AV} {sz : X → Nat} {ok : X → Prop} {bulk : DataW H → Nat} {all : List (DataW H) → Nat} (hb : BulkOK bulk all) (hes : 0 < es)
    (h : Reads enc P w base spare held fm bulk u es e sz ok) {fuel len cap : Nat} {a : Addr} (hlc : len ≤ cap) {elems : List (DataW H × List MemPlace)}
    (hm : ((List.range len).mapM fun i => (w.cells? base (a.add (i * es)) es).bind (DataW.trod enc P w base spare held fuel u)) = some elems) :
    ∃ l : List X, (∀ x ∈ l, ok x) ∧ (l.map sz).sum ≤ all (elems.map (·.1)) ∧ VR fm w noLoc (.slice (some a) len cap) (.rd es (l.map e)) := by
  obtain ⟨h1, h2⟩ := mapM_some hm
  simp only [List.length_range] at h1
  have each : ∀ i, i < len → ∃ x : X, ok x ∧ (e x).length = es ∧ (∀ d, elems[i]? = some d → sz x ≤ bulk d.1) ∧
      ∀ j c, (e x)[j]? = some c → ∃ v, w.cell? ((a.add (i * es)).add j) = some v ∧ v.oneCell' = true ∧ VR fm w noLoc v c := by
    intro i hi
    obtain ⟨y, k1, k2⟩ := h2 i i (by simp [hi])
    simp only [Option.bind_eq_some_iff] at k2
    obtain ⟨cs, k3, k4⟩ := k2
    obtain ⟨l1, l2⟩ := cells_get k3
    obtain ⟨x, m1, m2, m3, m4, m5⟩ := h fuel cs y.1 y.2 k4
    refine ⟨x, m1, m3, fun d hd => by rw [k1] at hd; injection hd with hd; subst hd; exact m4, fun j c hc => ?_⟩
    have hj : j < cs.length := by have := (List.getElem?_eq_some_iff.1 hc).1; omega
    have hv : cs[j]? = some cs[j] := List.getElem?_eq_getElem hj
    obtain ⟨n1, n2⟩ := m5 j cs[j] c (by simp) hc
    exact ⟨cs[j], l2 j _ hv, n1, n2⟩
  obtain ⟨l, g1, g2⟩ := pick_list len each
  refine ⟨l, fun x hx => ?_, sum_bulk hb (by simp [g1, h1]) (fun i x d hx hd => ?_), ?_⟩
  · obtain ⟨i, hi⟩ := List.mem_iff_getElem?.1 hx; exact (g2 i x hi).1
  · rw [List.getElem?_map] at hd
    cases hy : elems[i]? with
    | none => simp [hy] at hd
    | some y => simp [hy] at hd; subst hd; exact (g2 i x hx).2.2.1 y hy
  · by_cases h0 : len = 0
    · subst h0
      have : l = [] := List.length_eq_zero_iff.1 g1
      subst this
      exact .rd0 _ es cap
    · have hx0 : ∃ x, l[0]? = some x := ⟨l[0], List.getElem?_eq_getElem (by omega)⟩
      obtain ⟨x0, hx0⟩ := hx0
      obtain ⟨_, q1, _, q2⟩ := g2 0 x0 hx0
      obtain ⟨v0, r1, _⟩ := q2 0 ((e x0)[0]) (List.getElem?_eq_getElem (by omega))
      have hsp0 := cell_spot r1
      have hsp : a.spot = none ∧ a.block < w.heap.size := by
        have : (a.add (0 * es)).add 0 = a := by simp [Addr.add]
        rwa [this] at hsp0
      have haddr : ∀ i j, (a.add (i * es)).add j = ⟨a.block, a.off + i * es + j, none⟩ := by
        intro i j; rw [add_plain hsp.1, add_plain rfl]
      have ha : a = ⟨a.block, a.off, none⟩ := by
        obtain ⟨b, o, s⟩ := a
        have : s = none := hsp.1
        subst this; rfl
      have get : ∀ (i : Nat) (el : List AV) (j : Nat) (c : AV), (l.map e)[i]? = some el → el[j]? = some c → ∃ v, w.cell? ⟨a.block, a.off + i * es + j, none⟩ = some v ∧ v.oneCell' = true ∧ VR fm w noLoc v c := by
        intro i el j c hi hj
        rw [List.getElem?_map] at hi
        cases hx : l[i]? with
        | none => simp [hx] at hi
        | some x =>
          simp [hx] at hi; subst hi
          obtain ⟨v, t1, t2, t3⟩ := (g2 i x hx).2.2.2 j c hj
          rw [haddr] at t1
          exact ⟨v, t1, t2, t3⟩
      have hlen : (l.map e).length = len := by simp [g1]
      have := VR.rd (fm := fm) (w := w) (L := noLoc) a.block a.off cap es (l.map e) (fun i j => (w.cell? ⟨a.block, a.off + i * es + j, none⟩).getD undef)
        (fun hn => h0 (by rw [← hlen, hn]; rfl)) (fun el hel => by
          obtain ⟨x, hx, rfl⟩ := List.mem_map.1 hel
          obtain ⟨i, hi⟩ := List.mem_iff_getElem?.1 hx
          exact (g2 i x hi).2.1) hes (by rw [hlen]; exact hlc) (noLoc_owned _) hsp.2
        (fun i el j c hi hj => by obtain ⟨v, t1, _⟩ := get i el j c hi hj; rw [t1]; rfl)
        (fun i el j c hi hj => by obtain ⟨v, t1, t2, _⟩ := get i el j c hi hj; rw [t1]; exact t2)
        (fun i el j c hi hj => by obtain ⟨v, t1, _, t3⟩ := get i el j c hi hj; rw [t1]; exact t3)
      rw [hlen] at this
      rw [ha]; exact this
theorem reads_slice {bulk : DataW H → Nat} {all : List (DataW H) → Nat} (hb : BulkOK bulk all) {t u : TypeId} {es : Nat} {X : Type} {e : X → List AV} {sz : X → Nat} {ok : X → Prop}
    (ht : P.underlying t = some (.slice u)) (hc : P.cellsOf u = es) (hes : 0 < es) (h : Reads enc P w base spare held fm bulk u es e sz ok) :
    Reads enc P w base spare held fm bulk t 1 (fun l : List X => [.rd es (l.map e)]) (fun l => (l.map sz).sum + 1) (fun l => ∀ x ∈ l, ok x) := by
  intro fuel cs d ps hd
  cases fuel with
  | zero => cases hd
  | succ fuel =>
    unfold DataW.trod at hd
    rw [ht] at hd
    simp only at hd
    split at hd
    all_goals (try (simp_all; done))
    · rename_i hk
      injection hd with hd; injection hd with hd _; subst hd
      exact ⟨[], fun x hx => (by cases hx), rfl, rfl, by simpa using hb.nil, cellR_one rfl (.rd0 none es 0)⟩
    · rename_i u' a len cap hk
      injection hk with hk; injection hk with hk; subst hk
      rw [hc] at hd
      split at hd
      · rename_i hcond
        simp only [Option.bind_eq_some_iff, Option.map_eq_some_iff] at hd
        obtain ⟨elems, h1, rest, h2, h3⟩ := hd
        injection h3 with h3 _; subst h3
        obtain ⟨l, k1, k2, k3⟩ := slice_vr hb hes h hcond.2.1 h1
        refine ⟨l, k1, rfl, rfl, ?_, cellR_one rfl k3⟩
        have := hb.slice (elems.map (·.1)) (rest.map (·.1))
        show (l.map sz).sum + 1 ≤ _
        omega
      · cases hd
end
end Go.Abs
namespace Go.Abs
open Go Go.RowKit
mutual
inductive Ty where
  | i (k : IntKind)
  | b
  | s
  | l (c : Cs)
inductive Cs where
  | nil
  | cons (t : Ty) (r : Cs)
end
instance : Inhabited Ty := ⟨.b⟩
instance : Inhabited Cs := ⟨.nil⟩
def pairT (A B : Type) : Cs → Type
  | .nil => A
  | .cons _ _ => A × B
mutual
def Ty.den : Ty → Type
  | .i _ => Int
  | .b => Bool
  | .s => ByteArray
  | .l c => List c.den
def Cs.den : Cs → Type
  | .nil => Unit
  | .cons t r => pairT t.den r.den r
end
def fstP {A B : Type} : (r : Cs) → pairT A B r → A
  | .nil, x => x
  | .cons _ _, x => x.1
def sndP {A : Type} : (r : Cs) → pairT A r.den r → r.den
  | .nil, _ => ()
  | .cons _ _, x => x.2
def mkP {A : Type} : (r : Cs) → A → r.den → pairT A r.den r
  | .nil, a, _ => a
  | .cons _ _, a, b => (a, b)
theorem fst_mk {A : Type} (r : Cs) (a : A) (b : r.den) : fstP r (mkP r a b) = a := by cases r <;> rfl
theorem snd_mk {A : Type} (r : Cs) (a : A) (b : r.den) : sndP r (mkP r a b) = b := by cases r <;> rfl
theorem mk_fs {A : Type} (r : Cs) (x : pairT A r.den r) : mkP r (fstP r x) (sndP r x) = x := by cases r <;> rfl
mutual
def Ty.dft : (t : Ty) → t.den
  | .i _ => (0 : Int)
  | .b => false
  | .s => ByteArray.mk #[]
  | .l _ => []
def Cs.dft : (c : Cs) → c.den
  | .nil => ()
  | .cons t r => mkP r t.dft r.dft
end
mutual
def Ty.eqb : Ty → Ty → Bool
  | .i k, .i k' => decide (k = k')
  | .b, .b => true
  | .s, .s => true
  | .l c, .l c' => c.eqb c'
  | _, _ => false
def Cs.eqb : Cs → Cs → Bool
  | .nil, .nil => true
  | .cons t r, .cons t' r' => t.eqb t' && r.eqb r'
  | _, _ => false
end
mutual
theorem Ty.eq_of : ∀ {a a' : Ty}, a.eqb a' = true → a = a'
  | .i k, .i k', h => by simp only [Ty.eqb, decide_eq_true_eq] at h; rw [h]
  | .b, .b, _ => rfl
  | .s, .s, _ => rfl
  | .l c, .l c', h => by rw [Cs.eq_of (a := c) (b := c') (by simpa [Ty.eqb] using h)]
  | .i _, .b, h | .i _, .s, h | .i _, .l _, h | .b, .i _, h | .b, .s, h | .b, .l _, h | .s, .i _, h | .s, .b, h | .s, .l _, h | .l _, .i _, h | .l _, .b, h | .l _, .s, h => by simp [Ty.eqb] at h
theorem Cs.eq_of : ∀ {a b : Cs}, a.eqb b = true → a = b
  | .nil, .nil, _ => rfl
  | .cons t r, .cons t' r', h => by
    simp only [Cs.eqb, Bool.and_eq_true] at h
    rw [Ty.eq_of h.1, Cs.eq_of h.2]
  | .nil, .cons _ _, h | .cons _ _, .nil, h => by simp [Cs.eqb] at h
end
mutual
theorem Ty.eqb_refl : ∀ a : Ty, a.eqb a = true
  | .i k => by simp [Ty.eqb]
  | .b => rfl
  | .s => rfl
  | .l c => by simp [Ty.eqb, Cs.eqb_refl c]
theorem Cs.eqb_refl : ∀ a : Cs, a.eqb a = true
  | .nil => rfl
  | .cons t r => by simp [Cs.eqb, Ty.eqb_refl t, Cs.eqb_refl r]
end
def Ty.cast (t t' : Ty) (v : t.den) : Option t'.den :=
  if h : t.eqb t' = true then some (Eq.mp (congrArg Ty.den (Ty.eq_of h)) v) else none
def Cs.cast (c c' : Cs) (v : c.den) : Option c'.den :=
  if h : c.eqb c' = true then some (Eq.mp (congrArg Cs.den (Cs.eq_of h)) v) else none
theorem Ty.cast_some {t t' : Ty} {v : t.den} {v' : t'.den} (h : t.cast t' v = some v') : ∃ e : t = t', e ▸ v = v' := by
  unfold Ty.cast at h
  split at h
  · rename_i e
    have e' := Ty.eq_of e
    subst e'
    injection h with h
    exact ⟨rfl, h⟩
  · cases h
theorem Cs.cast_some {t t' : Cs} {v : t.den} {v' : t'.den} (h : t.cast t' v = some v') : ∃ e : t = t', e ▸ v = v' := by
  unfold Cs.cast at h
  split at h
  · rename_i e
    have e' := Cs.eq_of e
    subst e'
    injection h with h
    exact ⟨rfl, h⟩
  · cases h
theorem Cs.cast_refl (c : Cs) (v : c.den) : c.cast c v = some v := by
  unfold Cs.cast
  rw [dif_pos (Cs.eqb_refl c)]
  rfl
def Cs.width : Cs → Nat
  | .nil => 0
  | .cons _ r => r.width + 1
mutual
def Ty.enc : (t : Ty) → t.den → AV
  | .i k, v => .v (.int k v)
  | .b, v => .v (.bool v)
  | .s, v => .v (.string v)
  | .l c, v => .rd c.width (v.map c.enc)
def Cs.enc : (c : Cs) → c.den → List AV
  | .nil, _ => []
  | .cons t r, x => t.enc (fstP r x) :: r.enc (sndP r x)
end
theorem enc_len : ∀ (c : Cs) (x : c.den), (c.enc x).length = c.width
  | .nil, _ => rfl
  | .cons t r, x => by simp only [Cs.enc, List.length_cons, Cs.width, enc_len r]
mutual
theorem nr_enc : ∀ (t : Ty) (v : t.den), NR (t.enc v)
  | .i k, v => .v _
  | .b, v => .v _
  | .s, v => .v _
  | .l c, v => .rd _ _ (fun e he x hx => by
    obtain ⟨y, _, rfl⟩ := List.mem_map.1 he
    exact nr_encs c y x hx)
theorem nr_encs : ∀ (c : Cs) (v : c.den) (x : AV), x ∈ c.enc v → NR x
  | .nil, _, x, h => by simp [Cs.enc] at h
  | .cons t r, v, x, h => by
    simp only [Cs.enc, List.mem_cons] at h
    rcases h with rfl | h
    · exact nr_enc t _
    · exact nr_encs r _ x h
end
def Ty.zero : Ty → Value
  | .i k => .int k 0
  | .b => .bool false
  | .s => .string (ByteArray.mk #[])
  | .l _ => .slice none 0 0
def Cs.zeros : Cs → List Value
  | .nil => []
  | .cons t r => t.zero :: r.zeros
end Go.Abs
namespace Go.Abs
open Go Go.RowKit
inductive TV where
  | i (k : IntKind) (n : Int)
  | b (x : Bool)
  | s (x : ByteArray)
  | l (c : Cs) (v : List c.den)
  | e (c : Cs)
  | u
  | v (x : Value)
  | ref (a : Nat)
  | pre (a : Nat) (n : Int)
  | sub (a ver i : Nat)
  | ptr (a i j : Nat)
  | pti (a ver i k j : Nat)
  | rp (cs : List TV)
  | lt (els : List (List TV))
  | ag (cs : List TV)
  | tp (cs : List TV)
  | clo (g : Nat) (cs : List TV)
  | np (a : Nat)
instance : Inhabited TV := ⟨.u⟩
inductive VObj where
  | sq (c : Cs) (l : List c.den)
  | fm (c : Cs) (ver : Nat) (hole : Option Nat) (l : List (List c.den))
  | st (cs : List TV)
  | sb (s : ByteArray)
abbrev VEnv := List (Nat × TV)
abbrev VHeap := List (Option VObj)
structure VSt where
  env : VEnv
  heap : VHeap
def vlook : VEnv → Nat → TV
  | [], _ => .u
  | (n, v) :: r, t => bif Nat.beq n t then v else vlook r t
def vget : VHeap → Nat → Option VObj
  | [], _ => none
  | o :: _, 0 => o
  | _ :: r, a + 1 => vget r a
def vset : VHeap → Nat → Option VObj → VHeap
  | [], _, _ => []
  | _ :: r, 0, o => o :: r
  | p :: r, a + 1, o => p :: vset r a o
def getI (c : Cs) (l : List c.den) (i : Nat) : c.den := l.getD i c.dft
inductive K1 where
  | i (k : IntKind) (n : Int)
  | b (x : Bool)
  | s (x : ByteArray)
  | e (c : Cs)
  | v (x : Value)
inductive KC where
  | one (k : K1)
  | ag (l : List K1)
  | tp (l : List K1)
  | f (g : Nat)
  | v (x : Value)
inductive VOpd where
  | t (n : Nat)
  | c (k : KC)
def K1.tv : K1 → TV
  | .i k n => .i k n
  | .b x => .b x
  | .s x => .s x
  | .e c => .e c
  | .v x => .v x
def KC.tv : KC → TV
  | .one k => k.tv
  | .ag l => .ag (l.map K1.tv)
  | .tp l => .tp (l.map K1.tv)
  | .f g => .clo g []
  | .v x => .v x
def vo (env : VEnv) : VOpd → TV
  | .t n => vlook env n
  | .c k => k.tv
def chk {β : Type} (p : Prop) [Decidable p] (x : Option β) : Option β := bif decide p then x else none
def asL (c c' : Cs) (l : List c.den) : Option (List c'.den) := (Ty.l c).cast (.l c') l
def tvOf : (t : Ty) → t.den → TV
  | .i k, n => .i k n
  | .b, x => .b x
  | .s, x => .s x
  | .l c, v => .l c v
def toD : (t : Ty) → TV → Option t.den
  | .i k, .i k' n => bif decide (k' = k) then some n else none
  | .b, .b x => some x
  | .s, .s x => some x
  | .l c, .l c' v => asL c' c v
  | .l c, .e c' => bif c'.eqb c then some [] else none
  | _, _ => none
def pack : (c : Cs) → List TV → Option c.den
  | .nil, [] => some ()
  | .cons t r, a :: as => match toD t a, pack r as with
    | some x, some y => some (mkP r x y)
    | _, _ => none
  | _, _ => none
def packs (c : Cs) : List (List TV) → Option (List c.den)
  | [] => some []
  | a :: r => match pack c a, packs c r with
    | some x, some y => some (x :: y)
    | _, _ => none
def cells : (c : Cs) → c.den → List TV
  | .nil, _ => []
  | .cons t r, x => tvOf t (fstP r x) :: cells r (sndP r x)
def Cs.zcells : Cs → List TV
  | .nil => []
  | .cons (.l c) r => .e c :: r.zcells
  | .cons t r => tvOf t t.dft :: r.zcells
def vcells (X : VHeap) : TV → Option (List TV)
  | .u | .tp _ | .lt _ | .sub _ _ _ | .pti _ _ _ _ _ => none
  | .v x => bif x.oneCell' then some [.v x] else none
  | .ag cs => some cs
  | .ref a => bif (vget X a).isSome then some [.ref a] else none
  | .pre a n => bif (vget X a).isSome then some [.pre a n] else none
  | .ptr a i j => bif (vget X a).isSome then some [.ptr a i j] else none
  | .np a => bif (vget X a).isSome then some [.np a] else none
  | a => some [a]
def K1.ok : K1 → Bool
  | .v (.slice _ _ _) => false
  | _ => true
def spl (l : List TV) (j : Nat) (cs : List TV) : List TV := l.take j ++ cs ++ l.drop (j + cs.length)
def loadC (g : Bool) (n : Nat) (cs : List TV) : Option TV :=
  match g with
  | true => bif Nat.ble n cs.length then some (.ag (cs.take n)) else none
  | false => cs[0]?
def vfill (X : VHeap) (l : List TV) (env : VEnv) : List (Nat × Nat × VOpd) → Option (List TV)
  | [] => some l
  | (off, n, x) :: r => match vcells X (vo env x) with
    | some cs => bif Nat.beq cs.length n && Nat.ble (off + n) l.length then vfill X (spl l off cs) env r else none
    | none => none
def vfillE (X : VHeap) (es : Nat) (l : List (List TV)) (env : VEnv) : List (Nat × VOpd) → Option (List (List TV))
  | [] => some l
  | (i, x) :: r => match vcells X (vo env x) with
    | some cs => bif Nat.beq cs.length es && Nat.blt i l.length then vfillE X es (l.set i cs) env r else none
    | none => none
section
variable {β : Type}
def vint (op : BinOp) (k : IntKind) (x y : Int) (K : TV → Option β) : Option β :=
  match op with
  | .add => K (.i k (k.wrap (x + y)))
  | .sub => K (.i k (k.wrap (x - y)))
  | .mul => K (.i k (k.wrap (x * y)))
  | .quo => chk (y ≠ 0) (K (.i k (k.wrap (x.tdiv y))))
  | .rem => chk (y ≠ 0) (K (.i k (x.tmod y)))
  | .and => K (.i k (bits .and k x y))
  | .or => K (.i k (bits .or k x y))
  | .xor => K (.i k (bits .xor k x y))
  | .andNot => K (.i k (bits .andNot k x y))
  | .shl => chk (0 ≤ y) (K (.i k (k.wrap (x * 2 ^ (min y.toNat k.bits)))))
  | .shr => chk (0 ≤ y) (K (.i k (x.fdiv (2 ^ (min y.toNat k.bits)))))
  | .eql => K (.b (decide (x = y)))
  | .neq => K (.b (!decide (x = y)))
  | .lss => K (.b (decide (x < y)))
  | .leq => K (.b (decide (x ≤ y)))
  | .gtr => K (.b (decide (y < x)))
  | .geq => K (.b (decide (y ≤ x)))
def vstr (op : BinOp) (x y : ByteArray) (K : TV → Option β) : Option β :=
  match op with
  | .add => chk (Nat.ble (x.size + y.size) 9223372036854775807 = true) (K (.s (x ++ y)))
  | .eql => K (.b (decide (x = y)))
  | .neq => K (.b (!decide (x = y)))
  | .lss => K (.b (Op.bytesLess x.toList y.toList))
  | .leq => K (.b (Op.bytesLess x.toList y.toList || decide (x = y)))
  | .gtr => K (.b (!(Op.bytesLess x.toList y.toList || decide (x = y))))
  | .geq => K (.b (!Op.bytesLess x.toList y.toList))
  | _ => none
def vbin (op : BinOp) (a b : TV) (K : TV → Option β) : Option β :=
  match a, b with
  | .i k x, .i k' y => bif decide (k = k' ∨ op = .shl ∨ op = .shr) then vint op k x y K else none
  | .s x, .s y => vstr op x y K
  | _, _ => none
def eqV1 : Nat → TV → TV → Option Bool
  | 0, .b a, .b b => some (a == b)
  | 1, .i k a, .i k' b => bif decide (k = k') then some (decide (a = b)) else none
  | 2, .s a, .s b => some (decide (a = b))
  | _, _, _ => none
def eqV : List Nat → List TV → List TV → Option Bool
  | [], [], [] => some true
  | k :: ks, a :: as, b :: bs => match eqV1 k a b, eqV ks as bs with
    | some x, some y => some (x && y)
    | _, _ => none
  | _, _, _ => none
def mmV (mx : Bool) (k : IntKind) : Int → List TV → Option TV
  | m, [] => some (.i k m)
  | m, .i _ n :: r => mmV mx k (match mx with | true => max m n | false => min m n) r
  | _, _ => none
inductive VOp where
  | mm (mx : Bool) (xs : List VOpd)
  | emz (x lo hi mx : VOpd)
  | mv (x : VOpd)
  | pick (c a b : VOpd)
  | box (x : VOpd)
  | alloc (z : List K1)
  | build (z : List K1) (parts : List (Nat × Nat × VOpd))
  | bsl (c : Cs) (len : Nat) (parts : List (Nat × VOpd))
  | load (agg : Bool) (n : Nat) (x : VOpd)
  | loadR (agg : Bool) (n : Nat) (x : VOpd)
  | store (n : Nat) (x y : VOpd)
  | nilc (x : VOpd)
  | bin (op : BinOp) (x y : VOpd)
  | beq (neg : Bool) (x y : VOpd)
  | eqa (neg : Bool) (ks : List Nat) (x y : VOpd)
  | not (x : VOpd)
  | neg (x : VOpd)
  | conv (k : IntKind) (x : VOpd)
  | cvs (x : VOpd)
  | fad (off : Nat) (x : VOpd)
  | fld (agg : Bool) (off n : Nat) (x : VOpd)
  | iad (es : Nat) (x i : VOpd)
  | iada (es len : Nat) (x i : VOpd)
  | idx (x i : VOpd)
  | slcS (x : VOpd) (lo hi : Option VOpd)
  | slcR (es : Nat) (x : VOpd) (lo hi : Option VOpd)
  | ext (x : VOpd) (i : Nat)
  | len (x : VOpd)
  | lenS (x : VOpd)
  | app (c : Cs) (w : Nat) (s x : VOpd)
  | mksl (c : Cs) (w : Nat) (n cp : VOpd)
  | call (f : Nat) (args : List VOpd)
  | dyn (x : VOpd) (args : List VOpd)
  | dynP (x : VOpd) (args : List VOpd)
  | mkf (f : Nat) (caps : List VOpd)
  | lit (c : Cs) (xs : List VOpd)
  | appD (c : Cs) (s x : VOpd)
  | apps (s x : VOpd)
  | bstr (x : VOpd)
  | bld
  | sbyt (x : VOpd)
  | appb (s x : VOpd)
  | appDb (s x : VOpd)
  | litb (xs : List VOpd)
  | add64 (xs : List VOpd)
  | sub64 (xs : List VOpd)
abbrev U8 : Cs := .cons (.i .u8) .nil
def strL (s : ByteArray) : List Int := s.toList.map fun b => (b.toNat : Int)
def bytesB (l : List Int) : ByteArray := ⟨(l.map fun n => UInt8.ofNat n.toNat).toArray⟩
def vcellsL (X : VHeap) : List TV → Option (List (List TV))
  | [] => some []
  | a :: r => match vcells X a, vcellsL X r with
    | some cs, some l => some (cs :: l)
    | _, _ => none
def byteI (s : ByteArray) (n : Int) : Int := ((s.data.getD n.toNat 0).toNat : Nat)
def srcV (c : Cs) : TV → Option (List c.den)
  | .l c' v => asL c' c v
  | .e _ => some []
  | .lt els => packs c els
  | _ => none
def lenO : VObj → Option Nat
  | .sq _ l => some l.length
  | .fm _ _ _ l => some l.length
  | .st _ => none
  | .sb s => some s.size
def vsb (env : VEnv) (o : Option VOpd) (d : Int) : Option Int :=
  match o with
  | none => some d
  | some x => match vo env x with
    | .i _ n => some n
    | _ => none
def vload (g : Bool) (n : Nat) (x : TV) (X : VHeap) (K : TV → VHeap → Option β) : Option β :=
  match x with
  | .rp cs => match loadC g n cs with | some a => K a X | none => none
  | .ptr a i j => match vget X a with
    | some (.sq c l) => match loadC g n ((cells c (getI c l i)).drop j) with | some a => K a X | none => none
    | some (.st cs) => bif Nat.beq i 0 then match loadC g n (cs.drop j) with | some a => K a X | none => none else none
    | some (.fm _ ver hole _) => match g, j, n, hole with
      | false, 0, 1, none => K (.sub a ver i) X
      | _, _, _, _ => none
    | some (.sb s) => match g, j with
      | false, 0 => K (.i .u8 (byteI s i)) X
      | _, _ => none
    | none => none
  | .pti a ver i k j => match vget X a with
    | some (.fm c ver' none l) => bif Nat.beq ver ver' then match loadC g n ((cells c (getI c (l.getD i []) k)).drop j) with | some a => K a X | none => none else none
    | _ => none
  | _ => none
def vstore (n : Nat) (x y : TV) (X : VHeap) (K : TV → VHeap → Option β) : Option β :=
  match x with
  | .ptr a i j => match vget X a with
    | some (.sq c l) => match vcells X y with
      | some cs => bif Nat.beq cs.length n && Nat.ble (j + n) c.width then match pack c (spl (cells c (getI c l i)) j cs) with
        | some e => K .u (vset X a (some (.sq c (l.set i e))))
        | none => none
        else none
      | none => none
    | some (.st ds) => match vcells X y with
      | some cs => bif Nat.beq i 0 && Nat.beq cs.length n && Nat.ble (j + n) ds.length then K .u (vset X a (some (.st (spl ds j cs)))) else none
      | none => none
    | some (.fm c ver hole l) => bif Nat.beq j 0 && Nat.beq n 1 then match y with
        | .ref m => bif Nat.beq m a then none else match vget X m with
          | some (.sq c' lm) => match asL c' c lm with
            | some lm' => match hole with
              | none => K .u (vset (vset X m none) a (some (.fm c (ver + 1) none (l.set i lm'))))
              | some h => chk (h = i) (K .u (vset (vset X m none) a (some (.fm c (ver + 1) none (l.set i lm')))))
            | none => none
          | _ => none
        | _ => none
      else none
    | some (.sb _) => none
    | none => none
  | .pti a ver i k j => match vget X a with
    | some (.fm c ver' none l) => match vcells X y with
      | some cs => bif Nat.beq ver ver' && Nat.beq cs.length n && Nat.ble (j + n) c.width then match pack c (spl (cells c (getI c (l.getD i []) k)) j cs) with
        | some e => K .u (vset X a (some (.fm c ver none (l.set i ((l.getD i []).set k e)))))
        | none => none
        else none
      | none => none
    | _ => none
  | _ => none
def viad (es : Nat) (x i : TV) (X : VHeap) (K : TV → VHeap → Option β) : Option β :=
  match i with
  | .i _ n => match x with
    | .l c v => bif Nat.beq c.width es then chk (0 ≤ n ∧ n < (v.length : Int)) (K (.rp (cells c (getI c v n.toNat))) X) else none
    | .ref a => match vget X a with
      | some (.sq c l) => bif Nat.beq c.width es then chk (0 ≤ n ∧ n < (l.length : Int)) (K (.ptr a n.toNat 0) X) else none
      | some (.fm _ _ _ l) => bif Nat.beq es 1 then chk (0 ≤ n ∧ n < (l.length : Int)) (K (.ptr a n.toNat 0) X) else none
      | some (.sb s) => bif Nat.beq es 1 then chk (0 ≤ n ∧ n < (s.size : Int)) (K (.ptr a n.toNat 0) X) else none
      | _ => none
    | .pre a m => match vget X a with
      | some (.sq c l) => bif Nat.beq c.width es then chk (0 ≤ n ∧ n < m) (K (.ptr a n.toNat 0) X) else none
      | _ => none
    | .sub a ver i => match vget X a with
      | some (.fm c ver' none l) => bif Nat.beq c.width es && Nat.beq ver ver' then chk (0 ≤ n ∧ n < ((l.getD i []).length : Int)) (K (.pti a ver i n.toNat 0) X) else none
      | _ => none
    | _ => none
  | _ => none
def vlen (x : TV) (X : VHeap) (K : TV → VHeap → Option β) : Option β :=
  match x with
  | .l _ v => K (.i .i64 (v.length : Nat)) X
  | .e _ => K (.i .i64 0) X
  | .lt els => K (.i .i64 (els.length : Nat)) X
  | .ref a => match vget X a with
    | some (.sq _ l) => K (.i .i64 (l.length : Nat)) X
    | some (.fm _ _ _ l) => K (.i .i64 (l.length : Nat)) X
    | some (.sb s) => K (.i .i64 (s.size : Nat)) X
    | _ => none
  | .pre a m => match vget X a with
    | some (.sq _ _) => K (.i .i64 m) X
    | _ => none
  | .sub a ver i => match vget X a with
    | some (.fm _ ver' none l) => bif Nat.beq ver ver' then K (.i .i64 ((l.getD i []).length : Nat)) X else none
    | _ => none
  | _ => none
def vapp (c : Cs) (w : Nat) (s x : TV) (X : VHeap) (K : TV → VHeap → Option β) : Option β :=
  match s with
  | .ref a => match vget X a with
    | some (.sq c' l) => match srcV c' x with
      | some m => bif Nat.beq c.width c'.width then chk (l.length + m.length ≤ maxEl) (K (.ref X.length) (vset X a none ++ [some (.sq c' (l ++ m))])) else none
      | none => none
    | some (.fm c' _ none l) => match x with
      | .lt [[.ref m]] => bif Nat.beq m a || !(Nat.beq c.width 1) then none else match vget X m with
        | some (.sq c2 lm) => match asL c2 c' lm with
          | some lm' => chk (l.length + 1 ≤ maxEl) (K (.ref X.length) (vset (vset X m none) a none ++ [some (.fm c' 0 none (l ++ [lm']))]))
          | none => none
        | _ => none
      | _ => none
    | _ => none
  | .e _ => match w with
    | 0 => bif Nat.blt 0 c.width then match srcV c x with
      | some m => chk (m.length ≤ maxEl) (K (.ref X.length) (X ++ [some (.sq c m)]))
      | none => none
      else none
    | 1 => none
    | _ => match c, x with
      | .cons (.l c') .nil, .lt [[.ref m]] => match vget X m with
        | some (.sq c2 lm) => match asL c2 c' lm with
          | some lm' => K (.ref X.length) (vset X m none ++ [some (.fm c' 0 none [lm'])])
          | none => none
        | _ => none
      | _, _ => none
  | .sub a ver i => match vget X a with
    | some (.fm c' ver' none l) => match srcV c' x with
      | some m => bif Nat.beq c.width c'.width && Nat.beq ver ver' then chk ((l.getD i []).length + m.length ≤ maxEl) (K (.ref X.length) (vset X a (some (.fm c' ver (some i) l)) ++ [some (.sq c' (l.getD i [] ++ m))])) else none
      | none => none
    | _ => none
  | _ => none
def vappD (c : Cs) (s x : TV) (X : VHeap) (K : TV → VHeap → Option β) : Option β :=
  match s with
  | .e _ => match srcV c x with
    | some m => chk (m.length ≤ maxEl) (K (.l c m) X)
    | none => none
  | .ref a => match vget X a with
    | some (.sq c' l) => match srcV c' x with
      | some m => bif Nat.beq c.width c'.width then chk (l.length + m.length ≤ maxEl) (K (.l c' (l ++ m)) (vset X a none)) else none
      | none => none
    | _ => none
  | _ => none
def asB (c : Cs) (l : List c.den) : Option (List Int) := asL c U8 l
def vapps (s : TV) (b : ByteArray) (X : VHeap) (K : TV → VHeap → Option β) : Option β :=
  match s with
  | .e _ => chk (0 < b.size ∧ b.size ≤ maxEl) (K (.ref X.length) (X ++ [some (.sb b)]))
  | .ref a => match vget X a with
    | some (.sb s) => chk (s.size + b.size ≤ maxEl) (K (.ref X.length) (vset X a none ++ [some (.sb (s ++ b))]))
    | _ => none
  | _ => none
def inB (l : List Int) : Bool := l.all fun n => decide (0 ≤ n) && decide (n < 256)
def srcB (x : TV) : Option (List Int) := srcV U8 x
def vappb (s x : TV) (X : VHeap) (K : TV → VHeap → Option β) : Option β :=
  match srcB x with
  | some m => bif inB m then match s with
    | .e _ => chk (0 < m.length ∧ m.length ≤ maxEl) (K (.ref X.length) (X ++ [some (.sb (bytesB m))]))
    | .ref a => match vget X a with
      | some (.sb s) => chk (s.size + m.length ≤ maxEl) (K (.ref X.length) (vset X a none ++ [some (.sb (s ++ bytesB m))]))
      | _ => none
    | _ => none
    else none
  | none => none
def vappDb (s x : TV) (X : VHeap) (K : TV → VHeap → Option β) : Option β :=
  match srcB x with
  | some m => match s with
    | .e _ => chk (0 < m.length ∧ m.length ≤ maxEl) (K (.l U8 m) X)
    | .ref a => match vget X a with
      | some (.sb s) => chk (s.size + m.length ≤ maxEl) (K (.l U8 (strL s ++ m)) (vset X a none))
      | _ => none
    | _ => none
  | none => none
def vbstr (x : TV) (X : VHeap) (K : TV → VHeap → Option β) : Option β :=
  match x with
  | .e _ => K (.s (ByteArray.mk #[])) X
  | .l c v => match asB c v with
    | some l => K (.s (bytesB l)) X
    | none => none
  | .ref a => match vget X a with
    | some (.sq c' l) => match asB c' l with
      | some l => K (.s (bytesB l)) X
      | none => none
    | some (.sb s) => K (.s s) X
    | _ => none
  | _ => none
def vG (op : VOp) (env : VEnv) (X : VHeap) (K : TV → VHeap → Option β) : Option β :=
  match op with
  | .mm mx xs => match xs.map (vo env) with
    | .i k m :: r => match mmV mx k m r with | some v => K v X | none => none
    | _ => none
  | .emz x lo hi mx => match vo env lo, vo env hi, vo env mx with
    | .i _ l, .i _ h, .i _ m => chk (l = 0 ∧ h = 0 ∧ m = 0) (match vo env x with
      | .l c _ => K (.e c) X
      | .e c => K (.e c) X
      | _ => none)
    | _, _, _ => none
  | .mv x => K (vo env x) X
  | .pick c a b => match vo env c with
    | .b t => bif t then K (vo env a) X else K (vo env b) X
    | _ => none
  | .box x => match vcells X (vo env x) with
    | some (c :: cs) => bif Nat.ble (cs.length + 1) 1000 then K (.ptr X.length 0 0) (X ++ [some (.st (c :: cs))]) else none
    | _ => none
  | .alloc z => bif z.all K1.ok && Nat.blt 0 z.length then K (.ptr X.length 0 0) (X ++ [some (.st (z.map K1.tv))]) else none
  | .build z parts => bif z.all K1.ok then match vfill X (z.map K1.tv) env parts with
    | some cs => K (.ag cs) X
    | none => none
    else none
  | .bsl c n parts => bif Nat.blt 0 c.width then match vfillE X c.width (List.replicate n c.zcells) env parts with
    | some [] => K (.e c) X
    | some (e :: els) => match packs c (e :: els) with
      | some l => K (.l c l) X
      | none => K (.lt (e :: els)) X
    | none => none
    else none
  | .load g n x => vload g n (vo env x) X K
  | .loadR g n x => match vo env x with
    | .rp cs => match loadC g n cs with | some a => K a X | none => none
    | _ => none
  | .store n x y => vstore n (vo env x) (vo env y) X K
  | .nilc x => match vo env x with
    | .rp cs => K (.rp cs) X
    | .ptr a i j => bif (vget X a).isSome then K (.ptr a i j) X else none
    | .pti a ver i k j => match vget X a with | some (.fm _ ver' none _) => bif Nat.beq ver ver' then K (.pti a ver i k j) X else none | _ => none
    | .clo f cs => K (.clo f cs) X
    | _ => none
  | .bin op x y => vbin op (vo env x) (vo env y) fun r => K r X
  | .beq ng x y => match vo env x, vo env y with
    | .b s, .b t => K (.b (match ng with | true => !(s == t) | false => s == t)) X
    | _, _ => none
  | .eqa ng ks x y => match vo env x, vo env y with
    | .ag cs, .ag ds => match eqV ks cs ds with | some r => K (.b (match ng with | true => !r | false => r)) X | none => none
    | _, _ => none
  | .not x => match vo env x with
    | .b b => K (.b (!b)) X
    | _ => none
  | .neg x => match vo env x with
    | .i k n => K (.i k (k.wrap (0 - n))) X
    | _ => none
  | .conv k x => match vo env x with
    | .i _ n => K (.i k (k.wrap n)) X
    | _ => none
  | .cvs x => match vo env x with
    | .s s => K (.s s) X
    | _ => none
  | .fad off x => match vo env x with
    | .rp cs => K (.rp (cs.drop off)) X
    | .ptr a i j => bif (vget X a).isSome then K (.ptr a i (j + off)) X else none
    | .pti a ver i k j => match vget X a with | some (.fm _ ver' none _) => bif Nat.beq ver ver' then K (.pti a ver i k (j + off)) X else none | _ => none
    | _ => none
  | .fld g off n x => match vo env x with
    | .ag cs => bif Nat.ble off cs.length then match loadC g n (cs.drop off) with | some a => K a X | none => none else none
    | _ => none
  | .iad es x i => viad es (vo env x) (vo env i) X K
  | .iada _ _ _ _ => none
  | .idx x i => match vo env x, vo env i with
    | .s s, .i _ n => chk (0 ≤ n ∧ n < (s.size : Int)) (K (.i .u8 (byteI s n)) X)
    | _, _ => none
  | .slcS x lo hi => match vo env x with
    | .s s => match vsb env lo 0, vsb env hi s.size with
      | some l, some h => chk (0 ≤ l ∧ l ≤ h ∧ h ≤ (s.size : Int)) (K (.s (s.extract l.toNat h.toNat)) X)
      | _, _ => none
    | _ => none
  | .slcR es0 x lo hi => match vo env x with
    | .l c v => bif Nat.beq c.width es0 then match vsb env lo 0, vsb env hi v.length with
      | some l, some h => chk (0 ≤ l ∧ l ≤ h ∧ h ≤ (v.length : Int)) (K (.l c ((v.take h.toNat).drop l.toNat)) X)
      | _, _ => none
      else none
    | .e c => match vsb env lo 0, vsb env hi 0 with
      | some l, some h => chk (l = 0 ∧ h = 0) (K (.e c) X)
      | _, _ => none
    | .ref a => match vget X a with
      | some (.sq _ l) => match vsb env lo 0, hi with
        | some lo, none => chk (lo = 0) (K (.ref a) X)
        | some lo, some hi => match vo env hi with
          | .i _ h => chk (lo = 0 ∧ 0 ≤ h ∧ h ≤ (l.length : Int)) (K (.pre a h) X)
          | _ => none
        | _, _ => none
      | _ => none
    | .pre a m => match vget X a with
      | some (.sq _ _) => match vsb env lo 0, vsb env hi m with
        | some lo, some h => chk (lo = 0 ∧ 0 ≤ h ∧ h ≤ m) (K (.pre a h) X)
        | _, _ => none
      | _ => none
    | _ => none
  | .ext x i => match vo env x with
    | .tp l => match l[i]? with | some b => K b X | none => none
    | _ => none
  | .lenS x => match vo env x with
    | .s s => K (.i .i64 (s.size : Nat)) X
    | _ => none
  | .len x => vlen (vo env x) X K
  | .app c w s x => vapp c w (vo env s) (vo env x) X K
  | .mksl c w n cp => match vo env n, vo env cp with
    | .i _ n, .i _ cp => chk (0 ≤ n ∧ n ≤ cp ∧ cp ≤ (maxEl : Nat)) (match w, c with
      | 2, .cons (.l c') .nil => bif Nat.blt 0 c'.width then K (.ref X.length) (X ++ [some (.fm c' 0 none (List.replicate n.toNat []))]) else none
      | 0, c => bif Nat.blt 0 c.width then K (.ref X.length) (X ++ [some (.sq c (List.replicate n.toNat c.dft))]) else none
      | _, _ => none)
    | _, _ => none
  | .mkf f caps => K (.clo f (caps.map (vo env))) X
  | .lit c xs => match vcellsL X (xs.map (vo env)) with
    | some (e :: els) => bif Nat.blt 0 c.width && Nat.ble (els.length + 1) 1000000 then match packs c (e :: els) with
      | some l => K (.ref X.length) (X ++ [some (.sq c l)])
      | none => none
      else none
    | _ => none
  | .appD c s x => bif Nat.blt 0 c.width then vappD c (vo env s) (vo env x) X K else none
  | .apps s x => match vo env x with
    | .s b => vapps (vo env s) b X K
    | _ => none
  | .bstr x => vbstr (vo env x) X K
  | .appb s x => vappb (vo env s) (vo env x) X K
  | .appDb s x => vappDb (vo env s) (vo env x) X K
  | .litb xs => match vcellsL X (xs.map (vo env)) with
    | some (e :: els) => bif Nat.ble (els.length + 1) 1000000 then match packs U8 (e :: els) with
      | some l => bif inB l then K (.ref X.length) (X ++ [some (.sb (bytesB l))]) else none
      | none => none
      else none
    | _ => none
  | .bld => K (.ptr X.length 0 0) (X ++ [some (.st [.np X.length, .v (.slice none 0 0)])])
  | .sbyt x => match vo env x with
    | .s b => K (.l U8 (strL b)) X
    | _ => none
  | .add64 xs => match xs.map (vo env) with
    | [.i .u64 x, .i .u64 y, .i .u64 c] => chk (c.toNat ≤ 1) (K (.tp [.i .u64 (add64F x y c).1, .i .u64 (add64F x y c).2]) X)
    | _ => none
  | .sub64 xs => match xs.map (vo env) with
    | [.i .u64 x, .i .u64 y, .i .u64 c] => chk (c.toNat ≤ 1) (K (.tp [.i .u64 (sub64F x y c).1, .i .u64 (sub64F x y c).2]) X)
    | _ => none
  | .call _ _ => none
  | .dyn _ _ => none
  | .dynP _ _ => none
end
end Go.Abs
namespace Go.Abs
open Go Go.RowKit
structure Lf where
  t : Ty
  v : t.den
inductive SV where
  | i (k : IntKind)
  | b
  | s
  | l (c : Cs)
  | u
  | e (c : Cs)
  | ref (a : Nat)
  | pre (a : Nat)
  | ptr (a i j : Nat)
  | ag (l : List SV)
  | tp (l : List SV)
  | clo (g : Nat) (l : List SV)
  | np (a : Nat)
inductive SO where
  | sq (c : Cs)
  | fm (c : Cs)
  | st (l : List SV)
  | dd
  | sb
mutual
def SV.eqb : SV → SV → Bool
  | .i k, .i k' => decide (k = k')
  | .b, .b => true
  | .s, .s => true
  | .l c, .l c' => c.eqb c'
  | .u, .u => true
  | .e c, .e c' => c.eqb c'
  | .ref a, .ref a' => Nat.beq a a'
  | .pre a, .pre a' => Nat.beq a a'
  | .ptr a p q, .ptr a' p' q' => Nat.beq a a' && Nat.beq p p' && Nat.beq q q'
  | .ag x, .ag x' => SV.eqbs x x'
  | .tp x, .tp x' => SV.eqbs x x'
  | .clo g x, .clo g' x' => Nat.beq g g' && SV.eqbs x x'
  | .np a, .np a' => Nat.beq a a'
  | _, _ => false
def SV.eqbs : List SV → List SV → Bool
  | [], [] => true
  | a :: r, a' :: r' => a.eqb a' && SV.eqbs r r'
  | _, _ => false
end
def SO.eqb : SO → SO → Bool
  | .sq c, .sq c' => c.eqb c'
  | .fm c, .fm c' => c.eqb c'
  | .st l, .st l' => SV.eqbs l l'
  | .dd, .dd => true
  | .sb, .sb => true
  | _, _ => false
def SO.eqbs : List SO → List SO → Bool
  | [], [] => true
  | a :: r, a' :: r' => a.eqb a' && SO.eqbs r r'
  | _, _ => false
mutual
def TV.sh : TV → Option SV
  | .i k _ => some (.i k)
  | .b _ => some .b
  | .s _ => some .s
  | .l c _ => some (.l c)
  | .u => some .u
  | .e c => some (.e c)
  | .ref a => some (.ref a)
  | .pre a _ => some (.pre a)
  | .ptr a p q => some (.ptr a p q)
  | .np a => some (.np a)
  | .ag x => match TV.shs x with | some y => some (.ag y) | none => none
  | .tp x => match TV.shs x with | some y => some (.tp y) | none => none
  | .clo g x => match TV.shs x with | some y => some (.clo g y) | none => none
  | _ => none
def TV.shs : List TV → Option (List SV)
  | [] => some []
  | a :: r => match a.sh, TV.shs r with
    | some x, some xs => some (x :: xs)
    | _, _ => none
end
mutual
def TV.lv : TV → List Lf
  | .i k n => [⟨.i k, n⟩]
  | .b x => [⟨.b, x⟩]
  | .s x => [⟨.s, x⟩]
  | .l c w => [⟨.l c, w⟩]
  | .pre _ n => [⟨.i .i64, n⟩]
  | .ag y => TV.lvs y
  | .tp y => TV.lvs y
  | .clo _ y => TV.lvs y
  | _ => []
def TV.lvs : List TV → List Lf
  | [] => []
  | a :: r => a.lv ++ TV.lvs r
end
def VObj.sh : VObj → Option SO
  | .sq c _ => some (.sq c)
  | .fm c ver none _ => bif Nat.beq ver 0 then some (.fm c) else none
  | .fm _ _ (some _) _ => none
  | .st cs => match TV.shs cs with | some l => some (.st l) | none => none
  | .sb _ => some .sb
def VObj.lv : VObj → List Lf
  | .sq c l => [⟨.l c, l⟩]
  | .fm c _ _ l => [⟨.l (.cons (.l c) .nil), l⟩]
  | .st cs => TV.lvs cs
  | .sb s => [⟨.s, s⟩]
def packL : List Lf → (c : Cs) × c.den
  | [] => ⟨.nil, ()⟩
  | a :: r => match packL r with
    | ⟨c, x⟩ => ⟨.cons a.t c, mkP c a.v x⟩
def unp : (c : Cs) → c.den → List Lf
  | .nil, _ => []
  | .cons t r, x => ⟨t, fstP r x⟩ :: unp r (sndP r x)
mutual
def fillV : SV → List Lf → Option (TV × List Lf)
  | .i k, ⟨.i k', n⟩ :: r => bif decide (k = k') then some (.i k n, r) else none
  | .b, ⟨.b, x⟩ :: r => some (.b x, r)
  | .s, ⟨.s, x⟩ :: r => some (.s x, r)
  | .l c, ⟨.l c', v⟩ :: r => match asL c' c v with | some v => some (.l c v, r) | none => none
  | .u, r => some (.u, r)
  | .e c, r => some (.e c, r)
  | .ref a, r => some (.ref a, r)
  | .pre a, ⟨.i .i64, n⟩ :: r => some (.pre a n, r)
  | .ptr a i j, r => some (.ptr a i j, r)
  | .np a, r => some (.np a, r)
  | .ag l, r => match fillVs l r with | some (l, r) => some (.ag l, r) | none => none
  | .tp l, r => match fillVs l r with | some (l, r) => some (.tp l, r) | none => none
  | .clo g l, r => match fillVs l r with | some (l, r) => some (.clo g l, r) | none => none
  | _, _ => none
def fillVs : List SV → List Lf → Option (List TV × List Lf)
  | [], r => some ([], r)
  | a :: as, r => match fillV a r with
    | some (x, r) => match fillVs as r with
      | some (xs, r) => some (x :: xs, r)
      | none => none
    | none => none
end
def fillO : SO → List Lf → Option (VObj × List Lf)
  | .sq c, ⟨.l c', v⟩ :: r => match asL c' c v with | some v => some (.sq c v, r) | none => none
  | .fm c, ⟨.l (.cons (.l c') .nil), v⟩ :: r => match asL (.cons (.l c') .nil) (.cons (.l c) .nil) v with | some v => some (.fm c 0 none v, r) | none => none
  | .st l, r => match fillVs l r with | some (l, r) => some (.st l, r) | none => none
  | .sb, ⟨.s, x⟩ :: r => some (.sb x, r)
  | _, _ => none
def fillOs : List SO → List Lf → Option (VHeap × List Lf)
  | [], r => some ([], r)
  | .dd :: as, r => match fillOs as r with
    | some (xs, r) => some (none :: xs, r)
    | none => none
  | a :: as, r => match fillO a r with
    | some (x, r) => match fillOs as r with
      | some (xs, r) => some (some x :: xs, r)
      | none => none
    | none => none
structure Sg where
  ts : List Nat
  vs : List SV
  os : List SO
  c : Cs
def zipE : List Nat → List TV → VEnv
  | t :: ts, v :: vs => (t, v) :: zipE ts vs
  | _, _ => []
def Sg.fill (g : Sg) (x : g.c.den) : Option VSt :=
  match fillVs g.vs (unp g.c x) with
  | some (vs, r) => match fillOs g.os r with
    | some (X, []) => some ⟨zipE g.ts vs, X⟩
    | _ => none
  | none => none
def shOs : VHeap → Option (List SO)
  | [] => some []
  | some o :: r => match o.sh, shOs r with
    | some x, some xs => some (x :: xs)
    | _, _ => none
  | none :: r => match shOs r with
    | some xs => some (.dd :: xs)
    | none => none
def lvOs : VHeap → List Lf
  | [] => []
  | some o :: r => o.lv ++ lvOs r
  | none :: r => lvOs r
def Sg.read (g : Sg) (vs : List TV) (X : VHeap) : Option g.c.den :=
  match TV.shs vs, shOs X with
  | some svs, some sos => bif SV.eqbs svs g.vs && SO.eqbs sos g.os then
      match packL (TV.lvs vs ++ lvOs X) with
      | ⟨c, x⟩ => c.cast g.c x
    else none
  | _, _ => none
mutual
def TV.ids : TV → List Nat
  | .ref a => [a]
  | .pre a _ => [a]
  | .ptr a _ _ => [a]
  | .np a => [a]
  | .ag y => TV.idss y
  | .tp y => TV.idss y
  | .clo _ y => TV.idss y
  | _ => []
def TV.idss : List TV → List Nat
  | [] => []
  | a :: r => a.ids ++ TV.idss r
end
mutual
def TV.ren (r : Nat → Option Nat) : TV → TV
  | .ref a => match r a with | some q => .ref q | none => .u
  | .pre a n => match r a with | some q => .pre q n | none => .u
  | .ptr a x y => match r a with | some q => .ptr q x y | none => .u
  | .np a => match r a with | some q => .np q | none => .u
  | .e c => .e c
  | .sub _ _ _ => .u
  | .pti _ _ _ _ _ => .u
  | .rp _ => .u
  | .lt _ => .u
  | .v _ => .u
  | .ag y => .ag (TV.rens r y)
  | .tp y => .tp (TV.rens r y)
  | .clo g y => .clo g (TV.rens r y)
  | .i k n => .i k n
  | .b x => .b x
  | .s x => .s x
  | .l c x => .l c x
  | .u => .u
def TV.rens (r : Nat → Option Nat) : List TV → List TV
  | [] => []
  | a :: y => a.ren r :: TV.rens r y
end
def VObj.ids : Option VObj → List Nat
  | some (.st cs) => TV.idss cs
  | _ => []
def VObj.ren (r : Nat → Option Nat) : VObj → VObj
  | .sq c l => .sq c l
  | .fm c _ h l => .fm c 0 h l
  | .st cs => .st (TV.rens r cs)
  | .sb s => .sb s
def addIds (X : VHeap) : List Nat → List Nat → List Nat
  | m, [] => m
  | m, a :: r => bif (vget X a).isSome && !(m.any (Nat.beq a)) then addIds X (m ++ [a]) r else addIds X m r
def reachV (X : VHeap) : Nat → List Nat → List Nat
  | 0, m => m
  | d + 1, m => match addIds X m (m.flatMap fun a => VObj.ids (vget X a)) with
    | m' => bif Nat.beq m'.length m.length then m else reachV X d m'
def idxV : List Nat → Nat → Nat → Option Nat
  | [], _, _ => none
  | x :: r, a, i => bif Nat.beq x a then some i else idxV r a (i + 1)
def ownV : List (Nat × Option Nat × Bool) → VSt → VSt
  | [], s => s
  | (t, none, w) :: r, s => match w, vlook s.env t with
    | false, .e c => bif Nat.blt 0 c.width then ownV r ⟨(t, .ref s.heap.length) :: s.env, s.heap ++ [some (.sq c [])]⟩ else ownV r s
    | true, .e (.cons (.l c) .nil) => bif Nat.blt 0 c.width then ownV r ⟨(t, .ref s.heap.length) :: s.env, s.heap ++ [some (.fm c 0 none [])]⟩ else ownV r s
    | _, _ => ownV r s
  | (t, some j, w) :: r, s => match vlook s.env t with
    | .ptr a _ _ => match vget s.heap a with
      | some (.st cs) => match w, cs[j]? with
        | false, some (.e c) => bif Nat.blt 0 c.width then ownV r ⟨s.env, vset s.heap a (some (.st (cs.set j (.ref s.heap.length)))) ++ [some (.sq c [])]⟩ else ownV r s
        | true, some (.e (.cons (.l c) .nil)) => bif Nat.blt 0 c.width then ownV r ⟨s.env, vset s.heap a (some (.st (cs.set j (.ref s.heap.length)))) ++ [some (.fm c 0 none [])]⟩ else ownV r s
        | false, some (.v (.slice none 0 0)) => ownV r ⟨s.env, vset s.heap a (some (.st (cs.set j (.ref s.heap.length)))) ++ [some (.sb (ByteArray.mk #[]))]⟩
        | _, _ => ownV r s
      | _ => ownV r s
    | _ => ownV r s
mutual
def TV.nrm : TV → TV
  | .e c => .l c []
  | .ag y => .ag (TV.nrms y)
  | .tp y => .tp (TV.nrms y)
  | .clo g y => .clo g (TV.nrms y)
  | a => a
def TV.nrms : List TV → List TV
  | [] => []
  | a :: y => a.nrm :: TV.nrms y
end
def VObj.nrm : VObj → VObj
  | .st cs => .st (TV.nrms cs)
  | o => o
def nrmX (X : VHeap) : VHeap := X.map fun o => o.map VObj.nrm
def keepV (k : Nat) (ts : List Nat) (s : VSt) : List TV × VHeap :=
  match ts.map (fun t => (vlook s.env t).nrm), nrmX s.heap with
  | vs, X => match reachV X 5 (addIds X (List.range (min k X.length)) (TV.idss vs)) with
    | m => (TV.rens (fun a => idxV m a 0) vs, m.map fun a => (vget X a).map (VObj.ren fun a => idxV m a 0))
def frzT (X : VHeap) (F : List Nat) : TV → TV
  | .ref a => bif F.any (Nat.beq a) then match vget X a with
      | some (.sq c l) => .l c l
      | some (.fm c _ none l) => .l (.cons (.l c) .nil) l
      | some (.sb s) => .l U8 (strL s)
      | _ => .ref a
    else .ref a
  | .pre a n => bif F.any (Nat.beq a) then match vget X a with
      | some (.sq c l) => .l c (l.take n.toNat)
      | _ => .pre a n
    else .pre a n
  | a => a
mutual
def frzA (X : VHeap) (F : List Nat) : TV → TV
  | .ag l => .ag (frzAs X F l)
  | .tp l => .tp (frzAs X F l)
  | .clo g l => .clo g (frzAs X F l)
  | .sub _ _ _ => .u
  | .pti _ _ _ _ _ => .u
  | .rp _ => .u
  | .lt _ => .u
  | a => frzT X F a
def frzAs (X : VHeap) (F : List Nat) : List TV → List TV
  | [] => []
  | a :: r => frzA X F a :: frzAs X F r
end
def frzO (X : VHeap) (F : List Nat) : Option VObj → Option VObj
  | some (.st cs) => some (.st (frzAs X F cs))
  | o => o
def killV (X : VHeap) : List Nat → VHeap
  | [] => X
  | a :: r => vset (killV X r) a none
def isSeq (X : VHeap) (a : Nat) : Bool :=
  match vget X a with
  | some (.sq _ _) => true
  | some (.fm _ _ none _) => true
  | some (.sb _) => true
  | _ => false
def frzIds (X : VHeap) : TV → List Nat
  | .ptr a _ _ => match vget X a with
    | some (.st cs) => (TV.idss cs).filter (isSeq X)
    | _ => []
  | a => a.ids.filter (isSeq X)
def frzV (ts : List Nat) (s : VSt) : VSt :=
  match ts.flatMap fun t => frzIds s.heap (vlook s.env t) with
  | F => ⟨s.env.map fun p => (p.1, frzA s.heap F p.2), killV (s.heap.map (frzO s.heap F)) F⟩
def noHole (X : VHeap) : Bool := X.all fun o => match o with | some (.fm _ _ (some _) _) => false | _ => true
structure Out1 where
  ex : Ex
  g : Sg
def altT (A B : Type) : List Out1 → Type
  | [] => A
  | _ :: _ => A ⊕ B
def Alt : List Out1 → Type
  | [] => Empty
  | o :: r => altT o.g.c.den (Alt r) r
def altK {γ : Type} : (os : List Out1) → Alt os → ((o : Out1) → o.g.c.den → γ) → γ
  | [o], y, K => K o y
  | o :: o' :: r, y, K => match y with
    | .inl x => K o x
    | .inr z => altK (o' :: r) z K
def mkAlt : (os : List Out1) → Nat → ((o : Out1) → Option o.g.c.den) → Option (Alt os)
  | [], _, _ => none
  | [o], 0, f => f o
  | o :: _ :: _, 0, f => match f o with | some x => some (.inl x) | none => none
  | [_], _ + 1, _ => none
  | _ :: o' :: r, n + 1, f => match mkAlt (o' :: r) n f with | some y => some (.inr y) | none => none
structure LpE where
  id : Nat
  own : List (Nat × Option Nat × Bool)
  g : Sg
  outs : List Out1
  F : g.c.den → Option (Alt outs)
structure FnE where
  g : Nat
  pf : Bool
  args : Sg
  res : SV
  os : List SO
  co : Cs
  F : args.c.den → Option co.den
structure Tabs where
  pf : Nat → Bool
  fs : List FnE
  ls : List LpE
  kb : Nat := 0
def ldT (X : VHeap) : TV → Option TV
  | .ref a => match vget X a with
    | some (.sq c l) => some (.l c l)
    | some (.sb s) => some (.l U8 (strL s))
    | _ => none
  | .pre a n => match vget X a with
    | some (.sq c l) => some (.l c (l.take n.toNat))
    | _ => none
  | _ => none
def ldC (X : VHeap) : List TV → List TV × Bool
  | [] => ([], false)
  | a :: r => match ldC X r with
    | (as, t) => match ldT X a with
      | some x => (x :: as, true)
      | none => match a with
        | .e c => (.l c [] :: as, t)
        | a => (a :: as, t)
def ldL (X : VHeap) : List TV → List TV × Bool
  | [] => ([], false)
  | a :: r => match ldL X r with
    | (as, t) => match ldT X a with
      | some x => (x :: as, true)
      | none => match a with
        | .ag cs => match ldC X cs with
          | (ds, b) => (.ag ds :: as, b || t)
        | .e c => (.l c [] :: as, t)
        | a => (a :: as, t)
def scalS : SV → Bool
  | .i _ | .b | .s => true
  | .tp l => l.all fun y => match y with | .i _ | .b | .s => true | _ => false
  | _ => false
def findF (g : Nat) (svs : List SV) : List FnE → Option FnE
  | [] => none
  | e :: r => bif Nat.beq e.g g && SV.eqbs svs e.args.vs then some e else findF g svs r
def findL (id : Nat) : List LpE → Option LpE
  | [] => none
  | e :: r => bif Nat.beq e.id id then some e else findL id r
structure VI where
  dst : Option Nat
  op : VOp
  guard : Option (Nat × Bool)
  old : Bool
  nw : Bool
inductive VCode where
  | skip
  | reg (ops : List VI)
  | seq (a b : VCode)
  | cond (c : VOpd) (a b : VCode)
  | blk (id : Nat) (b : VCode)
  | loop (lid : Nat) (b : VCode)
  | jn (lid : Nat) (b : VCode)
  | exit (id : Nat)
  | bad
  | ret
  | fz (ts : List Nat) (b : VCode)
  | ow (ws : List (Nat × Option Nat × Bool)) (b : VCode)
  | regN (ns : List Nat) (ops : List VI)
section
variable {β : Type}
mutual
def dataT : TV → Bool
  | .i _ _ | .b _ | .s _ | .l _ _ => true
  | .ag x => dataTs x
  | .tp x => dataTs x
  | .clo _ x => dataTs x
  | _ => false
def dataTs : List TV → Bool
  | [] => true
  | a :: r => dataT a && dataTs r
end
def vcallP (T : Tabs) (g : Nat) (args : List TV) (X : VHeap) (K : TV → VHeap → Option β) : Option β :=
  match ldL X args with
  | (as, lent) => match TV.shs as with
    | some svs => match findF g svs T.fs with
      | some e => bif dataTs as && (!lent || scalS e.res) then match e.args.read as [] with
          | some x => Option.bind (e.F x) fun y => match fillV e.res (unp e.co y) with
            | some (v, []) => bif dataT v then K v X else none
            | _ => none
          | none => none
        else none
      | none => none
    | none => none
def findFI (g : Nat) (svs : List SV) (sos : List SO) : List FnE → Option FnE
  | [] => none
  | e :: r => bif Nat.beq e.g g && (SV.eqbs svs e.args.vs && SO.eqbs sos e.args.os) then some e else findFI g svs sos r
mutual
def clT (X : VHeap) (m : List Nat) : TV → Bool
  | .ref a | .pre a _ | .ptr a _ _ | .np a => (vget X a).isSome && !(m.any (Nat.beq a))
  | .u | .sub _ _ _ | .pti _ _ _ _ _ | .rp _ | .lt _ => false
  | .ag x => clTs X m x
  | .tp x => clTs X m x
  | .clo _ x => clTs X m x
  | _ => true
def clTs (X : VHeap) (m : List Nat) : List TV → Bool
  | [] => true
  | a :: r => clT X m a && clTs X m r
end
def clX (X : VHeap) (m : List Nat) : VHeap → Nat → Bool
  | [], _ => true
  | o :: r, i => (m.any (Nat.beq i) || (match o with | some (.st cs) => clTs X m cs | some (.fm _ _ (some _) _) => false | _ => true)) && clX X m r (i + 1)
mutual
def wfT (X : VHeap) : TV → Bool
  | .i _ _ | .b _ | .s _ | .l _ _ | .u | .e _ => true
  | .ref a => match vget X a with | some (.sq _ _) => true | some (.sb _) => true | _ => false
  | .ptr a i _ => Nat.beq i 0 && match vget X a with | some (.st _) => true | _ => false
  | .np a => match vget X a with | some (.st _) => true | _ => false
  | .ag x => wfTs X x
  | .tp x => wfTs X x
  | .clo _ x => wfTs X x
  | _ => false
def wfTs (X : VHeap) : List TV → Bool
  | [] => true
  | a :: r => wfT X a && wfTs X r
end
def wfX (X : VHeap) : VHeap → Bool
  | [] => true
  | some (.sq c _) :: r => Nat.blt 0 c.width && wfX X r
  | some (.st cs) :: r => Nat.blt 0 cs.length && wfTs X cs && wfX X r
  | some (.sb _) :: r => wfX X r
  | some (.fm _ _ _ _) :: _ => false
  | none :: r => wfX X r
def kindX {β : Type} : VHeap → VHeap → Option β → Option β
  | [], _, x => x
  | some (.sq _ l) :: r, some (.sq _ l2) :: r2, x => chk (l2.length = l.length) (kindX r r2 x)
  | some (.st _) :: r, some (.st _) :: r2, x => kindX r r2 x
  | some (.sb s) :: r, some (.sb s2) :: r2, x => chk (s2.size = s.size) (kindX r r2 x)
  | _ :: r, none :: r2, x => kindX r r2 x
  | _, _, _ => none
def noFm : VHeap → Bool
  | [] => true
  | some (.fm _ _ _ _) :: _ => false
  | _ :: r => noFm r
def mapBack (m : List Nat) (n : Nat) (i : Nat) : Nat := bif Nat.blt i m.length then m.getD i 0 else n + (i - m.length)
def setsX (r : Nat → Option Nat) : VHeap → List Nat → VHeap → VHeap
  | X, a :: m, o :: Y => setsX r (vset X a (o.map (VObj.ren r))) m Y
  | X, _, _ => X
def mergeX (m : List Nat) (r : Nat → Option Nat) (X Y : VHeap) : VHeap := setsX r X m Y ++ (Y.drop m.length).map fun o => o.map (VObj.ren r)
def predV (m : List Nat) : VHeap → Nat → List Nat
  | [], _ => []
  | o :: r, i => bif (VObj.ids o).any (fun a => m.any (Nat.beq a)) then i :: predV m r (i + 1) else predV m r (i + 1)
def closeV (X : VHeap) : Nat → List Nat → List Nat
  | 0, m => m
  | d + 1, m => match addIds X m (predV m X 0) with
    | m' => bif Nat.beq m'.length m.length then m else closeV X d (reachV X 5 m')
def vcallI (T : Tabs) (g : Nat) (args : List TV) (X : VHeap) (K : TV → VHeap → Option β) : Option β :=
  match closeV X 4 (reachV X 5 (addIds X [] (TV.idss args))) with
  | m => match TV.rens (fun a => idxV m a 0) args, m.map (fun a => (vget X a).map (VObj.ren fun a => idxV m a 0)) with
    | as, Xs => bif clX X m X 0 && noFm Xs then match TV.shs as, shOs Xs with
      | some svs, some sos => match findFI g svs sos T.fs with
        | some e => match e.args.read as Xs with
          | some x => Option.bind (e.F x) fun y => match fillV e.res (unp e.co y) with
            | some (v, r) => match fillOs e.os r with
              | some (X2, []) => bif Nat.ble m.length X2.length && (wfT X2 v && wfX X2 X2) then
                  kindX Xs X2 (K (v.ren fun a => some (mapBack m X.length a)) (mergeX m (fun a => some (mapBack m X.length a)) X X2))
                else none
              | _ => none
            | none => none
          | none => none
        | none => none
      | _, _ => none
      else none
def vcall (T : Tabs) (g : Nat) (args : List TV) (X : VHeap) (K : TV → VHeap → Option β) : Option β :=
  bif T.pf g then vcallP T g args X K else vcallI T g args X K
def vop (T : Tabs) (op : VOp) (env : VEnv) (X : VHeap) (K : TV → VHeap → Option β) : Option β :=
  match op with
  | .call g args => vcall T g (args.map (vo env)) X K
  | .dyn x args => match vo env x with
    | .clo f cs => vcall T f (args.map (vo env) ++ cs) X K
    | _ => none
  | .dynP x args => match vo env x with
    | .clo f cs => bif T.pf f then vcall T f (args.map (vo env) ++ cs) X K else none
    | _ => none
  | op => vG op env X K
def VOp.touched : VOp → List VOpd
  | .load _ _ x | .store _ x _ | .iad _ x _ => [x]
  | .app _ _ s _ => [s]
  | .appD _ s _ => [s]
  | .apps s _ => [s]
  | .bstr x => [x]
  | .appb s _ => [s]
  | .appDb s _ => [s]
  | .call _ args => args
  | .dynP x args => x :: args
  | _ => []
abbrev Nw := Nat × List Nat
def isNew (n : Nw) (a : Nat) : Bool := Nat.ble n.1 a || n.2.any (Nat.beq a)
def oldC (X : VHeap) (n0 : Nw) : TV → Bool
  | .ref a | .pre a _ | .ptr a _ _ => (vget X a).isSome && !isNew n0 a
  | .np _ | .u | .sub _ _ _ | .pti _ _ _ _ _ | .v _ => false
  | .ag _ => false
  | _ => true
def oldB (X : VHeap) (n0 : Nw) : TV → Bool
  | .ag cs => cs.all (oldC X n0)
  | a => oldC X n0 a
def oldT (X : VHeap) (n0 : Nw) : TV → Bool
  | .clo _ cs => cs.all (oldB X n0)
  | a => oldB X n0 a
def newT (X : VHeap) (n0 : Nw) : TV → Bool
  | .ref a | .ptr a _ _ => (vget X a).isSome && isNew n0 a
  | .i _ _ | .b _ | .s _ | .l _ _ | .e _ => true
  | _ => false
def nwT (X : VHeap) (n0 : Nw) (env : VEnv) : VOp → Bool
  | .app _ _ s _ => newT X n0 (vo env s)
  | .appD _ s _ => newT X n0 (vo env s)
  | .apps s _ => newT X n0 (vo env s)
  | .appb s _ => newT X n0 (vo env s)
  | .appDb s _ => newT X n0 (vo env s)
  | .store _ x _ => newT X n0 (vo env x)
  | _ => false
def okM (X : VHeap) (n0 : Nw) (i : VI) (env : VEnv) : Bool :=
  (!i.old || i.op.touched.all fun x => oldT X n0 (vo env x)) && (!i.nw || nwT X n0 env i.op)
def vput (env : VEnv) (d : Option Nat) (v : TV) : VEnv :=
  match d with
  | some d => (d, v) :: env
  | none => env
def vgo (T : Tabs) (n0 : Nw) (i : VI) (env : VEnv) (X : VHeap) (K : VSt → Option β) : Option β :=
  bif okM X n0 i env then vop T i.op env X fun v X' => K ⟨vput env i.dst v, X'⟩ else none
abbrev undV : TV := .v (.tuple ⟨[]⟩)
def vai (T : Tabs) (n0 : Nw) (i : VI) (s : VSt) (K : VSt → Option β) : Option β :=
  match i.guard with
  | none => vgo T n0 i s.env s.heap K
  | some (g, w) => match vlook s.env g with
    | .b t => match w with
      | true => bif t then vgo T n0 i ((g, .b true) :: s.env) s.heap K else K ⟨vput ((g, .b false) :: s.env) i.dst undV, s.heap⟩
      | false => bif t then K ⟨vput ((g, .b true) :: s.env) i.dst undV, s.heap⟩ else vgo T n0 i ((g, .b false) :: s.env) s.heap K
    | .v (.tuple ⟨[]⟩) => K ⟨vput s.env i.dst undV, s.heap⟩
    | _ => none
def vops (T : Tabs) (n0 : Nw) : List VI → VSt → (VSt → Option β) → Option β
  | [], s, K => K s
  | i :: r, s, K => vai T n0 i s fun s' => vops T n0 r s' K
def refV (s : VSt) : VOpd → Bool → VSt
  | .t g, b => ⟨(g, .b b) :: s.env, s.heap⟩
  | .c _, _ => s
def vsub (T : Tabs) (lid : Nat) (s : VSt) (K : Ex → VSt → Option β) : Option β :=
  match findL lid T.ls with
  | some e => match keepV T.kb e.g.ts (ownV e.own s) with
    | (vs, X) => match e.g.read vs X with
      | some x => Option.bind (e.F x) fun y => altK e.outs y fun o z => match o.g.fill z with
        | some s' => K o.ex s'
        | none => none
      | none => none
  | none => none
def ev (T : Tabs) : VCode → VSt → (Ex → VSt → Option β) → Option β
  | .bad, _, _ => none
  | .skip, s, K => K .nor s
  | .reg ops, s, K => vops T (s.heap.length, []) ops s fun s' => K .nor s'
  | .regN ns ops, s, K => vops T (s.heap.length, ns.flatMap fun t => (vlook s.env t).ids) ops s fun s' => K .nor s'
  | .seq a b, s, K => ev T a s fun e s' => match e with
    | .nor => ev T b s' K
    | e => K e s'
  | .cond c a b, s, K => match vo s.env c with
    | .b t => bif t then ev T a (refV s c true) K else ev T b (refV s c false) K
    | _ => none
  | .blk id b, s, K => ev T b s fun e s' => match e with
    | .exit id' => bif Nat.beq id' id then K .nor s' else K (.exit id') s'
    | e => K e s'
  | .loop lid _, s, K => vsub T lid s K
  | .jn lid _, s, K => vsub T lid s K
  | .exit id, s, K => K (.exit id) s
  | .ret, s, K => K .ret s
  | .fz ts b, s, K => bif noHole s.heap then ev T b (frzV ts s) K else none
  | .ow ws b, s, K => ev T b (ownV ws s) K
end
def loopF {S R : Type} (step : S → Option (S ⊕ R)) : Nat → S → Option R
  | 0, _ => none
  | n + 1, s => match step s with
    | some (.inl s') => loopF step n s'
    | some (.inr r) => some r
    | none => none
open Classical in
noncomputable def loopO {S R : Type} (step : S → Option (S ⊕ R)) (s : S) : Option R :=
  if h : ∃ n r, loopF step n s = some r then some (Classical.choose (Classical.choose_spec h)) else none
def exEq : Ex → Ex → Bool
  | .nor, .nor => true
  | .ret, .ret => true
  | .exit a, .exit b => Nat.beq a b
  | _, _ => false
def findO (e : Ex) : List Out1 → Nat → Option Nat
  | [], _ => none
  | o :: r, n => bif exEq o.ex e then some n else findO e r (n + 1)
def outK (kb : Nat) (outs : List Out1) (e : Ex) (s : VSt) : Option (Alt outs) :=
  match findO e outs 0 with
  | some n => mkAlt outs n fun o => match keepV kb o.g.ts s with
    | (vs, X) => o.g.read vs X
  | none => none
def stepL (T : Tabs) (own : List (Nat × Option Nat × Bool)) (g : Sg) (outs : List Out1) (b : VCode) (x : g.c.den) : Option (g.c.den ⊕ Alt outs) :=
  match g.fill x with
  | some s => ev T b s fun e s' => match e with
    | .nor => match keepV T.kb g.ts (ownV own s') with
      | (vs, X) => match g.read vs X with
        | some x' => some (.inl x')
        | none => none
    | e => match outK T.kb outs e s' with
      | some y => some (.inr y)
      | none => none
  | none => none
def stepJ (T : Tabs) (g : Sg) (outs : List Out1) (b : VCode) (x : g.c.den) : Option (Alt outs) :=
  match g.fill x with
  | some s => ev T b s fun e s' => outK T.kb outs e s'
  | none => none
structure VFn where
  pf : Bool
  slots : Nat
  res : List RV
  code : VCode
def resV1 (s : VSt) : RV → Option TV
  | .t n => some (vlook s.env n)
  | .c n g sz => vload g sz (vlook s.env n) s.heap fun v _ => some v
def resVs (s : VSt) : List RV → Option (List TV)
  | [] => some []
  | r :: rs => match resV1 s r, resVs s rs with
    | some v, some vs => some (v :: vs)
    | _, _ => none
def tupV : List TV → TV
  | [v] => v
  | vs => .tp vs
mutual
def TV.dat (X : VHeap) : TV → TV
  | .ref a => match vget X a with
    | some (.sq c y) => .l c y
    | some (.fm c _ none y) => .l (.cons (.l c) .nil) y
    | some (.sb y) => .l U8 (strL y)
    | _ => .u
  | .pre a n => match vget X a with
    | some (.sq c y) => .l c (y.take n.toNat)
    | _ => .u
  | .e c => .l c []
  | .ag y => .ag (TV.dats X y)
  | .tp y => .tp (TV.dats X y)
  | .clo g y => .clo g (TV.dats X y)
  | a => a
def TV.dats (X : VHeap) : List TV → List TV
  | [] => []
  | a :: r => a.dat X :: TV.dats X r
end
def readV (sv : SV) (c : Cs) (v : TV) : Option c.den :=
  match v.sh with
  | some sv' => bif sv'.eqb sv then match packL v.lv with | ⟨c', x⟩ => c'.cast c x else none
  | none => none
def evP (T : Tabs) (F : VFn) (g : Sg) (res : SV) (co : Cs) (x : g.c.den) : Option co.den :=
  match g.fill x with
  | some s => ev T F.code s fun e s' => match e with
    | .exit _ => none
    | _ => match resVs s' F.res with
      | some vs => readV res co ((tupV vs).dat s'.heap)
      | none => none
  | none => none
def retI (k : Nat) (vs0 : TV) (X0 : VHeap) : TV × VHeap :=
  match vs0.nrm, nrmX X0 with
  | vs, X => match reachV X 5 (addIds X (List.range (min k X.length)) vs.ids) with
    | m => (vs.ren fun a => idxV m a 0, m.map fun a => (vget X a).map (VObj.ren fun a => idxV m a 0))
def readR (sv : SV) (os : List SO) (c : Cs) (v : TV) (X : VHeap) : Option c.den :=
  match v.sh, shOs X with
  | some sv', some os' => bif sv'.eqb sv && SO.eqbs os' os then match packL (v.lv ++ lvOs X) with | ⟨c', x⟩ => c'.cast c x else none
  | _, _ => none
def evI (T : Tabs) (F : VFn) (g : Sg) (res : SV) (os : List SO) (co : Cs) (x : g.c.den) : Option co.den :=
  match g.fill x with
  | some s => ev T F.code s fun e s' => match e with
    | .exit _ => none
    | _ => match resVs s' F.res with
      | some vs => match retI T.kb (tupV vs) s'.heap with
        | (v, X) => readR res os co v X
      | none => none
  | none => none
end Go.Abs
namespace Go.Abs
open Go Go.RowKit
inductive Pos where
  | m (a : Nat)
  | n (a i : Nat)
  deriving DecidableEq
abbrev Pl := Pos → Option Nat
def elN : VObj → Nat
  | .sq _ l => l.length
  | .fm _ _ _ l => l.length
  | .st _ => 1
  | .sb s => s.size
def DeadV (X : VHeap) (a ver : Nat) : Prop := ∀ o, vget X a = some o → ∃ c ver' hole l, o = .fm c ver' hole l ∧ (ver < ver' ∨ (ver = ver' ∧ hole ≠ none))
def isFm : VObj → Bool
  | .fm _ _ _ _ => true
  | _ => false
inductive TR (X : VHeap) (pl : Pl) : TV → AV → Prop
  | i (k : IntKind) (n : Int) : TR X pl (.i k n) (.v (.int k n))
  | b (x : Bool) : TR X pl (.b x) (.v (.bool x))
  | s (x : ByteArray) : TR X pl (.s x) (.v (.string x))
  | l (c : Cs) (v : List c.den) (a : AV) (h : Coe a (.rd c.width (v.map c.enc))) : TR X pl (.l c v) a
  | e (c : Cs) : TR X pl (.e c) .emp
  | u (a : AV) : TR X pl .u a
  | v (x : Value) : TR X pl (.v x) (.v x)
  | ref (a x : Nat) (o : VObj) (n : Nat) (h : vget X a = some o) (hn : lenO o = some n) (hp : pl (.m a) = some x) : TR X pl (.ref a) (.ref x 0 n)
  | refD (a : Nat) (av : AV) (h : vget X a = none) (ha : a < X.length) : TR X pl (.ref a) av
  | pre (a x : Nat) (m : Int) (o : VObj) (n : Nat) (h : vget X a = some o) (hn : lenO o = some n) (hp : pl (.m a) = some x) (h0 : 0 ≤ m) (hm : m.toNat ≤ n) : TR X pl (.pre a m) (.ref x 0 m.toNat)
  | preD (a : Nat) (m : Int) (av : AV) (h : vget X a = none) (ha : a < X.length) : TR X pl (.pre a m) av
  | sub (a ver i y : Nat) (c : Cs) (l : List (List c.den)) (h : vget X a = some (.fm c ver none l)) (hi : i < l.length) (hp : pl (.n a i) = some y) : TR X pl (.sub a ver i) (.ref y 0 (l.getD i []).length)
  | sube (a ver i : Nat) (c : Cs) (l : List (List c.den)) (h : vget X a = some (.fm c ver none l)) (hi : i < l.length) (hp : pl (.n a i) = none) (h0 : l.getD i [] = []) : TR X pl (.sub a ver i) .emp
  | subD (a ver i : Nat) (av : AV) (h : DeadV X a ver) (ha : a < X.length) : TR X pl (.sub a ver i) av
  | ptr (a i j x : Nat) (o : VObj) (h : vget X a = some o) (hi : i < elN o) (hp : pl (.m a) = some x) : TR X pl (.ptr a i j) (.ptr x i j)
  | ptrD (a i j : Nat) (av : AV) (h : vget X a = none) (ha : a < X.length) : TR X pl (.ptr a i j) av
  | pti (a ver i k j y : Nat) (c : Cs) (l : List (List c.den)) (h : vget X a = some (.fm c ver none l)) (hi : i < l.length) (hk : k < (l.getD i []).length) (hp : pl (.n a i) = some y) : TR X pl (.pti a ver i k j) (.ptr y k j)
  | ptiD (a ver i k j : Nat) (av : AV) (h : DeadV X a ver) (ha : a < X.length) : TR X pl (.pti a ver i k j) av
  | np (a x : Nat) (o : VObj) (h : vget X a = some o) (hp : pl (.m a) = some x) : TR X pl (.np a) (.np x)
  | npD (a : Nat) (av : AV) (h : vget X a = none) (ha : a < X.length) : TR X pl (.np a) av
  | rp (cs : List TV) (as : List AV) (hl : cs.length = as.length) (h : ∀ (j : Nat) (c : TV) (a : AV), cs[j]? = some c → as[j]? = some a → TR X pl c a) : TR X pl (.rp cs) (.rp as)
  | lt (es : Nat) (cs : List (List TV)) (as : List (List AV)) (hl : cs.length = as.length) (h0 : cs ≠ []) (hz : ∀ e ∈ cs, e.length = es) (hz' : ∀ e ∈ as, e.length = es)
      (h : ∀ (i j : Nat) (e : List TV) (f : List AV) (c : TV) (a : AV), cs[i]? = some e → as[i]? = some f → e[j]? = some c → f[j]? = some a → TR X pl c a) : TR X pl (.lt cs) (.rd es as)
  | ag (cs : List TV) (as : List AV) (hl : cs.length = as.length) (h : ∀ (j : Nat) (c : TV) (a : AV), cs[j]? = some c → as[j]? = some a → TR X pl c a) : TR X pl (.ag cs) (.agg as)
  | tp (cs : List TV) (as : List AV) (hl : cs.length = as.length) (h : ∀ (j : Nat) (c : TV) (a : AV), cs[j]? = some c → as[j]? = some a → TR X pl c a) : TR X pl (.tp cs) (.tup as)
  | clo (g : Nat) (cs : List TV) (as : List AV) (hl : cs.length = as.length) (h : ∀ (j : Nat) (c : TV) (a : AV), cs[j]? = some c → as[j]? = some a → TR X pl c a) : TR X pl (.clo g cs) (.clo g as)
def CC (e e' : List AV) : Prop := e.length = e'.length ∧ ∀ (j : Nat) (x x' : AV), e[j]? = some x → e'[j]? = some x' → Coe x x'
def Rows (el : List (List AV)) (c : Cs) (l : List c.den) : Prop :=
  el.length = l.length ∧ ∀ (i : Nat) (e : List AV) (v : c.den), el[i]? = some e → l[i]? = some v → CC e (c.enc v)
def CT (X : VHeap) (pl : Pl) (cs : List TV) (as : List AV) : Prop :=
  cs.length = as.length ∧ ∀ (j : Nat) (c : TV) (a : AV), cs[j]? = some c → as[j]? = some a → TR X pl c a
def OR (X : VHeap) (pl : Pl) (H : Heap) (a : Nat) : VObj → Prop
  | .sq c l => ∃ x el, pl (.m a) = some x ∧ H[x]? = some (some ⟨c.width, el⟩) ∧ 0 < c.width ∧ Rows el c l
  | .fm c _ hole l => ∃ x el, pl (.m a) = some x ∧ H[x]? = some (some ⟨1, el⟩) ∧ 0 < c.width ∧ el.length = l.length ∧
      (∀ e ∈ el, e.length = 1) ∧
      (∀ (i : Nat) (e : List AV) (v : List c.den), el[i]? = some e → l[i]? = some v → hole ≠ some i →
        (∃ y el', pl (.n a i) = some y ∧ e = [.ref y 0 v.length] ∧ H[y]? = some (some ⟨c.width, el'⟩) ∧ Rows el' c v) ∨ (pl (.n a i) = none ∧ v = [] ∧ e = [.emp]))
  | .st cs => ∃ x e, pl (.m a) = some x ∧ H[x]? = some (some ⟨cs.length, [e]⟩) ∧ 0 < cs.length ∧ CT X pl cs e
  | .sb s => ∃ x, pl (.m a) = some x ∧ H[x]? = some (some ⟨0, strA s⟩)
def Live (X : VHeap) : Pos → Prop
  | .m a => ∃ o, vget X a = some o
  | .n a i => ∃ c ver hole l, vget X a = some (.fm c ver hole l) ∧ i < l.length ∧ hole ≠ some i
structure HRel (Fr : Nat → Prop) (H0 : Heap) (X : VHeap) (pl : Pl) (H : Heap) : Prop where
  obj : ∀ a o, vget X a = some o → OR X pl H a o
  inj : ∀ p q x, pl p = some x → pl q = some x → p = q
  own : ∀ p x, pl p = some x → Live X p
  fr : ∀ x, Fr x → x < H0.length ∧ H[x]? = H0[x]?
  nfr : ∀ p x, pl p = some x → ¬ Fr x
  le : H0.length ≤ H.length
structure Ext (X : VHeap) (pl : Pl) (X' : VHeap) (pl' : Pl) : Prop where
  le : X.length ≤ X'.length
  keep : ∀ a, a < X.length → vget X' a = none ∨ ∃ o o', vget X a = some o ∧ vget X' a = some o' ∧ elN o' = elN o ∧ lenO o' = lenO o ∧ pl' (.m a) = pl (.m a) ∧ isFm o' = isFm o ∧
    ∀ c ver hole l, o' = .fm c ver hole l → ∃ ver0 hole0 l0, o = .fm c ver0 hole0 l0 ∧ l.length = l0.length ∧ (ver0 < ver ∨ (ver0 = ver ∧ (hole = none → hole0 = none ∧ ∀ i, (l.getD i []).length = (l0.getD i []).length ∧ pl' (.n a i) = pl (.n a i))))
theorem vget_lt : ∀ {X : VHeap} {a : Nat} {o : VObj}, vget X a = some o → a < X.length
  | [], _, _, h => by simp [vget] at h
  | _ :: _, 0, _, _ => by simp
  | _ :: r, a + 1, o, h => by simp only [vget] at h; have := vget_lt h; simp; omega
theorem Ext.sub {X : VHeap} {pl : Pl} {X' : VHeap} {pl' : Pl} (hx : Ext X pl X' pl') {a ver : Nat} {c : Cs} {l : List (List c.den)} (h : vget X a = some (.fm c ver none l)) :
    DeadV X' a ver ∨ ∃ l', vget X' a = some (.fm c ver none l') ∧ l'.length = l.length ∧ ∀ i, (l'.getD i []).length = (l.getD i []).length ∧ pl' (.n a i) = pl (.n a i) := by
  rcases hx.keep a (vget_lt h) with h' | ⟨o1, o', h1, h2, h3, h4, h5, h7, h6⟩
  · exact .inl (fun o ho => by rw [h'] at ho; cases ho)
  · rw [h] at h1; injection h1 with h1; subst h1
    cases o' with
    | sq c' l' => cases h7
    | st cs => cases h7
    | sb s => cases h7
    | fm c' ver' hole' l' =>
      obtain ⟨ver0, hole0, l0, e1, e2, e3⟩ := h6 c' ver' hole' l' rfl
      injection e1 with e1 e5 e6 e4
      subst e1; have e4 := eq_of_heq e4; subst e4; subst e5; subst e6
      rcases e3 with e3 | ⟨rfl, e3⟩
      · exact .inl (fun o ho => by rw [h2] at ho; injection ho with ho; exact ⟨_, _, _, _, ho.symm, .inl e3⟩)
      · cases hole' with
        | none => exact .inr ⟨l', h2, e2, (e3 rfl).2⟩
        | some q => exact .inl (fun o ho => by rw [h2] at ho; injection ho with ho; exact ⟨_, _, _, _, ho.symm, .inr ⟨rfl, by simp⟩⟩)
theorem Ext.dead {X : VHeap} {pl : Pl} {X' : VHeap} {pl' : Pl} (hx : Ext X pl X' pl') {a ver : Nat} (ha : a < X.length) (h : DeadV X a ver) : DeadV X' a ver := by
  intro o ho
  rcases hx.keep a ha with h' | ⟨o1, o', h1, h2, h3, h4, h5, h7, h6⟩
  · rw [h'] at ho; cases ho
  · rw [h2] at ho; injection ho with ho; subst ho
    obtain ⟨c, ver', hole, l, rfl, hd⟩ := h o1 h1
    cases o' with
    | sq c' l' => cases h7
    | st cs => cases h7
    | sb s => cases h7
    | fm c' ver2 hole' l' =>
      refine ⟨_, _, _, _, rfl, ?_⟩
      obtain ⟨ver0, hole0, l0, e1, e2, e3⟩ := h6 c' ver2 hole' l' rfl
      injection e1 with e1 e5 e6 e4
      subst e5; subst e6
      rcases e3 with e3 | ⟨rfl, e3⟩
      · rcases hd with hd | ⟨rfl, hd⟩
        · exact .inl (by omega)
        · exact .inl e3
      · rcases hd with hd | ⟨rfl, hd⟩
        · exact .inl hd
        · exact .inr ⟨rfl, fun e => hd (e3 e).1⟩
theorem TR.ext {X : VHeap} {pl : Pl} {X' : VHeap} {pl' : Pl} (hx : Ext X pl X' pl') {v : TV} {a : AV} (h : TR X pl v a) : TR X' pl' v a := by
  induction h with
  | i k n => exact .i k n
  | b x => exact .b x
  | s x => exact .s x
  | l c v a h => exact .l c v a h
  | e c => exact .e c
  | u a => exact .u a
  | v x => exact .v x
  | ref a x o n h hn hp =>
    rcases hx.keep a (vget_lt h) with h' | ⟨o1, o', h1, h2, h3, h4, h5, _, _⟩
    · exact .refD _ _ h' (Nat.lt_of_lt_of_le (vget_lt h) hx.le)
    · rw [h] at h1; injection h1 with h1; subst h1
      exact .ref a x o' n h2 (h4.trans hn) (h5.trans hp)
  | refD a av h ha =>
    rcases hx.keep a ha with h' | ⟨o1, o', h1, _⟩
    · exact .refD _ _ h' (Nat.lt_of_lt_of_le ha hx.le)
    · rw [h] at h1; cases h1
  | pre a x m o n h hn hp h0 hm =>
    rcases hx.keep a (vget_lt h) with h' | ⟨o1, o', h1, h2, h3, h4, h5, _, _⟩
    · exact .preD _ _ _ h' (Nat.lt_of_lt_of_le (vget_lt h) hx.le)
    · rw [h] at h1; injection h1 with h1; subst h1
      exact .pre a x m o' n h2 (h4.trans hn) (h5.trans hp) h0 hm
  | preD a m av h ha =>
    rcases hx.keep a ha with h' | ⟨o1, o', h1, _⟩
    · exact .preD _ _ _ h' (Nat.lt_of_lt_of_le ha hx.le)
    · rw [h] at h1; cases h1
  | sub a ver i y c l h hi hp =>
    have hlt := Nat.lt_of_lt_of_le (vget_lt h) hx.le
    rcases hx.sub h with hd | ⟨l', h1, h2, h3⟩
    · exact .subD _ _ _ _ hd hlt
    · rw [← (h3 i).1]
      exact .sub a ver i y c l' h1 (by omega) ((h3 i).2.trans hp)
  | sube a ver i c l h hi hp h0 =>
    have hlt := Nat.lt_of_lt_of_le (vget_lt h) hx.le
    rcases hx.sub h with hd | ⟨l', h1, h2, h3⟩
    · exact .subD _ _ _ _ hd hlt
    · refine .sube a ver i c l' h1 (by omega) ((h3 i).2.trans hp) (List.length_eq_zero_iff.1 ?_)
      rw [(h3 i).1, h0]; rfl
  | subD a ver i av h ha => exact .subD _ _ _ _ (hx.dead ha h) (Nat.lt_of_lt_of_le ha hx.le)
  | ptr a i j x o h hi hp =>
    rcases hx.keep a (vget_lt h) with h' | ⟨o1, o', h1, h2, h3, h4, h5, _, _⟩
    · exact .ptrD _ _ _ _ h' (Nat.lt_of_lt_of_le (vget_lt h) hx.le)
    · rw [h] at h1; injection h1 with h1; subst h1
      exact .ptr a i j x o' h2 (by omega) (h5.trans hp)
  | ptrD a i j av h ha =>
    rcases hx.keep a ha with h' | ⟨o1, o', h1, _⟩
    · exact .ptrD _ _ _ _ h' (Nat.lt_of_lt_of_le ha hx.le)
    · rw [h] at h1; cases h1
  | pti a ver i k j y c l h hi hk hp =>
    have hlt := Nat.lt_of_lt_of_le (vget_lt h) hx.le
    rcases hx.sub h with hd | ⟨l', h1, h2, h3⟩
    · exact .ptiD _ _ _ _ _ _ hd hlt
    · exact .pti a ver i k j y c l' h1 (by omega) (by have := (h3 i).1; omega) ((h3 i).2.trans hp)
  | ptiD a ver i k j av h ha => exact .ptiD _ _ _ _ _ _ (hx.dead ha h) (Nat.lt_of_lt_of_le ha hx.le)
  | np a x o h hp =>
    rcases hx.keep a (vget_lt h) with h' | ⟨o1, o', h1, h2, h3, h4, h5, _, _⟩
    · exact .npD _ _ h' (Nat.lt_of_lt_of_le (vget_lt h) hx.le)
    · exact .np a x o' h2 (h5.trans hp)
  | npD a av h ha =>
    rcases hx.keep a ha with h' | ⟨o1, o', h1, _⟩
    · exact .npD _ _ h' (Nat.lt_of_lt_of_le ha hx.le)
    · rw [h] at h1; cases h1
  | rp cs as hl h ih => exact .rp cs as hl ih
  | lt es cs as hl h0 hz hz' h ih => exact .lt es cs as hl h0 hz hz' ih
  | ag cs as hl h ih => exact .ag cs as hl ih
  | tp cs as hl h ih => exact .tp cs as hl ih
  | clo g cs as hl h ih => exact .clo g cs as hl ih
theorem CT.ext {X : VHeap} {pl : Pl} {X' : VHeap} {pl' : Pl} (hx : Ext X pl X' pl') {cs : List TV} {as : List AV} (h : CT X pl cs as) : CT X' pl' cs as :=
  ⟨h.1, fun j c a h1 h2 => (h.2 j c a h1 h2).ext hx⟩
theorem Ext.refl (X : VHeap) (pl : Pl) : Ext X pl X pl := by
  refine ⟨Nat.le_refl _, fun a _ => ?_⟩
  cases h : vget X a with
  | none => exact .inl rfl
  | some o => exact .inr ⟨o, o, rfl, rfl, rfl, rfl, rfl, rfl, fun c ver hole l e => ⟨ver, hole, l, e, rfl, .inr ⟨rfl, fun h => ⟨h, fun i => ⟨rfl, rfl⟩⟩⟩⟩⟩
theorem Ext.trans {A : VHeap} {p : Pl} {B : VHeap} {q : Pl} {C : VHeap} {r : Pl} (h : Ext A p B q) (k : Ext B q C r) : Ext A p C r := by
  refine ⟨Nat.le_trans h.le k.le, fun a ha => ?_⟩
  rcases k.keep a (Nat.lt_of_lt_of_le ha h.le) with k' | ⟨o2, o3, k1, k2, k3, k4, k5, k7, k6⟩
  · exact .inl k'
  · rcases h.keep a ha with h' | ⟨o1, o2', h1, h2, h3, h4, h5, h7, h6⟩
    · rw [k1] at h'; cases h'
    · rw [k1] at h2; injection h2 with h2; subst h2
      refine .inr ⟨o1, o3, h1, k2, k3.trans h3, k4.trans h4, k5.trans h5, k7.trans h7, fun c ver hole l e => ?_⟩
      obtain ⟨v0, q0, l0, e1, e2, e3⟩ := k6 c ver hole l e
      obtain ⟨v1, q1, l1, f1, f2, f3⟩ := h6 c v0 q0 l0 e1
      refine ⟨v1, q1, l1, f1, e2.trans f2, ?_⟩
      rcases e3 with e3 | ⟨rfl, e3⟩ <;> rcases f3 with f3 | ⟨rfl, f3⟩
      · exact .inl (by omega)
      · exact .inl e3
      · exact .inl f3
      · refine .inr ⟨rfl, fun hh => ?_⟩
        obtain ⟨g1, g2⟩ := e3 hh
        obtain ⟨g3, g4⟩ := f3 g1
        exact ⟨g3, fun i => ⟨(g2 i).1.trans (g4 i).1, (g2 i).2.trans (g4 i).2⟩⟩
end Go.Abs
namespace Go.Abs
open Go Go.RowKit
theorem vset_len : ∀ (X : VHeap) (a : Nat) (o : Option VObj), (vset X a o).length = X.length
  | [], _, _ => rfl
  | _ :: _, 0, _ => rfl
  | _ :: r, a + 1, o => by simp [vset, vset_len r a o]
theorem vget_set : ∀ {X : VHeap} {a : Nat} (o : Option VObj), a < X.length → vget (vset X a o) a = o
  | _ :: _, 0, _, _ => rfl
  | _ :: r, a + 1, o, h => by simp only [vset, vget]; exact vget_set o (by simpa using h)
theorem vget_set_ne : ∀ {X : VHeap} {a b : Nat} (o : Option VObj), a ≠ b → vget (vset X a o) b = vget X b
  | [], _, _, _, _ => rfl
  | _ :: _, 0, 0, _, h => absurd rfl h
  | _ :: _, 0, _ + 1, _, _ => rfl
  | _ :: _, _ + 1, 0, _, _ => rfl
  | _ :: r, a + 1, b + 1, o, h => by simp only [vset, vget]; exact vget_set_ne o (by omega)
theorem vget_app : ∀ {X : VHeap} {Y : VHeap} {a : Nat}, a < X.length → vget (X ++ Y) a = vget X a
  | _ :: _, _, 0, _ => rfl
  | _ :: r, Y, a + 1, h => by simp only [List.cons_append, vget]; exact vget_app (by simpa using h)
theorem vget_new : ∀ (X : VHeap) (o : Option VObj), vget (X ++ [o]) X.length = o
  | [], _ => rfl
  | _ :: r, o => by simp only [List.cons_append, List.length_cons, vget]; exact vget_new r o
theorem vget_ge : ∀ {X : VHeap} {a : Nat}, X.length ≤ a → vget X a = none
  | [], _, _ => rfl
  | _ :: r, 0, h => by simp at h
  | _ :: r, a + 1, h => by simp only [vget]; exact vget_ge (by simpa using h)
def plS (pl : Pl) (p : Pos) (x : Option Nat) : Pl := fun q => if q = p then x else pl q
def Pos.of : Pos → Nat
  | .m a => a
  | .n a _ => a
def plK (pl : Pl) (a : Nat) : Pl := fun q => if q.of = a then none else pl q
section
variable {Fr : Nat → Prop} {H0 : Heap} {X : VHeap} {pl : Pl} {H : Heap}
theorem HRel.lt (hr : HRel Fr H0 X pl H) {p : Pos} {x : Nat} (hp : pl p = some x) : ∃ o, H[x]? = some (some o) := by
  have hl := hr.own p x hp
  cases p with
  | m a =>
    obtain ⟨o, ho⟩ := hl
    have := hr.obj a o ho
    cases o with
    | sq c l => obtain ⟨y, el, h1, h2, _⟩ := this; rw [hp] at h1; injection h1 with h1; subst h1; exact ⟨_, h2⟩
    | fm c ver hole l => obtain ⟨y, el, h1, h2, _⟩ := this; rw [hp] at h1; injection h1 with h1; subst h1; exact ⟨_, h2⟩
    | st cs => obtain ⟨y, el, h1, h2, _⟩ := this; rw [hp] at h1; injection h1 with h1; subst h1; exact ⟨_, h2⟩
    | sb s => obtain ⟨y, h1, h2⟩ := this; rw [hp] at h1; injection h1 with h1; subst h1; exact ⟨_, h2⟩
  | n a i =>
    obtain ⟨c, ver, hole, l, ho, hi, hne⟩ := hl
    obtain ⟨y, el, h1, h2, h3, h4, h5, h6⟩ := hr.obj a _ ho
    have hi' : i < el.length := by omega
    rcases h6 i el[i] l[i] (List.getElem?_eq_getElem hi') (List.getElem?_eq_getElem hi) hne with ⟨y', el', k1, _, k3, _⟩ | ⟨k1, _⟩
    · rw [hp] at k1; injection k1 with k1; subst k1; exact ⟨_, k3⟩
    · rw [hp] at k1; cases k1
theorem HRel.bd (hr : HRel Fr H0 X pl H) {p : Pos} {x : Nat} (hp : pl p = some x) : x < H.length := by
  obtain ⟨o, ho⟩ := hr.lt hp
  exact (List.getElem?_eq_some_iff.1 ho).1
theorem HRel.dead (hr : HRel Fr H0 X pl H) {p : Pos} (h : vget X p.of = none) : pl p = none := by
  cases hp : pl p with
  | none => rfl
  | some x =>
    have := hr.own p x hp
    cases p with
    | m a => obtain ⟨o, ho⟩ := this; simp only [Pos.of] at h; rw [h] at ho; cases ho
    | n a i => obtain ⟨_, _, _, _, ho, _⟩ := this; simp only [Pos.of] at h; rw [h] at ho; cases ho
theorem OR.keep {X' : VHeap} {pl' : Pl} {H' : Heap} {a : Nat} {o : VObj} (h : OR X pl H a o) (hx : Ext X pl X' pl') (hp : ∀ p, p.of = a → pl' p = pl p)
    (hH : ∀ p x, p.of = a → pl p = some x → H'[x]? = H[x]?) : OR X' pl' H' a o := by
  cases o with
  | sq c l =>
    obtain ⟨x, el, h1, h2, h3, h4⟩ := h
    exact ⟨x, el, (hp _ rfl).trans h1, (hH _ x rfl h1).trans h2, h3, h4⟩
  | fm c ver hole l =>
    obtain ⟨x, el, h1, h2, h3, h4, h5, h6⟩ := h
    refine ⟨x, el, (hp _ rfl).trans h1, (hH _ x rfl h1).trans h2, h3, h4, h5, fun i e v k1 k2 k3 => ?_⟩
    rcases h6 i e v k1 k2 k3 with ⟨y, el', g1, g2, g3, g4⟩ | ⟨g1, g2, g3⟩
    · exact .inl ⟨y, el', (hp _ rfl).trans g1, g2, (hH _ y rfl g1).trans g3, g4⟩
    · exact .inr ⟨(hp _ rfl).trans g1, g2, g3⟩
  | st cs =>
    obtain ⟨x, e, h1, h2, h3, h4⟩ := h
    exact ⟨x, e, (hp _ rfl).trans h1, (hH _ x rfl h1).trans h2, h3, h4.ext hx⟩
  | sb s =>
    obtain ⟨x, h1, h2⟩ := h
    exact ⟨x, (hp _ rfl).trans h1, (hH _ x rfl h1).trans h2⟩
theorem hr_push (hr : HRel Fr H0 X pl H) (o : VObj) (O : AObj) (ho : Ext X pl (X ++ [some o]) (plS pl (.m X.length) (some H.length)) → OR (X ++ [some o]) (plS pl (.m X.length) (some H.length)) (H ++ [some O]) X.length o) :
    HRel Fr H0 (X ++ [some o]) (plS pl (.m X.length) (some H.length)) (H ++ [some O]) ∧ Ext X pl (X ++ [some o]) (plS pl (.m X.length) (some H.length)) := by
  have hx : Ext X pl (X ++ [some o]) (plS pl (.m X.length) (some H.length)) := by
    refine ⟨by simp, fun a ha => ?_⟩
    have hne : (Pos.m a : Pos) ≠ .m X.length := fun e => by injection e with e; omega
    cases h : vget X a with
    | none => exact .inl (by rw [vget_app ha]; exact h)
    | some o1 =>
      refine .inr ⟨o1, o1, rfl, by rw [vget_app ha]; exact h, rfl, rfl, by unfold plS; rw [if_neg hne], rfl, fun c ver hole l e => ⟨ver, hole, l, e, rfl, .inr ⟨rfl, fun h => ⟨h, fun i => ⟨rfl, by unfold plS; rw [if_neg (fun e => by cases e)]⟩⟩⟩⟩⟩
  refine ⟨⟨fun a o1 h1 => ?_, fun p q x hp hq => ?_, fun p x hp => ?_, fun x hx' => ?_, fun p x hp => ?_, ?_⟩, hx⟩
  · by_cases e : a = X.length
    · subst e
      rw [vget_new] at h1; injection h1 with h1; subst h1; exact ho hx
    · have ha : a < X.length := by
        have := vget_lt h1; simp at this; omega
      rw [vget_app ha] at h1
      refine (hr.obj a o1 h1).keep hx (fun p hp => ?_) (fun p x hp hpx => ?_)
      · unfold plS; rw [if_neg (fun h => e (by subst h; exact hp.symm))]
      · rw [List.getElem?_append_left (hr.bd hpx)]
  · unfold plS at hp hq
    split at hp <;> split at hq
    · rename_i h1 h2; rw [h1, h2]
    · injection hp with hp; subst hp; have := hr.bd hq; omega
    · injection hq with hq; subst hq; have := hr.bd hp; omega
    · exact hr.inj p q x hp hq
  · unfold plS at hp
    split at hp
    · rename_i h; subst h; exact ⟨o, vget_new X _⟩
    · have := hr.own p x hp
      cases p with
      | m a => obtain ⟨o1, h1⟩ := this; exact ⟨o1, by rw [vget_app (vget_lt h1)]; exact h1⟩
      | n a i => obtain ⟨c, ver, hole, l, h1, h2⟩ := this; exact ⟨c, ver, hole, l, by rw [vget_app (vget_lt h1)]; exact h1, h2⟩
  · have h1 := hr.fr x hx'
    have := hr.le
    exact ⟨h1.1, by rw [List.getElem?_append_left (by omega)]; exact h1.2⟩
  · unfold plS at hp
    split at hp
    · injection hp with hp; subst hp; intro hf; have := (hr.fr _ hf).1; have := hr.le; omega
    · exact hr.nfr p x hp
  · have := hr.le; simp; omega
theorem hr_kill (hr : HRel Fr H0 X pl H) {a x : Nat} {o : VObj} (ha : vget X a = some o) (hp : pl (.m a) = some x) :
    HRel Fr H0 (vset X a none) (plK pl a) (H.set x none) ∧ Ext X pl (vset X a none) (plK pl a) := by
  have hal := vget_lt ha
  have hx : Ext X pl (vset X a none) (plK pl a) := by
    refine ⟨by rw [vset_len]; exact Nat.le_refl _, fun b hb => ?_⟩
    by_cases e : b = a
    · subst e; exact .inl (vget_set _ hal)
    · rw [vget_set_ne _ (Ne.symm e)]
      cases h : vget X b with
      | none => exact .inl rfl
      | some o1 => exact .inr ⟨o1, o1, rfl, rfl, rfl, rfl, by unfold plK; rw [if_neg (by simpa [Pos.of] using e)], rfl, fun c ver hole l e' => ⟨ver, hole, l, e', rfl, .inr ⟨rfl, fun h => ⟨h, fun i => ⟨rfl, by unfold plK; rw [if_neg (by simpa [Pos.of] using e)]⟩⟩⟩⟩⟩
  have hk : ∀ {p y}, plK pl a p = some y → p.of ≠ a ∧ pl p = some y := by
    intro p y h
    unfold plK at h
    split at h
    · cases h
    · exact ⟨by assumption, h⟩
  have hyx : ∀ {p y}, p.of ≠ a → pl p = some y → y ≠ x := fun h1 h2 e => by
    subst e
    have := hr.inj _ _ _ h2 hp
    subst this; exact h1 rfl
  refine ⟨⟨fun b o1 h1 => ?_, fun p q y h1 h2 => hr.inj p q y (hk h1).2 (hk h2).2, fun p y h1 => ?_, fun y hy => ?_, fun p y h1 => hr.nfr p y (hk h1).2, by have := hr.le; simpa using this⟩, hx⟩
  · have hb : b ≠ a := fun e => by subst e; rw [vget_set _ hal] at h1; cases h1
    rw [vget_set_ne _ (Ne.symm hb)] at h1
    refine (hr.obj b o1 h1).keep hx (fun p hpb => ?_) (fun p y hpb hpy => ?_)
    · unfold plK; rw [if_neg (by rw [hpb]; exact hb)]
    · rw [List.getElem?_set_ne (Ne.symm (hyx (by rw [hpb]; exact hb) hpy))]
  · obtain ⟨h2, h3⟩ := hk h1
    have := hr.own p y h3
    cases p with
    | m b => obtain ⟨o1, k1⟩ := this; exact ⟨o1, by rw [vget_set_ne _ (show a ≠ b from fun e => h2 e.symm)]; exact k1⟩
    | n b i => obtain ⟨c, ver, hole, l, k1, k2⟩ := this; exact ⟨c, ver, hole, l, by rw [vget_set_ne _ (show a ≠ b from fun e => h2 e.symm)]; exact k1, k2⟩
  · have h1 := hr.fr y hy
    refine ⟨h1.1, ?_⟩
    rw [List.getElem?_set_ne (fun e => hr.nfr _ _ hp (by rw [e]; exact hy))]
    exact h1.2
theorem hr_set (hr : HRel Fr H0 X pl H) {a x : Nat} {o o' : VObj} (ha : vget X a = some o) (hp : pl (.m a) = some x) (O : AObj) (hn : elN o' = elN o) (hl : lenO o' = lenO o) (hnf : ∀ c v h l, o' ≠ .fm c v h l) (hnf0 : ∀ c v h l, o ≠ .fm c v h l)
    (ho : Ext X pl (vset X a (some o')) pl → OR (vset X a (some o')) pl (H.set x (some O)) a o') :
    HRel Fr H0 (vset X a (some o')) pl (H.set x (some O)) ∧ Ext X pl (vset X a (some o')) pl := by
  have hal := vget_lt ha
  have hx : Ext X pl (vset X a (some o')) pl := by
    refine ⟨by rw [vset_len]; exact Nat.le_refl _, fun b hb => ?_⟩
    by_cases e : b = a
    · subst e; exact .inr ⟨o, o', ha, vget_set _ hal, hn, hl, rfl, by cases o <;> cases o' <;> first | rfl | exact absurd rfl (hnf _ _ _ _) | exact absurd rfl (hnf0 _ _ _ _), fun c ver hole l e => absurd e (hnf _ _ _ _)⟩
    · rw [vget_set_ne _ (Ne.symm e)]
      cases h : vget X b with
      | none => exact .inl rfl
      | some o1 => exact .inr ⟨o1, o1, rfl, rfl, rfl, rfl, rfl, rfl, fun c ver hole l e' => ⟨ver, hole, l, e', rfl, .inr ⟨rfl, fun h => ⟨h, fun i => ⟨rfl, rfl⟩⟩⟩⟩⟩
  have hno : ∀ {p y}, p.of = a → pl p = some y → p = .m a := by
    intro p y h1 h2
    have := hr.own p y h2
    cases p with
    | m b => simp only [Pos.of] at h1; rw [h1]
    | n b i =>
      simp only [Pos.of] at h1; subst h1
      obtain ⟨c, v, h, l, k, _⟩ := this
      rw [ha] at k; injection k with k; exact absurd k (hnf0 _ _ _ _)
  refine ⟨⟨fun b o1 h1 => ?_, hr.inj, fun p y h1 => ?_, fun y hy => ?_, hr.nfr, by have := hr.le; simpa using this⟩, hx⟩
  · by_cases e : b = a
    · subst e
      rw [vget_set _ hal] at h1; injection h1 with h1; subst h1; exact ho hx
    · rw [vget_set_ne _ (Ne.symm e)] at h1
      refine (hr.obj b o1 h1).keep hx (fun p _ => rfl) (fun p y hpb hpy => ?_)
      rw [List.getElem?_set_ne (fun e' => e (by subst e'; have := hr.inj _ _ _ hpy hp; subst this; exact hpb.symm))]
  · have := hr.own p y h1
    by_cases e : p.of = a
    · have := hno e h1; subst this; exact ⟨o', vget_set _ hal⟩
    · cases p with
      | m b => obtain ⟨o1, k1⟩ := this; exact ⟨o1, by rw [vget_set_ne _ (show a ≠ b from fun e' => e e'.symm)]; exact k1⟩
      | n b i => obtain ⟨c, ver, hole, l, k1, k2⟩ := this; exact ⟨c, ver, hole, l, by rw [vget_set_ne _ (show a ≠ b from fun e' => e e'.symm)]; exact k1, k2⟩
  · have h1 := hr.fr y hy
    refine ⟨h1.1, ?_⟩
    rw [List.getElem?_set_ne (fun e => hr.nfr _ _ hp (by rw [e]; exact hy))]
    exact h1.2
end
end Go.Abs
namespace Go.Abs
open Go Go.RowKit
def K1.av : K1 → AV
  | .i k n => .v (.int k n)
  | .b x => .v (.bool x)
  | .s x => .v (.string x)
  | .e _ => .emp
  | .v x => .v x
def K1.val : K1 → Value
  | .i k n => .int k n
  | .b x => .bool x
  | .s x => .string x
  | .e _ => .slice none 0 0
  | .v x => x
def KC.av : KC → AV
  | .one k => k.av
  | .ag l => .agg (l.map K1.av)
  | .tp l => .tup (l.map K1.av)
  | .f g => .clo g []
  | .v x => .v x
def VOpd.er : VOpd → Opd
  | .t n => .t n
  | .c k => .c k.av
theorem k1_zc {k : K1} (h : k.ok = true) : zc k.val = k.av := by
  cases k with
  | v x => cases x <;> first | rfl | cases h
  | _ => rfl
theorem CT.nil {X : VHeap} {pl : Pl} : CT X pl [] [] := ⟨rfl, fun j c a h => by simp at h⟩
theorem CT.cons {X : VHeap} {pl : Pl} {c : TV} {cs : List TV} {a : AV} {as : List AV} (h : TR X pl c a) (k : CT X pl cs as) : CT X pl (c :: cs) (a :: as) := by
  refine ⟨by simp [k.1], fun j c' a' h1 h2 => ?_⟩
  cases j with
  | zero => simp at h1 h2; subst h1; subst h2; exact h
  | succ j => simp at h1 h2; exact k.2 j c' a' h1 h2
theorem CT.inv {X : VHeap} {pl : Pl} {c : TV} {cs : List TV} {as : List AV} (h : CT X pl (c :: cs) as) : ∃ a r, as = a :: r ∧ TR X pl c a ∧ CT X pl cs r := by
  cases as with
  | nil => have := h.1; simp at this
  | cons a r => exact ⟨a, r, rfl, h.2 0 c a rfl rfl, by simpa using h.1, fun j c' a' h1 h2 => h.2 (j + 1) c' a' h1 h2⟩
theorem CT.get {X : VHeap} {pl : Pl} {cs : List TV} {as : List AV} (h : CT X pl cs as) {j : Nat} {c : TV} (hj : cs[j]? = some c) : ∃ a, as[j]? = some a ∧ TR X pl c a := by
  have hl : j < cs.length := (List.getElem?_eq_some_iff.1 hj).1
  have hl' : j < as.length := by rw [← h.1]; exact hl
  exact ⟨as[j], List.getElem?_eq_getElem hl', h.2 j c _ hj (List.getElem?_eq_getElem hl')⟩
theorem CT.take {X : VHeap} {pl : Pl} {cs : List TV} {as : List AV} (h : CT X pl cs as) (n : Nat) : CT X pl (cs.take n) (as.take n) := by
  refine ⟨by simp [h.1], fun j c a h1 h2 => ?_⟩
  rw [List.getElem?_take] at h1 h2
  split at h1
  · rename_i hj; rw [if_pos hj] at h2; exact h.2 j c a h1 h2
  · cases h1
theorem CT.drop {X : VHeap} {pl : Pl} {cs : List TV} {as : List AV} (h : CT X pl cs as) (n : Nat) : CT X pl (cs.drop n) (as.drop n) := by
  refine ⟨by simp [h.1], fun j c a h1 h2 => ?_⟩
  rw [List.getElem?_drop] at h1 h2
  exact h.2 _ c a h1 h2
theorem CT.append {X : VHeap} {pl : Pl} {cs ds : List TV} {as bs : List AV} (h : CT X pl cs as) (k : CT X pl ds bs) : CT X pl (cs ++ ds) (as ++ bs) := by
  refine ⟨by simp [h.1, k.1], fun j c a h1 h2 => ?_⟩
  by_cases hj : j < cs.length
  · rw [List.getElem?_append_left hj] at h1
    rw [List.getElem?_append_left (by rw [← h.1]; exact hj)] at h2
    exact h.2 j c a h1 h2
  · rw [List.getElem?_append_right (by omega)] at h1
    rw [List.getElem?_append_right (by rw [← h.1]; omega), ← h.1] at h2
    exact k.2 _ c a h1 h2
theorem CT.spl {X : VHeap} {pl : Pl} {l cs : List TV} {as bs : List AV} (h : CT X pl l as) (k : CT X pl cs bs) (j : Nat) : CT X pl (spl l j cs) (splice as j bs) := by
  unfold Go.Abs.spl splice
  rw [← k.1]
  exact ((h.take j).append k).append (h.drop _)
theorem CT.map1 {X : VHeap} {pl : Pl} (l : List K1) : CT X pl (l.map K1.tv) (l.map K1.av) := by
  induction l with
  | nil => exact .nil
  | cons k r ih =>
    refine .cons ?_ ih
    cases k <;> first | exact .i _ _ | exact .b _ | exact .s _ | exact .e _ | exact .v _
section
variable {X : VHeap} {pl : Pl}
theorem kc_ok (k : KC) : TR X pl k.tv k.av := by
  cases k with
  | one k => cases k <;> first | exact .i _ _ | exact .b _ | exact .s _ | exact .e _ | exact .v _
  | ag l => have h := CT.map1 (X := X) (pl := pl) l; exact .ag _ _ h.1 h.2
  | tp l => have h := CT.map1 (X := X) (pl := pl) l; exact .tp _ _ h.1 h.2
  | f g => exact .clo g _ _ rfl (fun j c a h => by simp at h)
  | v x => exact .v x
def ERel (X : VHeap) (pl : Pl) (env : VEnv) (ae : Env) : Prop := ∀ t, TR X pl (vlook env t) (lookE ae t)
theorem ERel.ext {X' : VHeap} {pl' : Pl} {env : VEnv} {ae : Env} (h : ERel X pl env ae) (hx : Ext X pl X' pl') : ERel X' pl' env ae := fun t => (h t).ext hx
theorem vo_ok {env : VEnv} {ae : Env} (h : ERel X pl env ae) (x : VOpd) : TR X pl (vo env x) (opd ae x.er) := by
  cases x with
  | t n => exact h n
  | c k => exact kc_ok k
theorem coe_rd {a : AV} {es : Nat} {l : List (List AV)} (h : Coe a (.rd es l)) : (a = .emp ∧ l = []) ∨ ∃ l0, a = .rd es l0 ∧ l0.length = l.length ∧ ∀ (i : Nat) (e e' : List AV), l0[i]? = some e → l[i]? = some e' → CC e e' := by
  generalize hb : AV.rd es l = b at h
  cases h with
  | refl => subst hb; exact .inr ⟨l, rfl, rfl, fun i e e' h1 h2 => by rw [h1] at h2; injection h2 with h2; subst h2; exact ⟨rfl, fun j x x' h3 h4 => by rw [h3] at h4; injection h4 with h4; subst h4; exact .refl _⟩⟩
  | empRd es => injection hb with _ h2; exact .inl ⟨rfl, h2⟩
  | rd es l0 l' hl hz h => injection hb with h1 h2; subst h1; subst h2; exact .inr ⟨l0, rfl, hl, fun i e e' h1 h2 => ⟨hz i e e' h1 h2, fun j x x' h3 h4 => h i e e' j x x' h1 h2 h3 h4⟩⟩
  | _ => cases hb
theorem coe_v {a : AV} {x : Value} (h : Coe a (.v x)) : a = .v x := by cases h; rfl
theorem tv_ok {t : Ty} {v : t.den} {a : AV} (h : Coe a (t.enc v)) : TR X pl (tvOf t v) a := by
  cases t with
  | i k => simp only [Ty.enc] at h; rw [coe_v h]; exact .i _ _
  | b => simp only [Ty.enc] at h; rw [coe_v h]; exact .b _
  | s => simp only [Ty.enc] at h; rw [coe_v h]; exact .s _
  | l c => simp only [Ty.enc] at h; exact .l c v a h
theorem cells_ok : ∀ (c : Cs) (v : c.den) {e : List AV}, CC e (c.enc v) → CT X pl (cells c v) e
  | .nil, v, e, h => by
    have := h.1
    simp only [Cs.enc, List.length_nil] at this
    rw [List.length_eq_zero_iff.1 this]; exact .nil
  | .cons t r, v, e, h => by
    cases e with
    | nil => have := h.1; simp [Cs.enc] at this
    | cons a as =>
      simp only [cells]
      refine .cons (tv_ok (h.2 0 a _ rfl (by simp [Cs.enc]))) (cells_ok r _ ⟨by have := h.1; simpa [Cs.enc] using this, fun j x x' h1 h2 => h.2 (j + 1) x x' h1 (by simpa [Cs.enc] using h2)⟩)
theorem cells_len (c : Cs) (v : c.den) : (cells c v).length = c.width := by
  induction c using Cs.rec (motive_1 := fun _ => True) with
  | nil => rfl
  | cons t r _ ih => simp only [cells, List.length_cons, Cs.width, ih]
  | _ => trivial
theorem asL_ok {c c' : Cs} {l : List c.den} {l' : List c'.den} (h : asL c c' l = some l') : ∃ e : c = c', e ▸ l = l' := by
  unfold asL at h
  obtain ⟨e, h1⟩ := Ty.cast_some h
  injection e with e
  subst e
  exact ⟨rfl, h1⟩
theorem cond_ok {β : Type} {b : Bool} {x : Option β} {r : β} (h : (bif b then x else none) = some r) : b = true ∧ x = some r := by
  cases b with
  | false => cases h
  | true => exact ⟨rfl, h⟩
theorem toD_ok {t : Ty} {tv : TV} {a : AV} {x : t.den} (h : toD t tv = some x) (hr : TR X pl tv a) : Coe a (t.enc x) := by
  cases t with
  | i k =>
    cases tv with
    | i k' n =>
      obtain ⟨h1, h2⟩ := cond_ok (b := decide (k' = k)) (x := some n) (by exact h)
      have := of_decide_eq_true h1; subst this
      injection h2 with h2; subst h2
      cases hr; exact .refl _
    | _ => cases h
  | b =>
    cases tv with
    | b y => have h : some y = some x := h; injection h with h; subst h; cases hr; exact .refl _
    | _ => cases h
  | s =>
    cases tv with
    | s y => have h : some y = some x := h; injection h with h; subst h; cases hr; exact .refl _
    | _ => cases h
  | l c =>
    cases tv with
    | l c' v =>
      obtain ⟨e, h1⟩ := asL_ok (c := c') (c' := c) (l := v) (l' := x) h
      subst e; subst h1
      cases hr with
      | l _ _ _ h => exact h
    | e c' =>
      have h : (bif c'.eqb c then some ([] : List c.den) else none) = some x := h
      obtain ⟨h1, h2⟩ := cond_ok h
      injection h2 with h2; subst h2
      cases hr; exact .empRd _
    | _ => cases h
theorem pack_ok : ∀ {c : Cs} {cs : List TV} {as : List AV} {v : c.den}, pack c cs = some v → CT X pl cs as → CC as (c.enc v)
  | .nil, [], as, v, h, hc => by
    have := hc.1
    cases as with
    | nil => exact ⟨rfl, fun j x x' h => by simp at h⟩
    | cons _ _ => simp at this
  | .cons t r, a :: cs, as, v, h, hc => by
    obtain ⟨b, bs, rfl, h1, h2⟩ := hc.inv
    simp only [pack] at h
    split at h
    · rename_i x y hx hy
      injection h with h; subst h
      have k1 := toD_ok hx h1
      have k2 := pack_ok hy h2
      simp only [Cs.enc, fst_mk, snd_mk]
      refine ⟨by simp [k2.1], fun j x x' g1 g2 => ?_⟩
      cases j with
      | zero => simp at g1 g2; subst g1; subst g2; exact k1
      | succ j => simp at g1 g2; exact k2.2 j x x' g1 g2
    · cases h
  | .nil, _ :: _, _, _, h, _ => by simp [pack] at h
  | .cons _ _, [], _, _, h, _ => by simp [pack] at h
theorem pack_len : ∀ {c : Cs} {cs : List TV} {v : c.den}, pack c cs = some v → cs.length = c.width
  | .nil, [], _, _ => rfl
  | .cons t r, a :: cs, v, h => by
    simp only [pack] at h
    split at h
    · rename_i x y hx hy; simp only [List.length_cons, Cs.width, pack_len hy]
    · cases h
  | .nil, _ :: _, _, h => by simp [pack] at h
  | .cons _ _, [], _, h => by simp [pack] at h
def CE (X : VHeap) (pl : Pl) (cs : List (List TV)) (as : List (List AV)) : Prop :=
  cs.length = as.length ∧ ∀ (i : Nat) (e : List TV) (f : List AV), cs[i]? = some e → as[i]? = some f → CT X pl e f
theorem packs_ok : ∀ {c : Cs} {cs : List (List TV)} {as : List (List AV)} {l : List c.den}, packs c cs = some l → CE X pl cs as → Rows as c l
  | c, [], as, l, h, hc => by
    simp only [packs] at h; injection h with h; subst h
    have := hc.1
    cases as with
    | nil => exact ⟨rfl, fun i e v h => by simp at h⟩
    | cons _ _ => simp at this
  | c, a :: cs, as, l, h, hc => by
    cases as with
    | nil => have := hc.1; simp at this
    | cons b bs =>
      simp only [packs] at h
      split at h
      · rename_i x y hx hy
        injection h with h; subst h
        have k1 := pack_ok hx (hc.2 0 a b rfl rfl)
        have k2 := packs_ok hy (as := bs) ⟨by simpa using hc.1, fun i e f h1 h2 => hc.2 (i + 1) e f h1 h2⟩
        refine ⟨by simp [k2.1], fun i e v h1 h2 => ?_⟩
        cases i with
        | zero => simp at h1 h2; subst h1; subst h2; exact k1
        | succ i => simp at h1 h2; exact k2.2 i e v h1 h2
      · cases h
theorem vcells_ok {tv : TV} {a : AV} {cs : List TV} (h : vcells X tv = some cs) (hr : TR X pl tv a) : ∃ as, cellsOf a = some as ∧ CT X pl cs as := by
  have one : ∀ {tv a}, TR X pl tv a → CT X pl [tv] [a] := fun h => .cons h .nil
  cases tv with
  | i k n => simp only [vcells] at h; injection h with h; subst h; have hr' := hr; cases hr'; exact ⟨_, by simp [cellsOf, Value.oneCell'], one hr⟩
  | b x => simp only [vcells] at h; injection h with h; subst h; have hr' := hr; cases hr'; exact ⟨_, by simp [cellsOf, Value.oneCell'], one hr⟩
  | s x => simp only [vcells] at h; injection h with h; subst h; have hr' := hr; cases hr'; exact ⟨_, by simp [cellsOf, Value.oneCell'], one hr⟩
  | l c v =>
    simp only [vcells] at h; injection h with h; subst h
    have hr' := hr
    cases hr' with
    | l _ _ _ hc =>
      rcases coe_rd hc with ⟨rfl, _⟩ | ⟨l0, rfl, _⟩ <;> exact ⟨_, by simp [cellsOf], one hr⟩
  | e c => simp only [vcells] at h; injection h with h; subst h; have hr' := hr; cases hr'; exact ⟨_, by simp [cellsOf], one hr⟩
  | u => simp [vcells] at h
  | v x =>
    simp only [vcells] at h
    cases hx : x.oneCell' with
    | false => simp [hx] at h
    | true => simp [hx] at h; subst h; have hr' := hr; cases hr'; exact ⟨_, by simp [cellsOf, hx], one hr⟩
  | ref a =>
    simp only [vcells] at h
    cases ho : vget X a with
    | none => simp [ho] at h
    | some o =>
      simp [ho] at h; subst h
      have hr' := hr
      cases hr' with
      | ref => exact ⟨_, by simp [cellsOf], one hr⟩
      | refD _ _ h => rw [ho] at h; cases h
  | pre a n =>
    simp only [vcells] at h
    cases ho : vget X a with
    | none => simp [ho] at h
    | some o =>
      simp [ho] at h; subst h
      have hr' := hr
      cases hr' with
      | pre => exact ⟨_, by simp [cellsOf], one hr⟩
      | preD _ _ _ h => rw [ho] at h; cases h
  | ptr a i j =>
    simp only [vcells] at h
    cases ho : vget X a with
    | none => simp [ho] at h
    | some o =>
      simp [ho] at h; subst h
      have hr' := hr
      cases hr' with
      | ptr => exact ⟨_, by simp [cellsOf], one hr⟩
      | ptrD _ _ _ _ h => rw [ho] at h; cases h
  | np a =>
    simp only [vcells] at h
    cases ho : vget X a with
    | none => simp [ho] at h
    | some o =>
      simp [ho] at h; subst h
      have hr' := hr
      cases hr' with
      | np => exact ⟨_, by simp [cellsOf], one hr⟩
      | npD _ _ h => rw [ho] at h; cases h
  | sub _ _ _ => simp [vcells] at h
  | pti _ _ _ _ _ => simp [vcells] at h
  | lt _ => simp [vcells] at h
  | tp _ => simp [vcells] at h
  | ag ds => simp only [vcells] at h; injection h with h; subst h; cases hr with
    | ag _ as hl h => exact ⟨as, by simp [cellsOf], hl, h⟩
  | rp ds => simp only [vcells] at h; injection h with h; subst h; have hr' := hr; cases hr'; exact ⟨_, by simp [cellsOf], one hr⟩
  | clo g ds => simp only [vcells] at h; injection h with h; subst h; have hr' := hr; cases hr'; exact ⟨_, by simp [cellsOf], one hr⟩
theorem loadC_ok {g : Bool} {n : Nat} {cs : List TV} {as : List AV} {v : TV} {K : AV → Prop} (h : loadC g n cs = some v) (hc : CT X pl cs as) (hk : ∀ a, TR X pl v a → K a) : loadK g n as K := by
  cases g with
  | true =>
    simp only [loadC] at h
    cases hn : Nat.ble n cs.length with
    | false => rw [hn, cond_false] at h; cases h
    | true =>
      rw [hn, cond_true] at h; injection h with h; subst h
      exact ⟨by rw [← hc.1]; simpa using hn, hk _ (.ag _ _ (hc.take n).1 (hc.take n).2)⟩
  | false =>
    simp only [loadC] at h
    obtain ⟨a, h1, h2⟩ := hc.get h
    exact ⟨a, h1, hk a h2⟩
theorem chk_ok {β : Type} {p : Prop} [Decidable p] {x : Option β} {r : β} (h : chk p x = some r) : p ∧ x = some r := by
  unfold chk at h
  by_cases hp : p
  · rw [decide_eq_true hp, cond_true] at h; exact ⟨hp, h⟩
  · rw [decide_eq_false hp, cond_false] at h; cases h
theorem ba_loop (bs : ByteArray) : ∀ (m i : Nat) (r : List UInt8), bs.size - i = m → ByteArray.toList.loop bs i r = r.reverse ++ bs.data.toList.drop i
  | 0, i, r, h => by
    unfold ByteArray.toList.loop
    have h2 : ¬ i < bs.size := by omega
    rw [if_neg h2, List.drop_of_length_le (by simp; change bs.data.size ≤ i; have : bs.size = bs.data.size := rfl; omega), List.append_nil]
  | m + 1, i, r, h => by
    unfold ByteArray.toList.loop
    have h2 : i < bs.size := by omega
    have h3 : i < bs.data.toList.length := by simp; exact h2
    rw [if_pos h2, ba_loop bs m (i + 1) _ (by omega), List.drop_eq_getElem_cons h3]
    simp only [List.reverse_cons, List.append_assoc, List.singleton_append]
    congr 2
    simp only [ByteArray.get!]
    cases bs with
    | mk d => simp only [Array.getElem_toList]; rw [getElem!_pos d i (by simpa using h3)]
theorem byteArray_toList (bs : ByteArray) : bs.toList = bs.data.toList := by
  have := ba_loop bs _ 0 [] rfl
  simpa [ByteArray.toList] using this
theorem str_eq (x y : ByteArray) : (x.toList == y.toList) = decide (x = y) := by
  rw [Bool.eq_iff_iff, beq_iff_eq, decide_eq_true_iff]
  constructor
  · intro h
    have h2 : ∀ z : ByteArray, z.toList = z.data.toList := fun z => byteArray_toList z
    rw [h2, h2] at h
    cases x; cases y
    simp only [ByteArray.mk.injEq]
    exact Array.toList_inj.1 h
  · rintro rfl; rfl
variable {β : Type} {r : β}
theorem vint_ok {op : BinOp} {k : IntKind} {x y : Int} {K : TV → Option β} (h : vint op k x y K = some r) {KA : Value → Prop} (hk : ∀ w z, K w = some r → TR X pl w (.v z) → KA z) : intBin op k x y KA := by
  cases op <;> simp only [vint] at h
  case quo => obtain ⟨h1, h2⟩ := chk_ok h; exact ⟨h1, hk _ _ h2 (.i _ _)⟩
  case rem => obtain ⟨h1, h2⟩ := chk_ok h; exact ⟨h1, hk _ _ h2 (.i _ _)⟩
  case shl => obtain ⟨h1, h2⟩ := chk_ok h; exact ⟨h1, hk _ _ h2 (.i _ _)⟩
  case shr => obtain ⟨h1, h2⟩ := chk_ok h; exact ⟨h1, hk _ _ h2 (.i _ _)⟩
  case eql => simp only [intBin]; rw [show (x == y) = decide (x = y) from by rw [Bool.eq_iff_iff]; simp]; exact hk _ _ h (.b _)
  case neq => simp only [intBin]; rw [show (x != y) = !decide (x = y) from by rw [Bool.eq_iff_iff]; simp]; exact hk _ _ h (.b _)
  all_goals exact hk _ _ h (by constructor)
theorem vstr_ok {op : BinOp} {x y : ByteArray} {K : TV → Option β} (h : vstr op x y K = some r) {KA : Value → Prop} (hk : ∀ w z, K w = some r → TR X pl w (.v z) → KA z) : strBin op x y KA := by
  cases op <;> simp only [vstr] at h
  case add => obtain ⟨h1, h2⟩ := chk_ok h; exact ⟨Int.ofNat_le.2 (Nat.le_of_ble_eq_true h1), hk _ _ h2 (.s _)⟩
  all_goals first
    | (simp only [strBin, str_eq]; exact hk _ _ h (.b _))
    | cases h
theorem vbin_ok {op : BinOp} {a b : TV} {va vb : AV} {K : TV → Option β} (h : vbin op a b K = some r) (ha : TR X pl a va) (hb : TR X pl b vb) {KA : Value → Prop}
    (hk : ∀ w z, K w = some r → TR X pl w (.v z) → KA z) : binK op va vb KA := by
  unfold vbin at h
  split at h
  · obtain ⟨h1, h2⟩ := cond_ok h
    cases ha; cases hb
    exact ⟨of_decide_eq_true h1, vint_ok h2 hk⟩
  · cases ha; cases hb
    exact vstr_ok h hk
  · cases h
theorem eqV_ok : ∀ {ks : List Nat} {cs ds : List TV} {as bs : List AV} {x : Bool}, eqV ks cs ds = some x → CT X pl cs as → CT X pl ds bs → eqL ks as bs = some x
  | [], [], [], as, bs, x, h, h1, h2 => by
    have k1 := h1.1; have k2 := h2.1
    cases as <;> cases bs <;> simp at k1 k2
    simpa [eqV, eqL] using h
  | k :: ks, a :: cs, b :: ds, as, bs, x, h, h1, h2 => by
    obtain ⟨va, vas, rfl, g1, g2⟩ := h1.inv
    obtain ⟨vb, vbs, rfl, g3, g4⟩ := h2.inv
    simp only [eqV] at h
    split at h
    · rename_i x1 y1 hx hy
      simp only [eqL, eqV_ok hy g2 g4]
      have : eqAV k va vb = some x1 := by
        unfold eqV1 at hx
        split at hx
        · cases g1; cases g3; simpa [eqAV] using hx
        · obtain ⟨e1, e2⟩ := cond_ok hx
          have := of_decide_eq_true e1; subst this
          cases g1; cases g3
          simp only [eqAV, if_true]
          rw [← e2]; rw [Option.some.injEq, Bool.eq_iff_iff]; simp
        · cases g1; cases g3
          simp only [eqAV, str_eq]; exact hx
        · cases hx
      rw [this]; exact h
    · cases h
  | [], [], _ :: _, _, _, _, h, _, _ => by simp [eqV] at h
  | [], _ :: _, _, _, _, _, h, _, _ => by simp [eqV] at h
  | _ :: _, [], _, _, _, _, h, _, _ => by simp [eqV] at h
  | _ :: _, _ :: _, [], _, _, _, h, _, _ => by simp [eqV] at h
theorem mmV_ok {mx : Bool} {k : IntKind} : ∀ {l : List TV} {as : List AV} {m : Int} {v : TV}, mmV mx k m l = some v → CT X pl l as → ∃ a, mmF mx k m as = some a ∧ TR X pl v a
  | [], as, m, v, h, hc => by
    have := hc.1
    cases as with
    | nil => simp only [mmV] at h; injection h with h; subst h; exact ⟨_, rfl, .i _ _⟩
    | cons _ _ => simp at this
  | a :: l, as, m, v, h, hc => by
    obtain ⟨b, bs, rfl, h1, h2⟩ := hc.inv
    unfold mmV at h
    split at h
    · rename_i he; cases he
    · rename_i _ _ k' n r' he
      injection he with e1 e2; subst e1; subst e2
      cases h1
      simp only [mmF]
      have := mmV_ok h h2
      cases mx <;> exact this
    · cases h
end
end Go.Abs
