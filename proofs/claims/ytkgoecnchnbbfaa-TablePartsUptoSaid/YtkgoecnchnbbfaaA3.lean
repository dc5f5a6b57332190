/- Own slices that are data from then on. No condition. -/
import Derived.Test.YtkgoecnchnbbfaaA2
import Derived.KernelRfl
import Derived.Test.YtkgoecnchnbbfaaA1
set_option linter.unusedVariables false
set_option linter.unusedSimpArgs false
set_option linter.unusedSectionVars false
open List renaming getElem?_eq_some_iff → YzN, getElem?_eq_getElem → YzO, getElem?_map → YzP, mem_of_getElem? → YzQ, map_cons → YzR, getElem?_append_left → YzS, map_nil → YzT, getElem?_append_right → YzU, getElem?_set_ne → YzV, getD_eq_getElem?_getD → YzW, append_assoc → YzX, length_eq_zero_iff → YzY, getElem?_set_self → YzZ, mem_singleton → Yz0, mem_iff_getElem? → Yz1, mem_cons_self → Yz2, getElem?_take → Yz3, mem_cons → Yz4, mem_map → Yz5, mem_append → Yz6, length_map → Yz7, getElem?_drop → Yz8, all_eq_true → Yz9, getElem?_eq_none → YAa, length_cons → YAb, map_map → YAc, mem_append_left → YAd, cons_append → YAe, getElem?_range → YAf, take_length → YAg, mem_cons_of_mem → YAh, length_append → YAi, mem_iff_getElem → YAj, append_nil → YAk, getElem?_replicate → YAl, ext_getElem? → YAm, nil_append → YAn, mem_filter → YAo, map_append → YAp, any_eq_true → YAq, getElem?_cons_succ → YAr, drop_zero → YAs, pairwise_cons → YAt, getElem_mem → YAu, mem_of_mem_take → YAv, mem_append_right → YAw, getElem?_eq_none_iff → YAx
namespace Go.Abs
open Go Go.RowKit
mutual
inductive RefIn (A : Nat -> Prop) : AV -> Prop
 | ref (a off len : Nat) (h : A a) : RefIn A (.ref a off len)
 | ptr (a i j : Nat) (h : A a) : RefIn A (.ptr a i j)
 | np (a : Nat) (h : A a) : RefIn A (.np a)
 | v (x : Value) : RefIn A (.v x)
 | u : RefIn A .u
 | emp : RefIn A .emp
 | rd (es : Nat) (l : List (List AV)) (h : ∀ e ∈ l, ∀ x ∈ e, RefIn A x) : RefIn A (.rd es l)
 | rp (cs : List AV) (h : ∀ x ∈ cs, RefIn A x) : RefIn A (.rp cs)
 | agg (cs : List AV) (h : ∀ x ∈ cs, RefIn A x) : RefIn A (.agg cs)
 | tup (cs : List AV) (h : ∀ x ∈ cs, RefIn A x) : RefIn A (.tup cs)
 | clo (f : Nat) (cs : List AV) (h : ∀ x ∈ cs, RefIn A x) : RefIn A (.clo f cs)
end
theorem YkY {A : Nat -> Prop} {a : AV} (h : NR a) : RefIn A a := by
 induction h with
 | v x => exact .v x
 | u => exact .u
 | emp => exact .emp
 | rd es l h ih => exact .rd es l ih
 | rp cs h ih => exact .rp cs ih
 | agg cs h ih => exact .agg cs ih
 | tup cs h ih => exact .tup cs ih
 | clo f cs h ih => exact .clo f cs ih
theorem Yrv {A B : Nat -> Prop} (hAB : ∀ x, A x -> B x) {a : AV} (h : RefIn A a) : RefIn B a := by
 induction h with
 | ref a off len h => exact .ref a off len (hAB a h)
 | ptr a i j h => exact .ptr a i j (hAB a h)
 | np a h => exact .np a (hAB a h)
 | v x => exact .v x
 | u => exact .u
 | emp => exact .emp
 | rd es l h ih => exact .rd es l ih
 | rp cs h ih => exact .rp cs ih
 | agg cs h ih => exact .agg cs ih
 | tup cs h ih => exact .tup cs ih
 | clo f cs h ih => exact .clo f cs ih
theorem YkZ {ρ : Nat -> Nat} {Fz : Nat -> Prop} {H H' : HF} {A : Nat -> Prop} (hA : ∀ x, A x -> ρ x = x /\ ∃ o, H' x = some (some o)) {a : AV} (h : RefIn A a) : Cz ρ Fz H H' a a := by
 have list : ∀ {cs : List AV}, (∀ x ∈ cs, Cz ρ Fz H H' x x) -> ∀ (j : Nat) (x x' : AV), cs[j]? = some x -> cs[j]? = some x' -> Cz ρ Fz H H' x x' := by
  intro cs h j x x' h1 h2
  rw [h1] at h2; injection h2 with h2; subst h2
  exact h x (YzQ h1)
 induction h with
 | ref a off len h =>
   obtain ⟨h1, o, h2⟩ := hA a h
   have := Cz.ref (ρ := ρ) (Fz := Fz) (H := H) (H' := H') a off len o h2
   rwa [h1] at this
 | ptr a i j h =>
   obtain ⟨h1, o, h2⟩ := hA a h
   have := Cz.ptr (ρ := ρ) (Fz := Fz) (H := H) (H' := H') a i j o h2
   rwa [h1] at this
 | np a h =>
   obtain ⟨h1, o, h2⟩ := hA a h
   have := Cz.np (ρ := ρ) (Fz := Fz) (H := H) (H' := H') a o h2
   rwa [h1] at this
 | v x => exact .v x
 | u => exact .u _
 | emp => exact .emp
 | rd es l h ih =>
   refine .rd es l l rfl (fun i e e' h1 h2 => by rw [h1] at h2; injection h2 with h2; rw [h2]) (fun i e e' j x x' h1 h2 h3 h4 => ?_)
   rw [h1] at h2; injection h2 with h2; subst h2
   exact list (ih e (YzQ h1)) j x x' h3 h4
 | rp cs h ih => exact .rp cs cs rfl (list ih)
 | agg cs h ih => exact .agg cs cs rfl (list ih)
 | tup cs h ih => exact .tup cs cs rfl (list ih)
 | clo f cs h ih => exact .clo f cs cs rfl (list ih)
def FrOK (Fr : Nat -> Prop) (H : Heap) : Prop := ∀ x, Fr x -> (∃ o, H[x]? = some (some o)) /\ ∀ o, H[x]? = some (some o) -> ∀ e ∈ o.el, ∀ c ∈ e, RefIn Fr c
theorem YcM {P : TV -> AV -> AV -> Prop} : ∀ (cs : List TV) (as : List AV), cs.length = as.length -> (∀ (j : Nat) (c : TV) (a : AV), cs[j]? = some c -> as[j]? = some a -> ∃ a', P c a a') ->
  ∃ as' : List AV, as'.length = as.length /\ ∀ (j : Nat) (c : TV) (a a' : AV), cs[j]? = some c -> as[j]? = some a -> as'[j]? = some a' -> P c a a'
 | [], [], _, _ => ⟨[], rfl, fun j c a a' h => by simp at h⟩
 | c :: cs, a :: as, hl, h => by
   obtain ⟨as', h1, h2⟩ := YcM cs as (by simpa using hl) (fun j c a k1 k2 => h (j + 1) c a k1 k2)
   obtain ⟨a', h3⟩ := h 0 c a rfl rfl
   refine ⟨a' :: as', by simp [h1], fun j c1 a1 a2 k1 k2 k3 => ?_⟩
   cases j with
   | zero => simp at k1 k2 k3; subst k1; subst k2; subst k3; exact h3
   | succ j => simp at k1 k2 k3; exact h2 j c1 a1 a2 k1 k2 k3
 | [], _ :: _, hl, _ => by simp at hl
 | _ :: _, [], hl, _ => by simp at hl
theorem Ybn (X : YwG) (F : List Nat) : ∀ l : List TV, Yyg X F l = l.map (frzA X F)
 | [] => rfl
 | a :: r => by simp [Yyg, Ybn X F r]
theorem Yk0 (X : YwG) : ∀ F : List Nat, (Yx0 X F).length = X.length
 | [] => rfl
 | a :: r => by simp only [Yx0]; rw [Yae, Yk0 X r]
theorem Yk1 (X : YwG) : ∀ (F : List Nat) (a : Nat), vget (Yx0 X F) a = if a ∈ F then none else vget X a
 | [], a => by simp [Yx0]
 | b :: r, a => by
   simp only [Yx0]
   by_cases e : b = a
   ·subst e
    rw [if_pos (Yz2 ..)]
    by_cases hb : b < (Yx0 X r).length
    ·exact Yax _ hb
    ·exact YaA (by rw [Yae]; omega)
   ·rw [Yao _ e, Yk1 X r a]
    simp [Ne.symm e]
theorem any_mem {F : List Nat} {a : Nat} : F.any (Nat.beq a) = true ↔ a ∈ F := by
 simp only [YAq]
 constructor
 ·rintro ⟨x, h1, h2⟩; rw [Nat.eq_of_beq_eq_true h2]; exact h1
 ·intro h; exact ⟨a, h, Nat.beq_refl a⟩
theorem Yrw {ρ : Nat -> Nat} {Fz : Nat -> Prop} {H H1 H2 : HF} (hl : ∀ a o, H1 a = some (some o) -> ∃ o', H2 a = some (some o')) {a b : AV} (h : Cz ρ Fz H H1 a b) : Cz ρ Fz H H2 a b := by
 induction h with
 | u a => exact .u a
 | v x => exact .v x
 | emp => exact .emp
 | empRd es => exact .empRd es
 | rd es l l' hl hz h ih => exact .rd es l l' hl hz ih
 | rp cs cs' hl h ih => exact .rp cs cs' hl ih
 | agg cs cs' hl h ih => exact .agg cs cs' hl ih
 | tup cs cs' hl h ih => exact .tup cs cs' hl ih
 | clo f cs cs' hl h ih => exact .clo f cs cs' hl ih
 | ref a off len o h => obtain ⟨o', h'⟩ := hl a o h; exact .ref a off len o' h'
 | ptr a i j o h => obtain ⟨o', h'⟩ := hl a o h; exact .ptr a i j o' h'
 | np a o h => obtain ⟨o', h'⟩ := hl a o h; exact .np a o' h'
 | frz i off len o l' hz ho hle hl hlz h ih => exact .frz i off len o l' hz ho hle hl hlz ih
section
variable {Fr : Nat -> Prop} {H0 : Heap} {X : YwG} {pl : Pl} {H : Heap} {F : List Nat}
abbrev frzX (X : YwG) (F : List Nat) : YwG := Yx0 (X.map (frzO X F)) F
def plF (pl : Pl) (F : List Nat) : Pl := fun p => if p.of ∈ F then none else pl p
theorem Yba (a : Nat) : vget (frzX X F) a = if a ∈ F then none else frzO X F (vget X a) := by
 unfold frzX
 rw [Yk1, YdP _ rfl]
theorem Ybb : (frzX X F).length = X.length := by unfold frzX; rw [Yk0]; simp
theorem YfQ {el : List (List AV)} {c : Cs} {l : List c.den} (h : Rows el c l) {Fz : Nat -> Prop} {h0 h1 : HF} {k : Nat} (hk : k <= l.length) :
  (∀ (i : Nat) (e e' : List AV), el[0 + i]? = some e -> ((l.take k).map c.enc)[i]? = some e' -> e.length = e'.length) /\
  (∀ (i : Nat) (e e' : List AV) (j : Nat) (x x' : AV), el[0 + i]? = some e -> ((l.take k).map c.enc)[i]? = some e' -> e[j]? = some x -> e'[j]? = some x' -> Cz id Fz h0 h1 x x') := by
 have key : ∀ {i : Nat} {e e' : List AV}, el[0 + i]? = some e -> ((l.take k).map c.enc)[i]? = some e' -> ∃ v, CC e (c.enc v) /\ e' = c.enc v := by
  intro i e e' h1 h2
  rw [YzP, Option.map_eq_some_iff] at h2
  obtain ⟨v, h2, rfl⟩ := h2
  rw [Yz3] at h2
  split at h2
  ·rw [Nat.zero_add] at h1; exact ⟨v, h.2 i e v h1 h2, rfl⟩
  ·cases h2
 refine ⟨fun i e e' h1 h2 => ?_, fun i e e' j x x' h1 h2 h3 h4 => ?_⟩
 ·obtain ⟨v, hv, rfl⟩ := key h1 h2; exact hv.1
 ·obtain ⟨v, hv, rfl⟩ := key h1 h2
  exact YbA (hv.2 j x x' h3 h4) (YbD c v x' (YzQ h4))
theorem YdR {Fz : Nat -> Prop} {h1 : HF} {a x : Nat} {c : Cs} {l : List c.den} (hr : HRel Fr H0 X pl H) (ho : vget X a = some (.sq c l)) (hp : pl (.m a) = some x) (hz : Fz x) {k : Nat} (hk : k <= l.length) :
  Cz id Fz (hf H) h1 (.ref x 0 k) (.rd c.width ((l.take k).map c.enc)) := by
 obtain ⟨x', el, e1, e2, e3, e4⟩ := hr.obj a _ ho
 rw [hp] at e1; injection e1 with e1; subst e1
 have := YfQ (Fz := Fz) (h0 := hf H) (h1 := h1) e4 hk
 have := Cz.frz (ρ := id) (Fz := Fz) (H := hf H) (H' := h1) x 0 k ⟨c.width, el⟩ _ hz e2 (by simp [e4.1]; omega) (by simp; omega) this.1 this.2
 rwa [show wd (AObj.es ⟨c.width, el⟩) = c.width from YaL e3] at this
theorem Yrx {el : List (List AV)} {c : Cs} {l : List c.den} (h : Rows el c l) {Fz : Nat -> Prop} {h0 h1 : HF} {x : Nat} {o : AObj} (ho : h0 x = some (some o)) (he : o.el = el) (hw : wd o.es = c.width) (hz : Fz x) :
  Cz id Fz h0 h1 (.ref x 0 l.length) (.rd c.width (l.map c.enc)) := by
 have := YfQ (Fz := Fz) (h0 := h0) (h1 := h1) h (k := l.length) (Nat.le_refl _)
 rw [YAg] at this
 subst he
 rw [<- hw]
 exact .frz x 0 l.length o _ hz ho (by rw [h.1]; omega) (by simp) this.1 this.2
theorem Yk2 {Fz : Nat -> Prop} {h1 : HF} {a x : Nat} {s : ByteArray} (hr : HRel Fr H0 X pl H) (ho : vget X a = some (.sb s)) (hp : pl (.m a) = some x) (hz : Fz x) :
  Cz id Fz (hf H) h1 (.ref x 0 s.size) (.rd U8.width ((strL s).map U8.enc)) := by
 obtain ⟨x', e1, e2⟩ := hr.obj a _ ho
 rw [hp] at e1; injection e1 with e1; subst e1
 have hL : (strL s).length = s.size := by rw [<- (Ya1 s).1]; exact strA_len' s
 rw [<- hL]
 exact Yrx (Ya1 s).rows e2 rfl rfl hz
theorem Yry (hr : HRel Fr H0 X pl H) {a : Nat} {s : ByteArray} (ha : vget X a = some (.sb s)) {p : Pos} {x : Nat} (hp : pl p = some x) (hpa : p.of = a) : p = .m a := by
 have := hr.own p x hp
 cases p with
 | m b => simp only [Pos.of] at hpa; rw [hpa]
 | n b i =>
   simp only [Pos.of] at hpa; subst hpa
   obtain ⟨c', v, h, l', k, _⟩ := this
   rw [ha] at k; injection k with k; cases k
theorem Yk3 {Fz : Nat -> Prop} {h1 : HF} {a x : Nat} {c : Cs} {ver : Nat} {l : List (List c.den)} (hr : HRel Fr H0 X pl H) (ho : vget X a = some (.fm c ver none l)) (hp : pl (.m a) = some x) (hz : ∀ p y, p.of = a -> pl p = some y -> Fz y) :
  Cz id Fz (hf H) h1 (.ref x 0 l.length) (.rd 1 (l.map fun v => [AV.rd c.width (v.map c.enc)])) := by
 obtain ⟨x', el, e1, e2, e3, e4, e5, e6⟩ := hr.obj a _ ho
 rw [hp] at e1; injection e1 with e1; subst e1
 have key : ∀ {i : Nat} {e e' : List AV}, el[0 + i]? = some e -> (l.map fun v => [AV.rd c.width (v.map c.enc)])[i]? = some e' -> e.length = e'.length /\ ∀ (j : Nat) (z z' : AV), e[j]? = some z -> e'[j]? = some z' -> Cz id Fz (hf H) h1 z z' := by
  intro i e e' k1 k2
  rw [YzP, Option.map_eq_some_iff] at k2
  obtain ⟨v, k2, rfl⟩ := k2
  rw [Nat.zero_add] at k1
  rcases e6 i e v k1 k2 (by simp) with ⟨y, el', g1, g2, g3, g4⟩ | ⟨g1, g2, g3⟩
  ·subst g2
   refine ⟨rfl, fun j z z' h1 h2 => ?_⟩
   cases j with
   | zero =>
     have hz1 : z = .ref y 0 v.length := by simpa using h1.symm
     have hz2 : z' = .rd c.width (v.map c.enc) := by
      simpa using h2.symm
     subst hz1; subst hz2
     have := YfQ (Fz := Fz) (h0 := hf H) (h1 := ‹HF›) g4 (k := v.length) (Nat.le_refl _)
     rw [YAg] at this
     have := Cz.frz (ρ := id) (Fz := Fz) (H := hf H) (H' := ‹HF›) y 0 v.length ⟨c.width, el'⟩ _ (hz _ y rfl g1) g3 (by simp [g4.1]) (by simp) this.1 this.2
     rwa [show wd (AObj.es ⟨c.width, el'⟩) = c.width from YaL e3] at this
   | succ j => simp at h1
  ·subst g2; subst g3
   refine ⟨rfl, fun j z z' h1 h2 => ?_⟩
   cases j with
   | zero =>
     have hz1 : z = .emp := by simpa using h1.symm
     have hz2 : z' = .rd c.width [] := by
      simpa using h2.symm
     subst hz1; subst hz2; exact .empRd _
   | succ j => simp at h1
 exact .frz x 0 l.length ⟨1, el⟩ _ (hz _ x rfl hp) e2 (by simp [e4]) (by simp) (fun i e e' k1 k2 => (key k1 k2).1) (fun i e e' j z z' k1 k2 k3 k4 => (key k1 k2).2 j z z' k3 k4)
theorem Yk4 (hr : HRel Fr H0 X pl H) (hF : ∀ a ∈ F, Yx1 X a = true) {h1 : HF} (hl : ∀ p x, plF pl F p = some x -> ∃ o, h1 x = some (some o)) {tv : TV} {av : AV} (h : TR X pl tv av) :
  ∃ av', Cz id (fun x => ∃ p : Pos, p.of ∈ F /\ pl p = some x) (hf H) h1 av av' /\ TR (frzX X F) (plF pl F) (frzA X F tv) av' := by
 have hseq : ∀ {a : Nat} {o : VObj}, a ∈ F -> vget X a = some o -> (∃ c l, o = .sq c l) \/ (∃ c v l, o = .fm c v none l) \/ ∃ s, o = .sb s := by
  intro a o h1 h2
  have := hF a h1
  unfold Yx1 at this
  rw [h2] at this
  cases o with
  | sq c l => exact .inl ⟨c, l, rfl⟩
  | fm c v hole l => cases hole with
    | none => exact .inr (.inl ⟨c, v, l, rfl⟩)
    | some i => cases this
  | st cs => cases this
  | sb s => exact .inr (.inr ⟨s, rfl⟩)
 have keep : ∀ {a : Nat} {o : VObj}, a ∉ F -> vget X a = some o -> ∃ o', vget (frzX X F) a = some o' /\ lenO o' = lenO o /\ elN o' = elN o := by
  intro a o h1 h2
  rw [Yba, if_neg h1, h2]
  cases o with
  | sq c l => exact ⟨_, rfl, rfl, rfl⟩
  | fm c v hole l => exact ⟨_, rfl, rfl, rfl⟩
  | st cs => exact ⟨_, rfl, rfl, rfl⟩
  | sb s => exact ⟨_, rfl, rfl, rfl⟩
 have dead : ∀ {a : Nat}, a ∈ F -> vget (frzX X F) a = none := fun h => by rw [Yba, if_pos h]
 have plk : ∀ {p : Pos}, p.of ∉ F -> plF pl F p = pl p := fun h => by unfold plF; rw [if_neg h]
 induction h with
 | i k n => exact ⟨_, .v _, .i k n⟩
 | b x => exact ⟨_, .v _, .b x⟩
 | s x => exact ⟨_, .v _, .s x⟩
 | l c v a h => exact ⟨.rd c.width (v.map c.enc), YbA h (YcA (.l c) v), .l c v _ (.refl _)⟩
 | e c => exact ⟨_, .emp, .e c⟩
 | u a => exact ⟨.u, .u _, .u _⟩
 | v x => exact ⟨_, .v _, .v x⟩
 | ref a x o n h hn hp =>
   by_cases ha : a ∈ F
   ·have hm : F.any (Nat.beq a) = true := any_mem.2 ha
    rcases hseq ha h with ⟨c, l, rfl⟩ | ⟨c, v, l, rfl⟩ | ⟨s, rfl⟩
    ·simp only [lenO] at hn; injection hn with hn; subst hn
     refine ⟨_, YdR hr h hp ⟨.m a, ha, hp⟩ (Nat.le_refl _), ?_⟩
     simp only [frzA, frzT, hm, cond_true, h, YAg]
     exact .l c l _ (.refl _)
    ·simp only [lenO] at hn; injection hn with hn; subst hn
     refine ⟨_, Yk3 hr h hp (fun p y e e2 => ⟨p, by rw [e]; exact ha, e2⟩), ?_⟩
     simp only [frzA, frzT, hm, cond_true, h]
     exact .l (.cons (.l c) .nil) l _ (.refl _)
    ·simp only [lenO] at hn; injection hn with hn; subst hn
     refine ⟨_, Yk2 hr h hp ⟨.m a, ha, hp⟩, ?_⟩
     simp only [frzA, frzT, hm, cond_true, h]
     exact .l U8 _ _ (.refl _)
   ·have hm : F.any (Nat.beq a) = false := by
     cases hq : F.any (Nat.beq a) with
     | false => rfl
     | true => exact absurd (any_mem.1 hq) ha
    obtain ⟨o', k1, k2, k3⟩ := keep ha h
    have hp' : plF pl F (.m a) = some x := (plk (p := .m a) ha).trans hp
    obtain ⟨q, hq⟩ := hl _ _ hp'
    refine ⟨_, .ref x 0 n q hq, ?_⟩
    simp only [frzA, frzT, hm, cond_false]
    exact .ref a x o' n k1 (k2.trans hn) hp'
 | refD a av h ha =>
   refine ⟨.u, .u _, ?_⟩
   have hnF : a ∉ F := fun hm => by have := hF a hm; unfold Yx1 at this; rw [h] at this; cases this
   have hm : F.any (Nat.beq a) = false := by
    cases hq : F.any (Nat.beq a) with
    | false => rfl
    | true => exact absurd (any_mem.1 hq) hnF
   simp only [frzA, frzT, hm, cond_false]
   exact .refD a _ (by rw [Yba, if_neg hnF, h]; rfl) (by rw [Ybb]; exact ha)
 | pre a x m o n h hn hp h0 hm' =>
   by_cases ha : a ∈ F
   ·have hm : F.any (Nat.beq a) = true := any_mem.2 ha
    rcases hseq ha h with ⟨c, l, rfl⟩ | ⟨c, v, l, rfl⟩ | ⟨s, rfl⟩
    ·simp only [lenO] at hn; injection hn with hn; subst hn
     refine ⟨_, YdR hr h hp ⟨.m a, ha, hp⟩ hm', ?_⟩
     simp only [frzA, frzT, hm, cond_true, h]
     exact .l c _ _ (.refl _)
    ·refine ⟨.u, .u _, ?_⟩
     simp only [frzA, frzT, hm, cond_true, h]
     exact .preD a _ _ (dead ha) (by rw [Ybb]; exact Yah h)
    ·refine ⟨.u, .u _, ?_⟩
     simp only [frzA, frzT, hm, cond_true, h]
     exact .preD a _ _ (dead ha) (by rw [Ybb]; exact Yah h)
   ·have hm : F.any (Nat.beq a) = false := by
     cases hq : F.any (Nat.beq a) with
     | false => rfl
     | true => exact absurd (any_mem.1 hq) ha
    obtain ⟨o', k1, k2, k3⟩ := keep ha h
    have hp' : plF pl F (.m a) = some x := (plk (p := .m a) ha).trans hp
    obtain ⟨q, hq⟩ := hl _ _ hp'
    refine ⟨_, .ref x 0 m.toNat q hq, ?_⟩
    simp only [frzA, frzT, hm, cond_false]
    exact .pre a x m o' n k1 (k2.trans hn) hp' h0 hm'
 | preD a m av h ha =>
   refine ⟨.u, .u _, ?_⟩
   have hnF : a ∉ F := fun hm => by have := hF a hm; unfold Yx1 at this; rw [h] at this; cases this
   have hm : F.any (Nat.beq a) = false := by
    cases hq : F.any (Nat.beq a) with
    | false => rfl
    | true => exact absurd (any_mem.1 hq) hnF
   simp only [frzA, frzT, hm, cond_false]
   exact .preD a _ _ (by rw [Yba, if_neg hnF, h]; rfl) (by rw [Ybb]; exact ha)
 | ptr a i j x o h hi hp =>
   by_cases ha : a ∈ F
   ·exact ⟨.u, .u _, .ptrD a i j _ (dead ha) (by rw [Ybb]; exact Yah h)⟩
   ·obtain ⟨o', k1, k2, k3⟩ := keep ha h
    have hp' : plF pl F (.m a) = some x := (plk (p := .m a) ha).trans hp
    obtain ⟨q, hq⟩ := hl _ _ hp'
    exact ⟨_, .ptr x i j q hq, .ptr a i j x o' k1 (by rw [k3]; exact hi) hp'⟩
 | ptrD a i j av h ha =>
   refine ⟨.u, .u _, .ptrD a i j _ ?_ (by rw [Ybb]; exact ha)⟩
   rw [Yba, h]; split <;> rfl
 | np a x o h hp =>
   by_cases ha : a ∈ F
   ·exact ⟨.u, .u _, .npD a _ (dead ha) (by rw [Ybb]; exact Yah h)⟩
   ·obtain ⟨o', k1, k2, k3⟩ := keep ha h
    have hp' : plF pl F (.m a) = some x := (plk (p := .m a) ha).trans hp
    obtain ⟨q, hq⟩ := hl _ _ hp'
    exact ⟨_, .np x q hq, .np a x o' k1 hp'⟩
 | npD a av h ha =>
   refine ⟨.u, .u _, .npD a _ ?_ (by rw [Ybb]; exact ha)⟩
   rw [Yba, h]; split <;> rfl
 | sub => exact ⟨.u, .u _, .u _⟩
 | sube => exact ⟨.u, .u _, .u _⟩
 | subD => exact ⟨.u, .u _, .u _⟩
 | pti => exact ⟨.u, .u _, .u _⟩
 | ptiD => exact ⟨.u, .u _, .u _⟩
 | rp => exact ⟨.u, .u _, .u _⟩
 | lt => exact ⟨.u, .u _, .u _⟩
 | ag cs as hl' h ih =>
   obtain ⟨as', k1, k2⟩ := YcM cs as hl' ih
   refine ⟨.agg as', .agg _ _ k1.symm (fun j x x' h1 h2 => ?_), ?_⟩
   ·obtain ⟨c, hc⟩ := Yab hl' h1
    exact (k2 j c x x' hc h1 h2).1
   ·simp only [frzA, Ybn]
    refine .ag _ _ (by simp [hl', k1]) (fun j c a h1 h2 => ?_)
    rw [YzP, Option.map_eq_some_iff] at h1
    obtain ⟨y, h1, rfl⟩ := h1
    obtain ⟨x, hx⟩ := Yab (hl'.symm) h1
    exact (k2 j y x a h1 hx h2).2
 | tp cs as hl' h ih =>
   obtain ⟨as', k1, k2⟩ := YcM cs as hl' ih
   refine ⟨.tup as', .tup _ _ k1.symm (fun j x x' h1 h2 => ?_), ?_⟩
   ·obtain ⟨c, hc⟩ := Yab hl' h1
    exact (k2 j c x x' hc h1 h2).1
   ·simp only [frzA, Ybn]
    refine .tp _ _ (by simp [hl', k1]) (fun j c a h1 h2 => ?_)
    rw [YzP, Option.map_eq_some_iff] at h1
    obtain ⟨y, h1, rfl⟩ := h1
    obtain ⟨x, hx⟩ := Yab (hl'.symm) h1
    exact (k2 j y x a h1 hx h2).2
 | clo g cs as hl' h ih =>
   obtain ⟨as', k1, k2⟩ := YcM cs as hl' ih
   refine ⟨.clo g as', .clo _ _ _ k1.symm (fun j x x' h1 h2 => ?_), ?_⟩
   ·obtain ⟨c, hc⟩ := Yab hl' h1
    exact (k2 j c x x' hc h1 h2).1
   ·simp only [frzA, Ybn]
    refine .clo g _ _ (by simp [hl', k1]) (fun j c a h1 h2 => ?_)
    rw [YzP, Option.map_eq_some_iff] at h1
    obtain ⟨y, h1, rfl⟩ := h1
    obtain ⟨x, hx⟩ := Yab (hl'.symm) h1
    exact (k2 j y x a h1 hx h2).2
def FrzS (X : YwG) (pl : Pl) (H : Heap) (F : List Nat) (h1 : HF) (x : Nat) (o' : AObj) : Prop :=
 (∃ a cs e e', a ∉ F /\ vget X a = some (.st cs) /\ pl (.m a) = some x /\ H[x]? = some (some ⟨cs.length, [e]⟩) /\ 0 < cs.length /\ cs.length = e.length /\ o' = ⟨cs.length, [e']⟩ /\ e'.length = e.length /\
  ∀ (j : Nat) (c : TV) (a1 a2 : AV), cs[j]? = some c -> e[j]? = some a1 -> e'[j]? = some a2 -> Cz id (fun x => ∃ p : Pos, p.of ∈ F /\ pl p = some x) (hf H) h1 a1 a2 /\ TR (frzX X F) (plF pl F) (frzA X F c) a2) \/
 (∃ p : Pos, p.of ∉ F /\ pl p = some x /\ (∀ a cs, p = .m a -> vget X a ≠ some (.st cs)) /\ H[x]? = some (some o'))
theorem Yrz {env : VEnv} {ae : Env} {b : Nat} (hFr : FrOK Fr H0) (he : ERel X pl env ae) (hr : HRel Fr H0 X pl H) (hF : ∀ a ∈ F, Yx1 X a = true) (hnh : ∀ {a c v h l}, vget X a = some (.fm c v h l) -> h = none) :
  ∃ ae' H', Wk ⟨ae, H, b⟩ ⟨ae', H', b⟩ /\ ERel (frzX X F) (plF pl F) (env.map fun p => (p.1, frzA X F p.2)) ae' /\ HRel Fr H0 (frzX X F) (plF pl F) H' := by
 classical
 let h1 : HF := fun x => if ∃ p, plF pl F p = some x then some (some ⟨1, []⟩) else none
 have hl : ∀ p x, plF pl F p = some x -> ∃ o, h1 x = some (some o) := fun p x h => ⟨_, if_pos ⟨p, h⟩⟩
 have ex : ∀ x, (∃ p, plF pl F p = some x) -> ∃ o', FrzS X pl H F h1 x o' := by
  rintro x ⟨p, hp⟩
  have hpF : p.of ∉ F /\ pl p = some x := by
   unfold plF at hp
   split at hp
   ·cases hp
   ·exact ⟨by assumption, hp⟩
  obtain ⟨o, ho⟩ := hr.lt hpF.2
  by_cases hs : ∃ a cs, p = .m a /\ vget X a = some (.st cs)
  ·obtain ⟨a, cs, rfl, hX⟩ := hs
   obtain ⟨x', e, e1, e2, e3, e4⟩ := hr.obj a _ hX
   rw [hpF.2] at e1; injection e1 with e1; subst e1
   obtain ⟨e', k1, k2⟩ := YcM (P := fun c a1 a2 => Cz id (fun x => ∃ p : Pos, p.of ∈ F /\ pl p = some x) (hf H) h1 a1 a2 /\ TR (frzX X F) (plF pl F) (frzA X F c) a2) cs e e4.1 (fun j c a g1 g2 => Yk4 hr hF hl (e4.2 j c a g1 g2))
   exact ⟨_, .inl ⟨a, cs, e, e', hpF.1, hX, hpF.2, e2, e3, e4.1, rfl, k1, k2⟩⟩
  ·exact ⟨o, .inr ⟨p, hpF.1, hpF.2, fun a cs e1 e2 => hs ⟨a, cs, e1, e2⟩, ho⟩⟩
 let obj : Nat -> Option AObj := fun x => if Fr x then (H[x]?).join else if h : ∃ p, plF pl F p = some x then some (Classical.choose (ex x h)) else none
 let H' : Heap := (List.range H.length).map obj
 have hget : ∀ {p x}, plF pl F p = some x -> ∃ o', H'[x]? = some (some o') /\ FrzS X pl H F h1 x o' := by
  intro p x hp
  have hx : ∃ p, plF pl F p = some x := ⟨p, hp⟩
  have hlt : x < H.length := by
   unfold plF at hp
   split at hp
   ·cases hp
   ·exact hr.bd hp
  refine ⟨Classical.choose (ex x hx), ?_, Classical.choose_spec (ex x hx)⟩
  show ((List.range H.length).map obj)[x]? = _
  rw [YzP, YAf hlt]
  have hnf : ¬ Fr x := by
   unfold plF at hp
   split at hp
   ·cases hp
   ·exact hr.nfr _ _ hp
  simp only [Option.map_some, obj, if_neg hnf, dif_pos hx]
 have hfrH : ∀ {x}, Fr x -> H'[x]? = H[x]? := by
  intro x hx
  have h1 := hr.fr x hx
  have hlt : x < H.length := Nat.lt_of_lt_of_le h1.1 hr.le
  obtain ⟨⟨o, ho⟩, _⟩ := hFr x hx
  show ((List.range H.length).map obj)[x]? = _
  rw [YzP, YAf hlt]
  simp only [Option.map_some, obj, if_pos hx, h1.2, ho, Option.join_some]
 have hinv : ∀ {x o'}, H'[x]? = some (some o') -> ¬ Fr x -> (∃ p, plF pl F p = some x) /\ FrzS X pl H F h1 x o' := by
  intro x o' h hnf
  have hlt : x < H.length := by have := (YzN.1 h).1; simpa [H'] using this
  have h' : obj x = some o' := by
   have : ((List.range H.length).map obj)[x]? = some (some o') := h
   rw [YzP, YAf hlt] at this
   simpa using this
  simp only [obj, if_neg hnf] at h'
  split at h'
  ·rename_i hx; injection h' with h'; subst h'; exact ⟨hx, Classical.choose_spec (ex x hx)⟩
  ·cases h'
 have hlen : H'.length = H.length := by simp [H']
 have hlive : ∀ a o, h1 a = some (some o) -> ∃ o', hf H' a = some (some o') := by
  intro a o h
  simp only [h1] at h
  split at h
  ·rename_i hp; obtain ⟨p, hp⟩ := hp; obtain ⟨o', h2, _⟩ := hget hp; exact ⟨o', h2⟩
  ·cases h
 have hp2 : ∀ {p : Pos} {x}, plF pl F p = some x -> p.of ∉ F /\ pl p = some x := by
  intro p x hp
  unfold plF at hp
  split at hp
  ·cases hp
  ·exact ⟨by assumption, hp⟩
 have hsame : ∀ {p : Pos} {x}, plF pl F p = some x -> (∀ a cs, p = .m a -> vget X a ≠ some (.st cs)) -> H'[x]? = H[x]? := by
  intro p x hp hns
  obtain ⟨o', k1, k2⟩ := hget hp
  rcases k2 with ⟨a, cs, e, e', _, hX, hpa, _⟩ | ⟨q, _, _, _, hH⟩
  ·have := hr.inj _ _ _ (hp2 hp).2 hpa
   exact absurd hX (hns a cs this)
  ·rw [k1, hH]
 have hcell : ∀ {a : Nat} {o : VObj}, (∀ cs, o ≠ .st cs) -> vget X a = some o -> ∀ {x : Nat} {ob : AObj}, (∃ p : Pos, p.of = a /\ pl p = some x) -> H[x]? = some (some ob) -> a ∉ F ->
   ∀ e ∈ ob.el, ∀ z ∈ e, Cz id (fun x => ∃ p : Pos, p.of ∈ F /\ pl p = some x) (hf H) (hf H') z z := by
  rintro a o hns hX x ob ⟨p, hpa, hp⟩ hH haF e he z hz
  obtain ⟨i, hi⟩ := Yz1.1 he
  have hil := (YzN.1 hi).1
  have hrow : ∀ {el : List (List AV)} {c : Cs} {l : List c.den}, Rows el c l -> el[i]? = some e -> Cz id (fun x => ∃ p : Pos, p.of ∈ F /\ pl p = some x) (hf H) (hf H') z z := by
   intro el c l hrw h1
   have hil := (YzN.1 h1).1
   have hil2 : i < l.length := by rw [<- hrw.1]; exact hil
   have hcc := hrw.2 i e l[i] h1 (YzO hil2)
   obtain ⟨j, hj⟩ := Yz1.1 hz
   obtain ⟨z', hz'⟩ := Yab hcc.1.symm hj
   exact Ykp (Ycq (hcc.2 j z z' hj hz') (YbD c _ z' (YzQ hz')))
  cases o with
  | st cs => exact absurd rfl (hns cs)
  | sb s =>
    have := Yry hr hX hp hpa; subst this
    obtain ⟨x', e1, e2⟩ := hr.obj a _ hX
    rw [hp] at e1; injection e1 with e1; subst e1
    rw [hH] at e2; injection e2 with e2; injection e2 with e2; subst e2
    exact hrow (Ya1 s).rows hi
  | sq c l =>
    have := YqS hr hX hp hpa; subst this
    obtain ⟨x', el, e1, e2, e3, e4⟩ := hr.obj a _ hX
    rw [hp] at e1; injection e1 with e1; subst e1
    rw [hH] at e2; injection e2 with e2; injection e2 with e2; subst e2
    exact hrow e4 hi
  | fm c ver hole l =>
    obtain ⟨x', el, e1, e2, e3, e4, e5, e6⟩ := hr.obj a _ hX
    rcases YcE hr hX hp hpa with rfl | ⟨k, rfl, hk, hkh⟩
    ·rw [hp] at e1; injection e1 with e1; subst e1
     rw [hH] at e2; injection e2 with e2; injection e2 with e2; subst e2
     have hil2 : i < l.length := by rw [<- e4]; exact hil
     have hh : hole ≠ some i := by rw [hnh hX]; simp
     rcases e6 i e l[i] hi (YzO hil2) hh with ⟨y, el', g1, g2, g3, g4⟩ | ⟨g1, g2, g3⟩
     ·subst g2; simp only [Yz0] at hz; subst hz
      obtain ⟨q, hq, _⟩ := hget (p := .n a i) (x := y) ((if_neg haF).trans g1)
      exact .ref y 0 _ q hq
     ·subst g3; simp only [Yz0] at hz; subst hz; exact .emp
    ·have hkl : k < el.length := by omega
     rcases e6 k el[k] l[k] (YzO hkl) (YzO hk) hkh with ⟨y, el', g1, g2, g3, g4⟩ | ⟨g1, _⟩
     ·rw [hp] at g1; injection g1 with g1; subst g1
      rw [hH] at g3; injection g3 with g3; injection g3 with g3; subst g3
      exact hrow g4 hi
     ·rw [hp] at g1; cases g1
 have hczl : ∀ {a b}, Cz id (fun x => ∃ p : Pos, p.of ∈ F /\ pl p = some x) (hf H) h1 a b -> Cz id (fun x => ∃ p : Pos, p.of ∈ F /\ pl p = some x) (hf H) (hf H') a b := fun h => Yrw hlive h
 have hHR : HRel (fun _ => False) [] (frzX X F) (plF pl F) H' := by
  refine ⟨fun a o h2 => ?_, fun p q x k1 k2 => hr.inj _ _ _ (hp2 k1).2 (hp2 k2).2, fun p x k1 => ?_, fun x h => h.elim, fun _ _ _ h => h, Nat.zero_le _⟩
  ·rw [Yba] at h2
   split at h2
   ·cases h2
   ·rename_i haF
    cases hX : vget X a with
    | none => rw [hX] at h2; cases h2
    | some o0 =>
      rw [hX] at h2
      have hpl : ∀ p : Pos, p.of = a -> plF pl F p = pl p := fun p e => by unfold plF; rw [if_neg (by rw [e]; exact haF)]
      have hob := hr.obj a o0 hX
      cases o0 with
      | sb s =>
        simp only [frzO] at h2; injection h2 with h2; subst h2
        obtain ⟨x, e1, e2⟩ := hob
        exact ⟨x, (hpl _ rfl).trans e1, (hsame ((hpl _ rfl).trans e1) (fun a' cs e => by injection e with e; subst e; rw [hX]; simp)).trans e2⟩
      | sq c l =>
        simp only [frzO] at h2; injection h2 with h2; subst h2
        obtain ⟨x, el, e1, e2, e3, e4⟩ := hob
        exact ⟨x, el, (hpl _ rfl).trans e1, (hsame ((hpl _ rfl).trans e1) (fun a' cs e => by injection e with e; subst e; rw [hX]; simp)).trans e2, e3, e4⟩
      | fm c v hole l =>
        simp only [frzO] at h2; injection h2 with h2; subst h2
        obtain ⟨x, el, e1, e2, e3, e4, e5, e6⟩ := hob
        refine ⟨x, el, (hpl _ rfl).trans e1, (hsame ((hpl _ rfl).trans e1) (fun a' cs e => by injection e with e; subst e; rw [hX]; simp)).trans e2, e3, e4, e5, fun i e v' k1 k2 k3 => ?_⟩
        rcases e6 i e v' k1 k2 k3 with ⟨y, el', g1, g2, g3, g4⟩ | ⟨g1, g2, g3⟩
        ·exact .inl ⟨y, el', (hpl _ rfl).trans g1, g2, (hsame ((hpl _ rfl).trans g1) (fun a' cs e => by cases e)).trans g3, g4⟩
        ·exact .inr ⟨(hpl _ rfl).trans g1, g2, g3⟩
      | st cs =>
        simp only [frzO] at h2; injection h2 with h2; subst h2
        obtain ⟨x, e, e1, e2, e3, e4⟩ := hob
        obtain ⟨o', k1, k2⟩ := hget ((hpl (.m a) rfl).trans e1)
        rcases k2 with ⟨a', cs', e0, e', q1, q2, q3, q4, q5, q6, q7, q8, q9⟩ | ⟨p, q1, q2, q3, _⟩
        ·have := hr.inj _ _ _ e1 q3; injection this with this; subst this
         rw [hX] at q2; injection q2 with q2; injection q2 with q2; subst q2
         refine ⟨x, e', (hpl _ rfl).trans e1, by rw [k1, q7]; simp [Ybn], by simpa [Ybn] using e3, by simp [Ybn, q8, q6], fun j c a2 g1 g2 => ?_⟩
         rw [Ybn, YzP, Option.map_eq_some_iff] at g1
         obtain ⟨y, g1, rfl⟩ := g1
         obtain ⟨z, hz⟩ := Yab (l := e0) q8.symm g2
         exact (q9 j y z a2 g1 hz g2).2
        ·have := hr.inj _ _ _ e1 q2; subst this; exact absurd hX (q3 a cs rfl)
  ·obtain ⟨k2, k3⟩ := hp2 k1
   have := hr.own p x k3
   cases p with
   | m a =>
     obtain ⟨o, ho⟩ := this
     have : frzO X F (some o) = some (match frzO X F (some o) with | some o' => o' | none => o) := by cases o <;> rfl
     exact ⟨_, by rw [Yba, if_neg (show ¬ a ∈ F from k2), ho]; exact this⟩
   | n a i =>
     obtain ⟨c, v, h, l, ho, k⟩ := this
     exact ⟨c, v, h, l, by rw [Yba, if_neg (show ¬ a ∈ F from k2), ho]; rfl, k⟩
 have henv : ∀ env' : VEnv, (∃ ae', ∀ t, (∃ a, YwV env' t = a) -> Cz id (fun x => ∃ p : Pos, p.of ∈ F /\ pl p = some x) (hf H) (hf H') (YwJ ae t) (YwJ ae' t) /\ TR (frzX X F) (plF pl F) (YwV (env'.map fun p => (p.1, frzA X F p.2)) t) (YwJ ae' t)) \/ ¬ ERel X pl env' ae := by
  intro env'
  by_cases hE : ERel X pl env' ae
  ·refine .inl ?_
   have hch : ∀ t, ∃ av', Cz id (fun x => ∃ p : Pos, p.of ∈ F /\ pl p = some x) (hf H) h1 (YwJ ae t) av' /\ TR (frzX X F) (plF pl F) (frzA X F (YwV env' t)) av' := fun t => Yk4 hr hF hl (hE t)
   refine ⟨(env'.map (·.1)).map fun t => (t, Classical.choose (hch t)), fun t _ => ?_⟩
   have hl1 : ∀ ts : List Nat, YwJ (ts.map fun t => (t, Classical.choose (hch t))) t = if t ∈ ts then Classical.choose (hch t) else .u := by
    intro ts
    induction ts with
    | nil => rfl
    | cons s ts ih =>
      simp only [YzR, YwJ]
      by_cases e : s = t
      ·subst e; simp
      ·have : (s == t) = false := by simp [e]
       rw [this, cond_false, ih]; simp [Ne.symm e]
   have hl2 : ∀ en : VEnv, YwV (en.map fun p => (p.1, frzA X F p.2)) t = if t ∈ en.map (·.1) then frzA X F (YwV en t) else .u := by
    intro en
    induction en with
    | nil => rfl
    | cons s en ih =>
      obtain ⟨s, v⟩ := s
      simp only [YzR, YwV]
      cases hb : Nat.beq s t with
      | true => have := Nat.eq_of_beq_eq_true hb; subst this; simp
      | false =>
        have hne : t ≠ s := fun e => by subst e; rw [Nat.beq_refl] at hb; cases hb
        rw [cond_false, cond_false, ih]; simp [hne]
   rw [hl1, hl2]
   split
   ·exact ⟨hczl (Classical.choose_spec (hch t)).1, (Classical.choose_spec (hch t)).2⟩
   ·exact ⟨.u _, .u _⟩
  ·exact .inr hE
 obtain ⟨ae', hae⟩ := (henv env).resolve_right (fun h => h he)
 refine ⟨ae', H', ?_, fun t => (hae t ⟨_, rfl⟩).2, ⟨hHR.obj, hHR.inj, hHR.own, fun x h => ⟨(hr.fr x h).1, (hfrH h).trans (hr.fr x h).2⟩, fun p x h => hr.nfr p x (hp2 h).2, by rw [hlen]; exact hr.le⟩⟩
 refine Yqq id (fun x => ∃ p : Pos, p.of ∈ F /\ pl p = some x) ⟨fun a b _ _ _ _ h => h, fun a _ => ⟨rfl, fun h => ?_⟩, fun x o' hx => ?_⟩ rfl (fun t => (hae t ⟨_, rfl⟩).1)
 ·simp only [hf] at h ⊢
  intro hn
  rw [YAx, hlen] at hn
  exact h (YAa hn)
 ·by_cases hfx : Fr x
  ·have hx' : H'[x]? = some (some o') := hx
   rw [hfrH hfx] at hx'
   refine ⟨fun ⟨q, q1, q2⟩ => hr.nfr q x q2 hfx, o', hx', rfl, rfl, fun i e e' k1 k2 => ?_⟩
   rw [k1] at k2; injection k2 with k2; subst k2
   refine ⟨rfl, fun j z z' h3 h4 => ?_⟩
   rw [h3] at h4; injection h4 with h4; subst h4
   refine YkZ (A := Fr) (fun y hy => ?_) ((hFr x hfx).2 o' ((hr.fr x hfx).2.symm.trans hx') e (YzQ k1) z (YzQ h3))
   obtain ⟨⟨o, ho⟩, _⟩ := hFr y hy
   exact ⟨rfl, o, (hfrH hy).trans ((hr.fr y hy).2.trans ho)⟩
  obtain ⟨⟨p, hp⟩, hS⟩ := hinv hx hfx
  obtain ⟨g1, g2⟩ := hp2 hp
  refine ⟨fun ⟨q, q1, q2⟩ => by have := hr.inj _ _ _ g2 q2; subst this; exact g1 q1, ?_⟩
  rcases hS with ⟨a, cs, e, e', q1, q2, q3, q4, q5, q6, q7, q8, q9⟩ | ⟨q, q1, q2, q3, q4⟩
  ·refine ⟨_, q4, by rw [q7], by rw [q7]; rfl, fun i e1 e2 k1 k2 => ?_⟩
   rw [q7] at k2
   cases i with
   | succ i => simp at k1
   | zero =>
     simp at k1 k2; subst k1; subst k2
     refine ⟨q8.symm, fun j z z' h3 h4 => ?_⟩
     obtain ⟨c, hc⟩ := Yab (l := cs) q6 h3
     exact hczl (q9 j c z z' hc h3 h4).1
  ·refine ⟨o', q4, rfl, rfl, fun i e1 e2 k1 k2 => ?_⟩
   rw [k1] at k2; injection k2 with k2; subst k2
   refine ⟨rfl, fun j z z' h3 h4 => ?_⟩
   rw [h3] at h4; injection h4 with h4; subst h4
   have hlv := hr.own q x q2
   have : ∃ o, vget X q.of = some o /\ ∀ cs, o ≠ .st cs := by
    cases q with
    | m a => obtain ⟨o, ho⟩ := hlv; exact ⟨o, ho, fun cs e => q3 a cs rfl (by rw [ho, e])⟩
    | n a i => obtain ⟨c, v, h, l, ho, _⟩ := hlv; exact ⟨_, ho, fun cs e => by cases e⟩
   obtain ⟨o, ho, hns⟩ := this
   exact hcell hns ho ⟨q, rfl, q2⟩ q4 q1 e1 (YzQ k1) z (YzQ h3)
end
end Go.Abs
namespace Go.Abs
open Go Go.RowKit
mutual
def avT : TV -> AV
 | .i k n => .v (.int k n)
 | .b x => .v (.bool x)
 | .s x => .v (.string x)
 | .l c v => .rd c.width (v.map c.enc)
 | .ag x => .agg (avTs x)
 | .tp x => .tup (avTs x)
 | .clo g x => .clo g (avTs x)
 | _ => .u
def avTs : List TV -> List AV
 | [] => []
 | a :: r => avT a :: avTs r
end
theorem YbL : ∀ l : List TV, avTs l = l.map avT
 | [] => rfl
 | a :: r => by simp [avTs, YbL r]
mutual
theorem YfR : ∀ v : TV, NR (avT v)
 | .i _ _ | .b _ | .s _ => .v _
 | .l c v => YcA (.l c) v
 | .ag x => .agg _ (fun a h => Yb5 x a h)
 | .tp x => .tup _ (fun a h => Yb5 x a h)
 | .clo g x => .clo g _ (fun a h => Yb5 x a h)
 | .e _ | .u | .v _ | .ref _ | .pre _ _ | .sub _ _ _ | .ptr _ _ _ | .np _ | .pti _ _ _ _ _ | .rp _ | .lt _ => .u
theorem Yb5 : ∀ (l : List TV) (a : AV), a ∈ avTs l -> NR a
 | [], a, h => by simp [avTs] at h
 | v :: r, a, h => by
   simp only [avTs, Yz4] at h
   rcases h with rfl | h
   ·exact YfR v
   ·exact Yb5 r a h
end
section
variable {Fr : Nat -> Prop} {H0 : Heap} {X : YwG} {pl : Pl} {H : Heap}
theorem YfS {P : AV -> AV -> Prop} {cs : List TV} {as : List AV} (hl : cs.length = as.length) (h : ∀ (j : Nat) (c : TV) (a : AV), cs[j]? = some c -> as[j]? = some a -> P a (avT c)) :
  as.length = (avTs cs).length /\ ∀ (j : Nat) (x x' : AV), as[j]? = some x -> (avTs cs)[j]? = some x' -> P x x' := by
 refine ⟨by simp [YbL, hl], fun j x x' h1 h2 => ?_⟩
 rw [YbL, YzP, Option.map_eq_some_iff] at h2
 obtain ⟨c, h2, rfl⟩ := h2
 exact h j c x h2 h1
theorem YdS {l : List TV} (h : Yw0 l = true) : ∀ (j : Nat) (c : TV), l[j]? = some c -> YxH c = true := by
 induction l with
 | nil => intro j c h; simp at h
 | cons a r ih =>
   simp only [Yw0, Bool.and_eq_true] at h
   intro j c hj
   cases j with
   | zero => simp at hj; subst hj; exact h.1
   | succ j => simp at hj; exact ih h.2 j c hj
theorem Yk5 {v : TV} {a : AV} (h : TR X pl v a) : YxH v = true -> Coe a (avT v) := by
 induction h with
 | i k n => exact fun _ => .refl _
 | b x => exact fun _ => .refl _
 | s x => exact fun _ => .refl _
 | l c v a h => exact fun _ => h
 | ag cs as hl h ih =>
   intro hd
   have := YfS (P := Coe) hl (fun j c a h1 h2 => ih j c a h1 h2 (YdS hd j c h1))
   exact .agg _ _ this.1 this.2
 | tp cs as hl h ih =>
   intro hd
   have := YfS (P := Coe) hl (fun j c a h1 h2 => ih j c a h1 h2 (YdS hd j c h1))
   exact .tup _ _ this.1 this.2
 | clo g cs as hl h ih =>
   intro hd
   have := YfS (P := Coe) hl (fun j c a h1 h2 => ih j c a h1 h2 (YdS hd j c h1))
   exact .clo g _ _ this.1 this.2
 | _ => intro hd; cases hd
mutual
theorem YfT : ∀ v : TV, YxH v = true -> TR X pl v (avT v)
 | .i _ _, _ => .i _ _
 | .b _, _ => .b _
 | .s _, _ => .s _
 | .l c v, _ => .l c v _ (.refl _)
 | .ag x, h => by have := YcN x h; exact .ag _ _ this.1 this.2
 | .tp x, h => by have := YcN x h; exact .tp _ _ this.1 this.2
 | .clo g x, h => by have := YcN x h; exact .clo g _ _ this.1 this.2
 | .e _, h | .u, h | .v _, h | .ref _, h | .pre _ _, h | .sub _ _ _, h | .ptr _ _ _, h | .np _, h | .pti _ _ _ _ _, h | .rp _, h | .lt _, h => by cases h
theorem YcN : ∀ l : List TV, Yw0 l = true -> CT X pl l (avTs l)
 | [], _ => .nil
 | a :: r, h => by
   simp only [Yw0, Bool.and_eq_true] at h
   exact .cons (YfT a h.1) (YcN r h.2)
end
def FnE.R (e : FnE) (args : List AV) (r : AV) : Prop :=
 ∃ x y vs v, e.F x = some y /\ e.args.read vs [] = some x /\ Yw0 vs = true /\ args = avTs vs /\ YwP e.res (unp e.co y) = some (v, []) /\ YxH v = true /\ r = avT v
structure TOKP (T : Tabs) (C : Ctx) : Prop where
 pf : C.pf = T.pf
 fn : ∀ e ∈ T.fs, T.pf e.g = true -> ∀ args r, e.R args r -> C.C e.g args [] r []
def Yzl : SV -> Bool
 | .i _ | .b | .s => true
 | _ => false
theorem Yzz {sv : SV} {l r : List Lf} {v : TV} (hs : Yzl sv = true) (h : YwP sv l = some (v, r)) : ∃ x, avT v = .v x := by
 cases sv with
 | i k =>
   cases l with
   | nil => simp [YwP] at h
   | cons f fs =>
     obtain ⟨t, z⟩ := f
     cases t with
     | i k' =>
       simp only [YwP] at h
       obtain ⟨_, h3⟩ := Yaa h
       injection h3 with h3; injection h3 with h3 _; subst h3; exact ⟨_, rfl⟩
     | _ => simp [YwP] at h
 | b =>
   cases l with
   | nil => simp [YwP] at h
   | cons f fs =>
     obtain ⟨t, z⟩ := f
     cases t with
     | b =>
       have h3 : some (TV.b z, fs) = some (v, r) := by simpa only [YwP] using h
       injection h3 with h3; injection h3 with h3 _; subst h3; exact ⟨_, rfl⟩
     | _ => simp [YwP] at h
 | s =>
   cases l with
   | nil => simp [YwP] at h
   | cons f fs =>
     obtain ⟨t, z⟩ := f
     cases t with
     | s =>
       have h3 : some (TV.s z, fs) = some (v, r) := by simpa only [YwP] using h
       injection h3 with h3; injection h3 with h3 _; subst h3; exact ⟨_, rfl⟩
     | _ => simp [YwP] at h
 | _ => cases hs
theorem YrA {sv : SV} {l r : List Lf} {v : TV} (hs : Yzx sv = true) (h : YwP sv l = some (v, r)) : Scal (avT v) := by
 have one : Yzl sv = true -> Scal (avT v) := fun h1 => by
  obtain ⟨x, hx⟩ := Yzz h1 h
  rw [hx]; exact .v x
 cases sv with
 | i k => exact one rfl
 | b => exact one rfl
 | s => exact one rfl
 | tp l' =>
   have key : ∀ (ss : List SV) (l r : List Lf) (vs : List TV), (∀ y ∈ ss, Yzl y = true) -> YwZ ss l = some (vs, r) -> ∀ a ∈ avTs vs, ∃ x, a = .v x := by
    intro ss
    induction ss with
    | nil => intro l r vs _ h; simp only [YwZ] at h; injection h with h; injection h with h _; subst h; intro a ha; simp [avTs] at ha
    | cons y ss ih =>
      intro l r vs hs h
      simp only [YwZ] at h
      split at h
      ·rename_i x r1 h1
       split at h
       ·rename_i xs r2 h2
        injection h with h; injection h with h _; subst h
        intro a ha
        simp only [avTs, Yz4] at ha
        rcases ha with rfl | ha
        ·exact Yzz (hs y (Yz2 ..)) h1
        ·exact ih r1 _ xs (fun y h => hs y (YAh _ h)) h2 a ha
       ·cases h
      ·cases h
   simp only [YwP] at h
   split at h
   ·rename_i vs r1 h1
    injection h with h; injection h with h _; subst h
    exact .tup _ (key l' l r1 vs (fun y hs' => Yz9.1 (show l'.all _ = true from hs) y hs') h1)
   ·cases h
 | _ => cases hs
theorem Yk6 (hr : HRel Fr H0 X pl H) {v w : TV} {a : AV} (h : ldT X v = some w) (ht : TR X pl v a) : ∃ b, Bor1 (hf H) a b /\ TR X pl w b := by
 cases v <;> try (cases h; done)
 case ref x =>
  simp only [ldT] at h
  split at h
  ·rename_i c l ho
   injection h with h; subst h
   obtain ⟨y, n, rfl, hp, hn⟩ := Yaq ho ht
   simp only [lenO] at hn; injection hn with hn; subst hn
   obtain ⟨y', el, e1, e2, e3, e4⟩ := hr.obj x _ ho
   rw [hp] at e1; injection e1 with e1; subst e1
   refine ⟨_, .inr ⟨y, 0, l.length, ⟨c.width, el⟩, rfl, e2, by simp [e4.1], rfl⟩, .l c l _ ?_⟩
   simp only [YAs, YaL e3]
   rw [<- e4.1, YAg]; exact YdK e4
  ·rename_i s ho
   injection h with h; subst h
   obtain ⟨y, n, rfl, hp, hn⟩ := Yaq ho ht
   simp only [lenO] at hn; injection hn with hn; subst hn
   obtain ⟨y', e1, e2⟩ := hr.obj x _ ho
   rw [hp] at e1; injection e1 with e1; subst e1
   refine ⟨_, .inr ⟨y, 0, s.size, ⟨0, strA s⟩, rfl, e2, by simp [strA_len'], rfl⟩, .l U8 (strL s) _ ?_⟩
   simp only [YAs]
   rw [<- strA_len', YAg]; exact rows_coe' (Ya1 s).rows
  ·cases h
 case pre x n =>
  simp only [ldT] at h
  split at h
  ·rename_i c l ho
   injection h with h; subst h
   obtain ⟨y, k, rfl, hp, hn, h0, hm⟩ := Yb0 ho ht
   simp only [lenO] at hn; injection hn with hn; subst hn
   obtain ⟨y', el, e1, e2, e3, e4⟩ := hr.obj x _ ho
   rw [hp] at e1; injection e1 with e1; subst e1
   refine ⟨_, .inr ⟨y, 0, n.toNat, ⟨c.width, el⟩, rfl, e2, by rw [e4.1, Nat.zero_add]; exact hm, rfl⟩, .l c _ _ ?_⟩
   simp only [YAs, YaL e3]
   refine YdK ⟨by simp [e4.1], fun i e v h1 h2 => ?_⟩
   rw [Yz3] at h1 h2
   split at h1
   ·rename_i hi; rw [if_pos hi] at h2; exact e4.2 i e v h1 h2
   ·cases h1
  ·cases h
theorem Yk7 (hr : HRel Fr H0 X pl H) : ∀ {cs ds : List TV} {t : Bool} {as : List AV}, ldC X cs = (ds, t) -> CT X pl cs as -> ∃ bs, All2 (Bor1 (hf H)) as bs /\ CT X pl ds bs /\ (t = false -> bs = as)
 | [], ds, t, as, h, hc => by
   simp only [ldC] at h; injection h with h1 h2; subst h1; subst h2
   have := hc.1
   cases as with
   | nil => exact ⟨[], trivial, .nil, fun _ => rfl⟩
   | cons _ _ => simp at this
 | a :: r, ds, t, as, h, hc => by
   obtain ⟨b, bs, rfl, h1, h2⟩ := hc.inv
   cases hq : ldC X r with
   | mk xs t' =>
     obtain ⟨cs', k1, k2, k3⟩ := Yk7 hr hq h2
     simp only [ldC, hq] at h
     split at h
     ·rename_i x hx
      injection h with e1 e2; subst e1; subst e2
      obtain ⟨b', g1, g2⟩ := Yk6 hr hx h1
      exact ⟨b' :: cs', ⟨g1, k1⟩, .cons g2 k2, fun h => by cases h⟩
     ·split at h
      ·injection h with e1 e2; subst e1; subst e2
       cases h1
       exact ⟨.emp :: cs', ⟨.inl rfl, k1⟩, .cons (.l _ _ _ (by simp only [YzT]; exact .empRd _)) k2, fun h => by rw [k3 h]⟩
      ·injection h with e1 e2; subst e1; subst e2
       exact ⟨b :: cs', ⟨.inl rfl, k1⟩, .cons h1 k2, fun h => by rw [k3 h]⟩
theorem YfU (hr : HRel Fr H0 X pl H) : ∀ {cs ds : List TV} {t : Bool} {as : List AV}, ldL X cs = (ds, t) -> CT X pl cs as -> ∃ bs, All2 (Bor (hf H)) as bs /\ CT X pl ds bs /\ (t = false -> bs = as)
 | [], ds, t, as, h, hc => by
   simp only [ldL] at h; injection h with h1 h2; subst h1; subst h2
   have := hc.1
   cases as with
   | nil => exact ⟨[], trivial, .nil, fun _ => rfl⟩
   | cons _ _ => simp at this
 | a :: r, ds, t, as, h, hc => by
   obtain ⟨b, bs, rfl, h1, h2⟩ := hc.inv
   cases hq : ldL X r with
   | mk xs t' =>
     obtain ⟨cs', k1, k2, k3⟩ := YfU hr hq h2
     simp only [ldL, hq] at h
     split at h
     ·rename_i x hx
      injection h with e1 e2; subst e1; subst e2
      obtain ⟨b', g1, g2⟩ := Yk6 hr hx h1
      exact ⟨b' :: cs', ⟨.inl g1, k1⟩, .cons g2 k2, fun h => by cases h⟩
     ·split at h
      ·rename_i ys hys
       injection h with e1 e2; subst e1; subst e2
       cases h1 with
       | ag _ zs hl hz =>
         cases hc2 : ldC X ys with
         | mk ws t2 =>
           obtain ⟨us, g1, g2, g3⟩ := Yk7 hr hc2 ⟨hl, hz⟩
           refine ⟨.agg us :: cs', ⟨.inr ⟨zs, us, rfl, rfl, g1⟩, k1⟩, .cons (.ag _ _ g2.1 g2.2) k2, fun h => ?_⟩
           simp only [Bool.or_eq_false_iff] at h
           rw [k3 h.2, g3 h.1]
      ·injection h with e1 e2; subst e1; subst e2
       cases h1
       exact ⟨.emp :: cs', ⟨.inl (.inl rfl), k1⟩, .cons (.l _ _ _ (by simp only [YzT]; exact .empRd _)) k2, fun h => by rw [k3 h]⟩
      ·injection h with e1 e2; subst e1; subst e2
       exact ⟨b :: cs', ⟨.inl (.inl rfl), k1⟩, .cons h1 k2, fun h => by rw [k3 h]⟩
theorem Yk8 {vs : List TV} : ∀ {as : List AV}, CT X pl vs as -> Yw0 vs = true -> All2 Coe as (avTs vs) := by
 induction vs with
 | nil => intro as h _; have := h.1; cases as with
   | nil => trivial
   | cons _ _ => simp at this
 | cons v vs ih =>
   intro as h hd
   obtain ⟨a, r, rfl, h1, h2⟩ := h.inv
   simp only [Yw0, Bool.and_eq_true] at hd
   exact ⟨Yk5 h1 hd.1, ih h2 hd.2⟩
theorem Yk9 {g : Nat} {svs : List SV} : ∀ {l : List FnE} {e : FnE}, YyO g svs l = some e -> e ∈ l /\ e.g = g /\ svs = e.args.vs
 | [], e, h => by cases h
 | a :: l, e, h => by
   simp only [YyO] at h
   cases hc : (Nat.beq a.g g && SV.eqbs svs a.args.vs) with
   | true =>
     rw [hc, cond_true] at h; injection h with h; subst h
     simp only [Bool.and_eq_true] at hc
     exact ⟨Yz2 .., Nat.eq_of_beq_eq_true hc.1, SV.eqs_of hc.2⟩
   | false =>
     rw [hc, cond_false] at h
     obtain ⟨h1, h2⟩ := Yk9 h
     exact ⟨YAh _ h1, h2⟩
variable {β : Type} {r : β}
theorem YrB {T : Tabs} {C : Ctx} (hT : TOKP T C) {g : Nat} {args : List TV} {as : List AV} {K : TV -> YwG -> Option β} (hp : T.pf g = true) (h : YyD T g args X K = some r) (hc : CT X pl args as) (hr : HRel Fr H0 X pl H) {KA : AV -> Heap -> Prop}
  (hk : ∀ v va, K v X = some r -> TR X pl v va -> KA va H) : Yyc C g as H KA := by
 unfold YyD at h
 cases hl : ldL X args with
 | mk ds lent =>
   rw [hl] at h
   simp only at h
   split at h
   ·rename_i svs hs
    split at h
    ·rename_i e hf
     obtain ⟨e1, e2⟩ := Yaa h
     simp only [Bool.and_eq_true] at e1
     obtain ⟨hm, hg, hsv⟩ := Yk9 hf
     split at e2
     ·rename_i x hx
      cases hy : e.F x with
      | none => rw [hy] at e2; cases e2
      | some y =>
        rw [hy] at e2
        simp only [Option.bind_some] at e2
        split at e2
        ·rename_i v hv
         obtain ⟨hd, e3⟩ := Yaa e2
         obtain ⟨bs, g1, g2, g3⟩ := YfU hr hl hc
         refine .inl ⟨by rw [hT.pf]; exact hp, bs, avTs ds, avT v, g1, ?_, Yk8 g2 e1.1, ?_, hk _ _ e3 (YfT v hd)⟩
         ·cases lent with
          | false => exact .inl (g3 rfl)
          | true => exact .inr (YrA (by simpa using e1.2) hv)
         ·rw [<- hg]
          exact hT.fn e hm (by rw [hg]; exact hp) _ _ ⟨x, y, ds, v, hy, hx, e1.1, rfl, hv, hd, rfl⟩
        ·cases e2
     ·cases e2
    ·cases h
   ·cases h
end
end Go.Abs
namespace Go.Abs
open Go Go.RowKit
def seqN (X : YwG) (a : Nat) : Nat := match vget X a with | some o => (lenO o).getD 0 | none => 0
mutual
def encT (X : YwG) (pl : Pl) : TV -> AV
 | .i k n => .v (.int k n)
 | .b x => .v (.bool x)
 | .s x => .v (.string x)
 | .l c v => .rd c.width (v.map c.enc)
 | .ref a => match pl (.m a) with | some x => .ref x 0 (seqN X a) | none => .u
 | .ptr a i j => match pl (.m a) with | some x => .ptr x i j | none => .u
 | .np a => match pl (.m a) with | some x => .np x | none => .u
 | .e _ => .emp
 | .ag x => .agg (YxR X pl x)
 | .tp x => .tup (YxR X pl x)
 | .clo g x => .clo g (YxR X pl x)
 | _ => .u
def YxR (X : YwG) (pl : Pl) : List TV -> List AV
 | [] => []
 | a :: r => encT X pl a :: YxR X pl r
end
theorem YfV (X : YwG) (pl : Pl) : ∀ l : List TV, YxR X pl l = l.map (encT X pl)
 | [] => rfl
 | a :: r => by simp [YxR, YfV X pl r]
def encO (X : YwG) (pl : Pl) (a : Nat) : AObj :=
 match vget X a with
 | some (.sq c l) => ⟨c.width, l.map c.enc⟩
 | some (.st cs) => ⟨cs.length, [YxR X pl cs]⟩
 | some (.sb s) => ⟨0, strA s⟩
 | _ => ⟨1, []⟩
def plI (pls : Pl) (k n : Nat) (X : YwG) : Pl
 | .m i => match vget X i with
   | some _ => if i < k then pls (.m i) else some (n + (i - k))
   | none => none
 | .n _ _ => none
open Classical in
noncomputable def Yxc (Kp : Nat -> Prop) (H : Heap) (k : Nat) (X : YwG) (pl : Pl) : Heap :=
 (List.range (H.length + (X.length - k))).map fun x => if Kp x then (H[x]?).join else if h : ∃ i, pl (.m i) = some x then some (encO X pl (Classical.choose h)) else none
def FnE.RI (e : FnE) (args : List AV) (H : Heap) (r : AV) (H' : Heap) : Prop :=
 ∃ (x : e.args.c.den) (y : e.co.den) (vs : List TV) (Xs : YwG) (pls : Pl) (Kp : Nat -> Prop) (v : TV) (l : List Lf) (X2 : YwG), e.F x = some y /\ e.args.read vs Xs = some x /\ noFm Xs = true /\ CT Xs pls vs args /\ HRel Kp H Xs pls H /\ FrOK Kp H /\
   (∀ i o, vget Xs i = some o -> ∃ z, pls (.m i) = some z) /\
   YwP e.res (unp e.co y) = some (v, l) /\ YwX e.os l = some (X2, []) /\ Xs.length <= X2.length /\ wfT X2 v = true /\ wfX X2 X2 = true /\ (∀ i, i < Xs.length -> ∀ o, vget X2 i = some o -> ∃ z, pls (.m i) = some z) /\
   r = encT X2 (plI pls Xs.length H.length X2) v /\ H' = Yxc Kp H Xs.length X2 (plI pls Xs.length H.length X2)
section
variable {Fr : Nat -> Prop} {H0 : Heap}
theorem YfW {Xs : YwG} {pls : Pl} {H : Heap} {Kp : Nat -> Prop} (hr : HRel Kp H Xs pls H) {X2 : YwG} {p q : Pos} {x : Nat} (hp : plI pls Xs.length H.length X2 p = some x) (hq : plI pls Xs.length H.length X2 q = some x) : p = q := by
 cases p with
 | n a i => cases hp
 | m i => cases q with
   | n a i => cases hq
   | m j =>
     simp only [plI] at hp hq
     split at hp
     ·split at hq
      ·split at hp <;> split at hq
       ·exact hr.inj _ _ _ hp hq
       ·injection hq with hq; have := hr.bd hp; omega
       ·injection hp with hp; have := hr.bd hq; omega
       ·injection hp with hp; injection hq with hq; congr 1; omega
      ·cases hq
     ·cases hp
theorem Yla {Xs : YwG} {pls : Pl} {H : Heap} {Kp : Nat -> Prop} (hr : HRel Kp H Xs pls H) {X2 : YwG} (hlen : Xs.length <= X2.length) {i x : Nat} (hp : plI pls Xs.length H.length X2 (.m i) = some x) :
  (Yxc Kp H Xs.length X2 (plI pls Xs.length H.length X2))[x]? = some (some (encO X2 (plI pls Xs.length H.length X2) i)) := by
 have hx : x < H.length + (X2.length - Xs.length) /\ ¬ Kp x := by
  have hp' := hp
  simp only [plI] at hp'
  split at hp'
  ·rename_i o ho
   have := Yah ho
   split at hp'
   ·exact ⟨by have := hr.bd hp'; omega, hr.nfr _ _ hp'⟩
   ·injection hp' with hp'
    exact ⟨by omega, fun hk => by have := (hr.fr x hk).1; omega⟩
  ·cases hp'
 unfold Yxc
 rw [YzP, YAf hx.1]
 simp only [Option.map_some, if_neg hx.2]
 have hex : ∃ i, plI pls Xs.length H.length X2 (.m i) = some x := ⟨i, hp⟩
 rw [dif_pos hex]
 have := YfW hr (Classical.choose_spec hex) hp
 injection this with this
 rw [this]
theorem Ylb {Xs : YwG} {pls : Pl} {H : Heap} {Kp : Nat -> Prop} (hr : HRel Kp H Xs pls H) {X2 : YwG} {x : Nat} (hk : Kp x) : (Yxc Kp H Xs.length X2 (plI pls Xs.length H.length X2))[x]? = H[x]? := by
 have hx := (hr.fr x hk).1
 unfold Yxc
 rw [YzP, YAf (by omega)]
 simp only [Option.map_some, if_pos hk]
 rw [YzO hx]; rfl
theorem YrC {Xs : YwG} {pls : Pl} {H : Heap} {Kp : Nat -> Prop} {X2 : YwG} {x : Nat} {o : AObj} (h : (Yxc Kp H Xs.length X2 (plI pls Xs.length H.length X2))[x]? = some (some o)) :
  (Kp x /\ H[x]? = some (some o)) \/ (∃ i, plI pls Xs.length H.length X2 (.m i) = some x /\ o = encO X2 (plI pls Xs.length H.length X2) i) := by
 have hx := (YzN.1 h).1
 unfold Yxc at h hx
 simp only [Yz7, List.length_range] at hx
 rw [YzP, YAf hx] at h
 simp only [Option.map_some, Option.some.injEq] at h
 split at h
 ·rename_i hk
  refine .inl ⟨hk, ?_⟩
  cases hH : H[x]? with
  | none => rw [hH] at h; cases h
  | some q => rw [hH] at h; simp only [Option.join_some] at h; rw [h]
 ·split at h
  ·rename_i hex
   injection h with h
   exact .inr ⟨_, Classical.choose_spec hex, h.symm⟩
  ·cases h
theorem YdT (Kp : Nat -> Prop) (H : Heap) (k : Nat) (X : YwG) (pl : Pl) : (Yxc Kp H k X pl).length = H.length + (X.length - k) := by simp [Yxc]
mutual
theorem Ylc {X : YwG} {pl : Pl} (hal : ∀ i o, vget X i = some o -> ∃ z, pl (.m i) = some z) : ∀ v : TV, wfT X v = true -> TR X pl v (encT X pl v)
 | .i k n, _ => .i k n
 | .b x, _ => .b x
 | .s x, _ => .s x
 | .l c w, _ => .l c w _ (.refl _)
 | .u, _ => .u _
 | .e c, _ => .e c
 | .ref a, h => by
   simp only [wfT] at h
   split at h
   ·rename_i c l ho
    obtain ⟨z, hz⟩ := hal a _ ho
    simp only [encT, hz, seqN, ho, lenO, Option.getD_some]
    exact .ref a z _ l.length ho rfl hz
   ·rename_i s ho
    obtain ⟨z, hz⟩ := hal a _ ho
    simp only [encT, hz, seqN, ho, lenO, Option.getD_some]
    exact .ref a z _ s.size ho rfl hz
   ·cases h
 | .ptr a i j, h => by
   simp only [wfT, Bool.and_eq_true] at h
   have hi := Nat.eq_of_beq_eq_true h.1; subst hi
   have h2 := h.2
   split at h2
   ·rename_i cs ho
    obtain ⟨z, hz⟩ := hal a _ ho
    simp only [encT, hz]
    exact .ptr a 0 j z _ ho (by simp [elN]) hz
   ·cases h2
 | .np a, h => by
   simp only [wfT] at h
   split at h
   ·rename_i cs ho
    obtain ⟨z, hz⟩ := hal a _ ho
    simp only [encT, hz]
    exact .np a z _ ho hz
   ·cases h
 | .ag x, h => by have := YcO hal x h; exact .ag _ _ this.1 this.2
 | .tp x, h => by have := YcO hal x h; exact .tp _ _ this.1 this.2
 | .clo g x, h => by have := YcO hal x h; exact .clo g _ _ this.1 this.2
 | .v _, h | .pre _ _, h | .sub _ _ _, h | .pti _ _ _ _ _, h | .rp _, h | .lt _, h => by cases h
theorem YcO {X : YwG} {pl : Pl} (hal : ∀ i o, vget X i = some o -> ∃ z, pl (.m i) = some z) : ∀ l : List TV, wfTs X l = true -> CT X pl l (YxR X pl l)
 | [], _ => .nil
 | a :: r, h => by
   simp only [wfTs, Bool.and_eq_true] at h
   exact .cons (Ylc hal a h.1) (YcO hal r h.2)
end
theorem YdU {X : YwG} : ∀ {Y : YwG} {i : Nat} {o : VObj}, wfX X Y = true -> vget Y i = some o -> (∃ c l, o = .sq c l /\ 0 < c.width) \/ (∃ cs, o = .st cs /\ 0 < cs.length /\ wfTs X cs = true) \/ ∃ s, o = .sb s
 | [], i, o, _, h => by cases h
 | p :: r, i, o, hw, h => by
   have hr : wfX X r = true := by
    cases p with
    | none => exact hw
    | some q => cases q with
      | sq c l => simp only [wfX, Bool.and_eq_true] at hw; exact hw.2
      | st cs => simp only [wfX, Bool.and_eq_true] at hw; exact hw.2
      | sb s => exact hw
      | fm _ _ _ _ => cases hw
   cases i with
   | succ i => exact YdU hr h
   | zero =>
     simp only [vget] at h; subst h
     cases o with
     | sq c l => simp only [wfX, Bool.and_eq_true] at hw; exact .inl ⟨c, l, rfl, by simpa using hw.1⟩
     | st cs => simp only [wfX, Bool.and_eq_true] at hw; exact .inr (.inl ⟨cs, rfl, by simpa using hw.1.1, hw.1.2⟩)
     | sb s => exact .inr (.inr ⟨s, rfl⟩)
     | fm _ _ _ _ => cases hw
end
end Go.Abs
namespace Go.Abs
open Go Go.RowKit
structure TOK (T : Tabs) (C : Ctx) : Prop where
 p : TOKP T C
 fnI : ∀ e ∈ T.fs, T.pf e.g = false -> ∀ args H r H', e.RI args H r H' -> C.C e.g args H r H'
section
variable {Fr : Nat -> Prop} {H0 : Heap} {X : YwG} {pl : Pl} {H : Heap} {m : List Nat}
theorem Yb6 (r : Nat -> Option Nat) : ∀ (X : YwG) (m : List Nat) (Y : YwG), (Yx7 r X m Y).length = X.length
 | X, [], Y => by cases Y <;> rfl
 | X, a :: m, [] => rfl
 | X, a :: m, o :: Y => by simp only [Yx7]; rw [Yb6 r _ m Y, Yae]
theorem YfX (r : Nat -> Option Nat) {b : Nat} : ∀ {X : YwG} {m : List Nat} {Y : YwG}, b ∉ m -> vget (Yx7 r X m Y) b = vget X b
 | X, [], Y, _ => by cases Y <;> rfl
 | X, a :: m, [], _ => rfl
 | X, a :: m, o :: Y, h => by
   simp only [Yz4, not_or] at h
   simp only [Yx7]; rw [YfX r h.2, Yao _ (Ne.symm h.1)]
theorem Yld (r : Nat -> Option Nat) {b : Nat} : ∀ {X : YwG} {m : List Nat} {Y : YwG} {i : Nat}, m.Nodup -> m[i]? = some b -> b < X.length -> i < Y.length -> vget (Yx7 r X m Y) b = (vget Y i).map (VObj.ren r)
 | X, [], Y, i, _, h, _, _ => by simp at h
 | X, a :: m, [], i, _, _, _, h => by simp at h
 | X, a :: m, o :: Y, i, hn, h, hb, hi => by
   obtain ⟨h1, h2⟩ := List.nodup_cons.1 hn
   simp only [Yx7]
   cases i with
   | zero =>
     simp at h; subst h
     rw [YfX r h1, Yax _ hb]; rfl
   | succ i =>
     simp at h hi
     rw [Yld r h2 h (by rw [Yae]; exact hb) hi]; rfl
theorem Yle : ∀ (Y : YwG) (n i : Nat), vget (Y.drop n) i = vget Y (n + i)
 | Y, 0, i => by simp
 | [], n + 1, i => by simp [vget]
 | o :: Y, n + 1, i => by rw [List.drop_succ_cons, Yle Y n i, show n + 1 + i = (n + i) + 1 by omega]; rfl
theorem YrD {A B : YwG} {b : Nat} (h : A.length <= b) : vget (A ++ B) b = vget B (b - A.length) := by
 induction A generalizing b with
 | nil => rfl
 | cons o A ih =>
   cases b with
   | zero => simp at h
   | succ b => simp only [YAe, vget]; rw [ih (by simpa using h)]; simp
theorem YrE (r : Nat -> Option Nat) {Y : YwG} {b i : Nat} (hn : m.Nodup) (h : m[i]? = some b) (hb : b < X.length) (hi : i < Y.length) : vget (Yw6 m r X Y) b = (vget Y i).map (VObj.ren r) := by
 unfold Yw6
 rw [Yaz (by rw [Yb6]; exact hb), Yld r hn h hb hi]
theorem Ylf (r : Nat -> Option Nat) {Y : YwG} {b : Nat} (hm : b ∉ m) (hb : b < X.length) : vget (Yw6 m r X Y) b = vget X b := by
 unfold Yw6
 rw [Yaz (by rw [Yb6]; exact hb), YfX r hm]
theorem YrF (r : Nat -> Option Nat) {Y : YwG} {b : Nat} (hb : X.length <= b) : vget (Yw6 m r X Y) b = (vget Y (m.length + (b - X.length))).map (VObj.ren r) := by
 unfold Yw6
 rw [YrD (by rw [Yb6]; exact hb), Yb6, YdP _ rfl, Yle]
theorem YrG (r : Nat -> Option Nat) (Y : YwG) : (Yw6 m r X Y).length = X.length + (Y.length - m.length) := by
 unfold Yw6; simp [Yb6]
mutual
theorem YrH {A : Nat -> Prop} (hA : ∀ a x, (vget X a).isSome = true -> a ∉ m -> pl (.m a) = some x -> A x) : ∀ (v : TV) {a : AV}, clT X m v = true -> TR X pl v a -> RefIn A a
 | .i _ _, _, _, ht => by cases ht; exact .v _
 | .b _, _, _, ht => by cases ht; exact .v _
 | .s _, _, _, ht => by cases ht; exact .v _
 | .l c w, _, _, ht => by
   cases ht with
   | l _ _ _ hc => exact YkY (Ycq hc (YcA (.l c) w))
 | .e _, _, _, ht => by cases ht; exact .emp
 | .v _, _, _, ht => by cases ht; exact .v _
 | .ref x, _, h, ht => by
   simp only [clT, Bool.and_eq_true, Bool.not_eq_true'] at h
   obtain ⟨o, ho⟩ := Option.isSome_iff_exists.1 h.1
   obtain ⟨y, n, rfl, hp, _⟩ := Yaq ho ht
   exact .ref _ _ _ (hA x y h.1 (fun hm => by rw [any_mem.2 hm] at h; cases h.2) hp)
 | .pre x n, _, h, ht => by
   simp only [clT, Bool.and_eq_true, Bool.not_eq_true'] at h
   obtain ⟨o, ho⟩ := Option.isSome_iff_exists.1 h.1
   obtain ⟨y, n, rfl, hp, _⟩ := Yb0 ho ht
   exact .ref _ _ _ (hA x y h.1 (fun hm => by rw [any_mem.2 hm] at h; cases h.2) hp)
 | .ptr x i j, _, h, ht => by
   simp only [clT, Bool.and_eq_true, Bool.not_eq_true'] at h
   obtain ⟨o, ho⟩ := Option.isSome_iff_exists.1 h.1
   obtain ⟨y, rfl, hp, _⟩ := Ybm ho ht
   exact .ptr _ _ _ (hA x y h.1 (fun hm => by rw [any_mem.2 hm] at h; cases h.2) hp)
 | .np x, _, h, ht => by
   simp only [clT, Bool.and_eq_true, Bool.not_eq_true'] at h
   obtain ⟨o, ho⟩ := Option.isSome_iff_exists.1 h.1
   obtain ⟨y, rfl, hp⟩ := YaS ho ht
   exact .np _ (hA x y h.1 (fun hm => by rw [any_mem.2 hm] at h; cases h.2) hp)
 | .ag x, _, h, ht => by
   cases ht with
   | ag _ as hl hc => exact .agg _ (YcP hA x h ⟨hl, hc⟩)
 | .tp x, _, h, ht => by
   cases ht with
   | tp _ as hl hc => exact .tup _ (YcP hA x h ⟨hl, hc⟩)
 | .clo g x, _, h, ht => by
   cases ht with
   | clo _ _ as hl hc => exact .clo _ _ (YcP hA x h ⟨hl, hc⟩)
 | .u, _, h, _ | .sub _ _ _, _, h, _ | .pti _ _ _ _ _, _, h, _ | .rp _, _, h, _ | .lt _, _, h, _ => by cases h
theorem YcP {A : Nat -> Prop} (hA : ∀ a x, (vget X a).isSome = true -> a ∉ m -> pl (.m a) = some x -> A x) : ∀ (l : List TV) {as : List AV}, clTs X m l = true -> CT X pl l as -> ∀ a ∈ as, RefIn A a
 | [], as, _, hc => by
   have := hc.1
   cases as with
   | nil => intro a h; cases h
   | cons _ _ => simp at this
 | v :: l, as, h, hc => by
   obtain ⟨a, r, rfl, h1, h2⟩ := hc.inv
   simp only [clTs, Bool.and_eq_true] at h
   intro b hb
   rcases Yz4.1 hb with rfl | hb
   ·exact YrH hA v h.1 h1
   ·exact YcP hA l h.2 h2 b hb
end
theorem Ylg {Y : YwG} : ∀ {Z : YwG} {i b : Nat} {o : VObj}, clX Y m Z i = true -> vget Z b = some o -> i + b ∉ m -> (∀ cs, o = .st cs -> clTs Y m cs = true) /\ ∀ c v h l, o = .fm c v h l -> h = none
 | [], i, b, o, _, h, _ => by cases h
 | p :: Z, i, b, o, hc, hg, hm => by
   simp only [clX, Bool.and_eq_true] at hc
   cases b with
   | succ b => exact Ylg hc.2 hg (by rw [show i + 1 + b = i + (b + 1) by omega]; exact hm)
   | zero =>
     simp only [vget] at hg; subst hg
     have h1 := hc.1
     rw [Bool.or_eq_true] at h1
     have h2 := h1.resolve_left (fun h => hm (any_mem.1 h))
     refine ⟨fun cs e => by subst e; exact h2, fun c v h l e => ?_⟩
     subst e
     cases h with
     | none => rfl
     | some _ => cases h2
theorem YcQ {β : Type} {r : β} : ∀ {Y Z : YwG} {x : Option β}, Yxe Y Z x = some r -> x = some r /\ ∀ i o, i < Y.length -> vget Z i = some o -> (∃ c l c' l', o = .sq c l /\ vget Y i = some (.sq c' l') /\ l.length = l'.length) \/ (∃ cs cs', o = .st cs /\ vget Y i = some (.st cs')) \/ ∃ s s', o = .sb s /\ vget Y i = some (.sb s') /\ s.size = s'.size
 | [], Z, x, h => by
   have h : x = some r := by cases Z <;> simpa [Yxe] using h
   exact ⟨h, fun i o hi => by simp at hi⟩
 | p :: Y, [], x, h => by cases p with
   | none => simp [Yxe] at h
   | some q => cases q <;> simp [Yxe] at h
 | p :: Y, none :: Z, x, h => by
   have h : Yxe Y Z x = some r := by cases p with
    | none => simpa [Yxe] using h
    | some q => cases q <;> simpa [Yxe] using h
   obtain ⟨h1, h2⟩ := YcQ h
   refine ⟨h1, fun i o hi hg => ?_⟩
   cases i with
   | zero => cases hg
   | succ i => exact h2 i o (by simpa using hi) hg
 | p :: Y, some o2 :: Z, x, h => by
   cases p with
   | none => simp [Yxe] at h
   | some q =>
     cases q with
     | fm _ _ _ _ => cases o2 <;> simp [Yxe] at h
     | sq c l =>
       cases o2 with
       | sq c2 l2 =>
         simp only [Yxe] at h
         obtain ⟨e1, e2⟩ := Yaj h
         obtain ⟨h1, h2⟩ := YcQ e2
         refine ⟨h1, fun i o hi hg => ?_⟩
         cases i with
         | zero => simp only [vget] at hg; injection hg with hg; subst hg; exact .inl ⟨_, _, _, _, rfl, rfl, e1⟩
         | succ i => exact h2 i o (by simpa using hi) hg
       | _ => simp [Yxe] at h
     | st cs =>
       cases o2 with
       | st cs2 =>
         simp only [Yxe] at h
         obtain ⟨h1, h2⟩ := YcQ h
         refine ⟨h1, fun i o hi hg => ?_⟩
         cases i with
         | zero => simp only [vget] at hg; injection hg with hg; subst hg; exact .inr (.inl ⟨_, _, rfl, rfl⟩)
         | succ i => exact h2 i o (by simpa using hi) hg
       | _ => simp [Yxe] at h
     | sb s =>
       cases o2 with
       | sb s2 =>
         simp only [Yxe] at h
         obtain ⟨e1, e2⟩ := Yaj h
         obtain ⟨h1, h2⟩ := YcQ e2
         refine ⟨h1, fun i o hi hg => ?_⟩
         cases i with
         | zero => simp only [vget] at hg; injection hg with hg; subst hg; exact .inr (.inr ⟨_, _, rfl, rfl, e1⟩)
         | succ i => exact h2 i o (by simpa using hi) hg
       | _ => simp [Yxe] at h
theorem YfY {g : Nat} {svs : List SV} {sos : List SO} : ∀ {l : List FnE} {e : FnE}, Yx6 g svs sos l = some e -> e ∈ l /\ e.g = g
 | [], e, h => by cases h
 | a :: l, e, h => by
   simp only [Yx6] at h
   cases hc : (Nat.beq a.g g && (SV.eqbs svs a.args.vs && SO.eqbs sos a.args.os)) with
   | true =>
     rw [hc, cond_true] at h; injection h with h; subst h
     simp only [Bool.and_eq_true] at hc
     exact ⟨Yz2 .., Nat.eq_of_beq_eq_true hc.1⟩
   | false =>
     rw [hc, cond_false] at h
     obtain ⟨h1, h2⟩ := YfY h
     exact ⟨YAh _ h1, h2⟩
theorem Yy7 (hr : HRel Fr H0 X pl H) {a : Nat} {o : VObj} (ho : vget X a = some o) : ∃ z, pl (.m a) = some z := by
 have := hr.obj a o ho
 cases o with
 | sq c l => obtain ⟨x, _, h, _⟩ := this; exact ⟨x, h⟩
 | fm c v h l => obtain ⟨x, _, h, _⟩ := this; exact ⟨x, h⟩
 | st cs => obtain ⟨x, _, h, _⟩ := this; exact ⟨x, h⟩
 | sb s => obtain ⟨x, h, _⟩ := this; exact ⟨x, h⟩
def plB (pl : Pl) (m : List Nat) (n : Nat) (q : Pl) : Pl
 | .m b => match idxV m b 0 with
   | some i => q (.m i)
   | none => if b < n then pl (.m b) else q (.m (m.length + (b - n)))
 | .n b i => if b ∈ m \/ n <= b then none else pl (.n b i)
theorem YfZ {i a : Nat} (hn : m.Nodup) (h : m[i]? = some a) : idxV m a 0 = some i := by
 obtain ⟨j, hj⟩ := YkU 0 (YzQ h)
 have hs := (Yb3 hj).2
 simp only [Nat.sub_zero] at hs
 have g1 := YzN.1 h
 have g2 := YzN.1 hs
 have := (List.getElem_inj (h₀ := g1.1) (h₁ := g2.1) hn).1 (by rw [g1.2, g2.2])
 rw [hj, this]
abbrev mapR (m : List Nat) (n : Nat) : Nat -> Option Nat := fun a => some (Yw9 m n a)
theorem back {Kp : Nat -> Prop} {X2 : YwG} {v : TV} (hr : HRel Fr H0 X pl H) (hrK : HRel Kp H (renX X m) (plR pl m) H) (hKf : ∀ x, Fr x -> Kp x) (hKp : ∀ (p : Pos) x, p.of ∉ m -> pl p = some x -> Kp x) (hnd : m.Nodup)
  (hlv : ∀ a ∈ m, ∃ o, vget X a = some o)
  (hkd : ∀ i o, i < (renX X m).length -> vget X2 i = some o -> (∃ c l c' l', o = .sq c l /\ vget (renX X m) i = some (.sq c' l') /\ l.length = l'.length) \/ (∃ cs cs', o = .st cs /\ vget (renX X m) i = some (.st cs')) \/ ∃ s s', o = .sb s /\ vget (renX X m) i = some (.sb s') /\ s.size = s'.size)
  (hal2 : ∀ i o, vget X2 i = some o -> ∃ z, plI (plR pl m) (renX X m).length H.length X2 (.m i) = some z)
  (hlen : (renX X m).length <= X2.length) (hv : wfT X2 v = true) (hX : wfX X2 X2 = true) :
  TR (Yw6 m (mapR m X.length) X X2) (plB pl m X.length (plI (plR pl m) (renX X m).length H.length X2)) (v.ren (mapR m X.length)) (encT X2 (plI (plR pl m) (renX X m).length H.length X2) v) /\
  HRel Fr H0 (Yw6 m (mapR m X.length) X X2) (plB pl m X.length (plI (plR pl m) (renX X m).length H.length X2)) (Yxc Kp H (renX X m).length X2 (plI (plR pl m) (renX X m).length H.length X2)) /\
  Ext X pl (Yw6 m (mapR m X.length) X X2) (plB pl m X.length (plI (plR pl m) (renX X m).length H.length X2)) /\
  (∀ a x, X.length <= a -> plB pl m X.length (plI (plR pl m) (renX X m).length H.length X2) (.m a) = some x -> H.length <= x) := by
 have hXs : (renX X m).length = m.length := by simp [renX]
 have hml : m.length <= X2.length := by rw [<- hXs]; exact hlen
 have hat := fun {i x : Nat} => Yla (Xs := renX X m) hrK hlen (i := i) (x := x)
 have hkp := fun {x : Nat} => Ylb (Xs := renX X m) hrK (X2 := X2) (x := x)
 have hqi := fun {p q : Pos} {x : Nat} => YfW (Xs := renX X m) hrK (X2 := X2) (p := p) (q := q) (x := x)
 have hql : ∀ {i x}, plI (plR pl m) (renX X m).length H.length X2 (.m i) = some x -> ∃ o, vget X2 i = some o := by
  intro i x h
  simp only [plI] at h
  split at h
  ·exact ⟨_, by assumption⟩
  ·cases h
 have hqs : ∀ {i x}, plI (plR pl m) (renX X m).length H.length X2 (.m i) = some x -> (∃ a, m[i]? = some a /\ pl (.m a) = some x) \/ (m.length <= i /\ H.length <= x) := by
  intro i x h
  simp only [plI] at h
  split at h
  ·split at h
   ·simp only [plR] at h
    split at h
    ·exact .inl ⟨_, by assumption, h⟩
    ·cases h
   ·injection h with h; exact .inr ⟨by omega, by omega⟩
  ·cases h
 have hqk : ∀ {i o}, i < m.length -> vget X2 i = some o -> plI (plR pl m) (renX X m).length H.length X2 (.m i) = plR pl m (.m i) := by
  intro i o hi ho
  simp only [plI, ho, hXs, if_pos hi]
 have hHl := YdT Kp H (renX X m).length X2 (plI (plR pl m) (renX X m).length H.length X2)
 generalize hH' : Yxc Kp H (renX X m).length X2 (plI (plR pl m) (renX X m).length H.length X2) = H' at hat hkp hHl ⊢
 generalize hq : plI (plR pl m) (renX X m).length H.length X2 = q at hat hqi hql hqs hqk hal2 ⊢
 have hbm : ∀ b ∈ m, b < X.length := fun b hb => by obtain ⟨o, ho⟩ := hlv b hb; exact Yah ho
 have hml' := YrG (X := X) (m := m) (mapR m X.length) X2
 have hf : ∀ i, (∃ a, m[i]? = some a /\ Yw9 m X.length i = a) \/ (m.length <= i /\ Yw9 m X.length i = X.length + (i - m.length)) := by
  intro i
  unfold Yw9
  by_cases hi : i < m.length
  ·exact .inl ⟨m[i], YzO hi, by rw [show Nat.blt i m.length = true by simpa [Nat.blt_eq] using hi, cond_true]; simp [List.getD, hi]⟩
  ·exact .inr ⟨by omega, by rw [show Nat.blt i m.length = false by (cases h : Nat.blt i m.length with | true => exact absurd (by simpa [Nat.blt_eq] using h) hi | false => rfl), cond_false]⟩
 have P1 : ∀ i, plB pl m X.length q (.m (Yw9 m X.length i)) = q (.m i) := by
  intro i
  rcases hf i with ⟨a, h1, h2⟩ | ⟨h1, h2⟩
  ·rw [h2]; simp only [plB, YfZ hnd h1]
  ·rw [h2]
   have : X.length + (i - m.length) ∉ m := fun h => by have := hbm _ h; omega
   simp only [plB, YdN this]
   rw [if_neg (by omega), show m.length + (X.length + (i - m.length) - X.length) = i by omega]
 have V1 : ∀ i, i < X2.length -> vget (Yw6 m (mapR m X.length) X X2) (Yw9 m X.length i) = (vget X2 i).map (VObj.ren (mapR m X.length)) := by
  intro i hi
  rcases hf i with ⟨a, h1, h2⟩ | ⟨h1, h2⟩
  ·rw [h2]; exact YrE _ hnd h1 (hbm a (YzQ h1)) hi
  ·rw [h2, YrF _ (by omega), show m.length + (X.length + (i - m.length) - X.length) = i by omega]
 have L1 : ∀ i, i < X2.length -> Yw9 m X.length i < (Yw6 m (mapR m X.length) X X2).length := by
  intro i hi
  rw [hml']
  rcases hf i with ⟨a, h1, h2⟩ | ⟨h1, h2⟩
  ·have := hbm a (YzQ h1); omega
  ·omega
 have look : ∀ {a b : Nat}, a < X2.length -> mapR m X.length a = some b -> b < (Yw6 m (mapR m X.length) X X2).length /\ vget (Yw6 m (mapR m X.length) X X2) b = (vget X2 a).map (VObj.ren (mapR m X.length)) /\ plB pl m X.length q (.m b) = q (.m a) := by
  intro a b ha hb
  injection hb with hb; subst hb
  exact ⟨L1 a ha, V1 a ha, P1 a⟩
 have surj : ∀ b, (b ∈ m \/ X.length <= b) -> ∃ i, Yw9 m X.length i = b /\ (b < (Yw6 m (mapR m X.length) X X2).length -> i < X2.length) := by
  intro b hb
  by_cases hbm' : b ∈ m
  ·obtain ⟨i, hi⟩ := Yz1.1 hbm'
   refine ⟨i, ?_, fun _ => ?_⟩
   ·rcases hf i with ⟨a, h1, h2⟩ | ⟨h1, h2⟩
    ·rw [hi] at h1; injection h1 with h1; rw [h2, h1]
    ·have := (YzN.1 hi).1; omega
   ·have := (YzN.1 hi).1; omega
  ·have hb := hb.resolve_left hbm'
   refine ⟨m.length + (b - X.length), ?_, fun h => by rw [hml'] at h; omega⟩
   rcases hf (m.length + (b - X.length)) with ⟨a, h1, h2⟩ | ⟨h1, h2⟩
   ·have := (YzN.1 h1).1; omega
   ·omega
 have hx : Ext X pl (Yw6 m (mapR m X.length) X X2) (plB pl m X.length q) := by
  refine ⟨by rw [hml']; omega, fun a ha => ?_⟩
  by_cases hm : a ∈ m
  ·obtain ⟨i, hi⟩ := Yz1.1 hm
   have hil := (YzN.1 hi).1
   have hb : Yw9 m X.length i = a := by
    rcases hf i with ⟨a', h1, h2⟩ | ⟨h1, h2⟩
    ·rw [hi] at h1; injection h1 with h1; rw [h2, h1]
    ·omega
   have hv1 := V1 i (by omega)
   have hp1 := P1 i
   rw [hb] at hv1 hp1
   cases ho : vget X2 i with
   | none => rw [ho] at hv1; exact .inl hv1
   | some o2 =>
     rw [ho] at hv1
     obtain ⟨o, hoa⟩ := hlv a hm
     have hre := Yb4 (X := X) hi
     rw [hoa] at hre
     have hpl : plB pl m X.length q (.m a) = pl (.m a) := by
      rw [hp1, hqk hil ho]; simp only [plR, hi]
     rcases hkd i o2 (by omega) ho with ⟨c, l, c', l', e1, e2, e3⟩ | ⟨cs, cs', e1, e2⟩ | ⟨s, s', e1, e2, e3⟩
     ·subst e1
      rw [e2] at hre
      cases o with
      | sq c0 l0 =>
        simp only [Option.map_some, VObj.ren, Option.some.injEq] at hre
        injection hre with hre1 hre2
        subst hre1; have hre2 := eq_of_heq hre2; subst hre2
        refine .inr ⟨_, _, hoa, hv1, ?_, ?_, hpl, rfl, fun _ _ _ _ e => by cases e⟩ <;> simp [VObj.ren, elN, lenO, e3]
      | st cs => simp [VObj.ren] at hre
      | sb _ => simp [VObj.ren] at hre
      | fm _ _ _ _ => simp [VObj.ren] at hre
     ·subst e1
      rw [e2] at hre
      cases o with
      | sq c0 l0 => simp [VObj.ren] at hre
      | st cs => exact .inr ⟨_, _, hoa, hv1, rfl, rfl, hpl, rfl, fun _ _ _ _ e => by cases e⟩
      | sb _ => simp [VObj.ren] at hre
      | fm _ _ _ _ => simp [VObj.ren] at hre
     ·subst e1
      rw [e2] at hre
      cases o with
      | sq c0 l0 => simp [VObj.ren] at hre
      | st cs => simp [VObj.ren] at hre
      | sb s0 =>
        simp only [Option.map_some, VObj.ren, Option.some.injEq] at hre
        injection hre with hre1
        subst hre1
        refine .inr ⟨_, _, hoa, hv1, ?_, ?_, hpl, rfl, fun _ _ _ _ e => by cases e⟩ <;> simp [VObj.ren, elN, lenO, e3]
      | fm _ _ _ _ => simp [VObj.ren] at hre
  ·have hg := Ylf (X := X) (mapR m X.length) (Y := X2) hm ha
   cases ho : vget X a with
   | none => exact .inl (hg.trans ho)
   | some o =>
     refine .inr ⟨o, o, rfl, hg.trans ho, rfl, rfl, ?_, rfl, fun c ver hole l e => ⟨ver, hole, l, e, rfl, .inr ⟨rfl, fun h => ⟨h, fun i => ⟨rfl, ?_⟩⟩⟩⟩⟩
     ·simp only [plB, YdN hm, if_pos ha]
     ·simp only [plB]; rw [if_neg (by rintro (h | h); exact hm h; omega)]
 have hpm : ∀ {p : Pos} {x}, (p.of ∈ m \/ X.length <= p.of) -> plB pl m X.length q p = some x -> ∃ i, p = .m (Yw9 m X.length i) /\ q (.m i) = some x := by
  intro p x hA hp
  cases p with
  | n b i =>
    simp only [plB] at hp
    split at hp
    ·cases hp
    ·rename_i h; exact absurd hA h
  | m b =>
    obtain ⟨i, hi, _⟩ := surj b hA
    exact ⟨i, by rw [hi], by rw [<- P1 i, hi]; exact hp⟩
 refine ⟨(Ylc hal2 v hv).renG look, ?_, hx, fun a x ha hp => ?_⟩
 ·refine hr.build (fun b => b ∈ m \/ X.length <= b) hx (fun b hb => ?_) (fun p hb => ?_) (fun p x hb hp => ?_) (fun b o hA ho => ?_) (fun p x hA hp => ?_) (fun p x hA hp => ?_) (fun p q x hA hB hp hq => ?_) (fun x hx => hkp (hKf x hx)) (by omega)
  ·rw [not_or] at hb
   exact Ylf _ hb.1 (by omega)
  ·rw [not_or] at hb
   cases p with
   | m b => simp only [Pos.of] at hb; simp only [plB, YdN hb.1]; rw [if_pos (by omega)]
   | n b i => simp only [Pos.of] at hb; simp only [plB]; rw [if_neg (by rintro (h | h); exact hb.1 h; exact hb.2 h)]
  ·rw [not_or] at hb
   exact hkp (hKp p x hb.1 hp)
  ·obtain ⟨i, hi, hl⟩ := surj b hA
   have hil := hl (Yah ho)
   rw [<- hi, V1 i hil, Option.map_eq_some_iff] at ho
   obtain ⟨o2, ho2, rfl⟩ := ho
   obtain ⟨z, hz⟩ := hal2 i o2 ho2
   have hp : plB pl m X.length q (.m b) = some z := by rw [<- hi, P1 i]; exact hz
   have hH := hat hz
   rcases YdU hX ho2 with ⟨c, l, rfl, h0⟩ | ⟨cs, rfl, h0, hw⟩ | ⟨s, rfl⟩
   ·refine ⟨z, l.map c.enc, hp, by rw [hH]; simp only [encO, ho2], h0, by simp, fun j e v' h1 h2 => ?_⟩
    rw [YzP, h2, Option.map_some] at h1; injection h1 with h1; subst h1
    exact ⟨rfl, fun j x x' h1 h2 => by rw [h1] at h2; injection h2 with h2; subst h2; exact .refl _⟩
   ·have hw' := YcO hal2 cs hw
    refine ⟨z, YxR X2 q cs, hp, by rw [hH]; simp only [encO, ho2, Yar, Yz7], by simpa [Yar] using h0, ?_⟩
    refine ⟨by rw [Yar]; simpa using hw'.1, fun j c a h1 h2 => ?_⟩
    rw [Yar, YzP, Option.map_eq_some_iff] at h1
    obtain ⟨y, h1, rfl⟩ := h1
    exact (hw'.2 j y a h1 h2).renG look
   ·exact ⟨z, hp, by rw [hH]; simp only [encO, ho2]⟩
  ·obtain ⟨i, rfl, h2⟩ := hpm hA hp
   obtain ⟨o, ho⟩ := hql h2
   exact ⟨o.ren (mapR m X.length), by rw [V1 i (Yah ho), ho]; rfl⟩
  ·obtain ⟨i, rfl, h2⟩ := hpm hA hp
   rcases hqs h2 with ⟨a, h3, h4⟩ | ⟨_, h4⟩
   ·exact .inl ⟨.m a, h4, .inl (YzQ h3)⟩
   ·exact .inr h4
  ·obtain ⟨i, rfl, h2⟩ := hpm hA hp
   obtain ⟨j, rfl, h4⟩ := hpm hB hq
   have := hqi h2 h4
   injection this with this; rw [this]
 ·have hna : a ∉ m := fun h => by have := hbm a h; omega
  simp only [plB, YdN hna] at hp
  rw [if_neg (by omega)] at hp
  rcases hqs hp with ⟨a', h3, h4⟩ | ⟨_, h4⟩
  ·have := (YzN.1 h3).1; omega
  ·exact h4
variable {β : Type} {r : β}
theorem Ylh : ∀ {d : Nat} {m : List Nat}, m.Nodup -> (Yxu X d m).Nodup
 | 0, m, h => h
 | d + 1, m, h => by
   simp only [Yxu]
   cases Nat.beq (YwU X m (YyE m X 0)).length m.length with
   | true => exact h
   | false => exact Ylh (YcI (YbK h))
theorem Yli : ∀ {d : Nat} {m : List Nat}, (∀ a ∈ m, ∃ o, vget X a = some o) -> ∀ a ∈ Yxu X d m, ∃ o, vget X a = some o
 | 0, m, h => h
 | d + 1, m, h => by
   simp only [Yxu]
   cases Nat.beq (YwU X m (YyE m X 0)).length m.length with
   | true => exact h
   | false => exact Yli (YfL (YcJ h))
theorem YrI {T : Tabs} {C : Ctx} (hT : TOK T C) {g : Nat} {args : List TV} {as : List AV} {K : TV -> YwG -> Option β} (hp : T.pf g = false) (h : YyF T g args X K = some r) (hc : CT X pl args as) (hr : HRel Fr H0 X pl H) (hfr : FrOK Fr H0) {KA : AV -> Heap -> Prop}
  (hk : ∀ v X' va H' pl', K v X' = some r -> TR X' pl' v va -> HRel Fr H0 X' pl' H' -> Ext X pl X' pl' -> H.length <= H'.length -> (∀ a x, X.length <= a -> pl' (.m a) = some x -> H.length <= x) -> KA va H') : Yyc C g as H KA := by
 unfold YyF at h
 simp only at h
 have hnd : (Yxu X 4 (Yw2 X 5 (YwU X [] (TV.idss args)))).Nodup := Ylh (YcI (YbK List.nodup_nil))
 have hlv : ∀ a ∈ Yxu X 4 (Yw2 X 5 (YwU X [] (TV.idss args))), ∃ o, vget X a = some o := Yli (YfL (YcJ (fun a h => by cases h)))
 generalize Yxu X 4 (Yw2 X 5 (YwU X [] (TV.idss args))) = m at h hnd hlv
 obtain ⟨e1, h⟩ := Yaa h
 simp only [Bool.and_eq_true] at e1
 split at h
 ·rename_i svs sos hs1 hs2
  split at h
  ·rename_i e he
   split at h
   ·rename_i x hx
    cases hy : e.F x with
    | none => rw [hy] at h; cases h
    | some y =>
      rw [hy] at h
      simp only [Option.bind_some] at h
      split at h
      ·rename_i v l hv
       split at h
       ·rename_i X2 hX2
        obtain ⟨e2, h⟩ := Yaa h
        simp only [Bool.and_eq_true] at e2
        obtain ⟨hK, hkd⟩ := YcQ h
        obtain ⟨hmem, hg⟩ := YfY he
        have hlen : (renX X m).length <= X2.length := by simpa [renX] using e2.1
        have hml : m.length <= X2.length := by simpa using e2.1
        have hXs : (renX X m).length = m.length := by simp [renX]
        let Kp : Nat -> Prop := fun x => Fr x \/ ∃ p : Pos, p.of ∉ m /\ pl p = some x
        have hrs := YfN hr hnd
        have hup : ∀ {p : Pos} {x}, plR pl m p = some x -> ∃ q : Pos, q.of ∈ m /\ pl q = some x := by
         intro p x h
         cases p with
         | m b => simp only [plR] at h; split at h
                  ·rename_i a ha; exact ⟨.m a, YzQ ha, h⟩
                  ·cases h
         | n b i => simp only [plR] at h; split at h
                    ·rename_i a ha; exact ⟨.n a i, YzQ ha, h⟩
                    ·cases h
        have hrK : HRel Kp H (renX X m) (plR pl m) H := by
         refine ⟨hrs.obj, hrs.inj, hrs.own, fun x hx => ⟨?_, rfl⟩, fun p x hp hx => ?_, Nat.le_refl _⟩
         ·rcases hx with hx | ⟨p, _, hp⟩
          ·have := (hr.fr x hx).1; have := hr.le; omega
          ·exact hr.bd hp
         ·obtain ⟨q, h1, h2⟩ := hup hp
          rcases hx with hx | ⟨p', h3, h4⟩
          ·exact hr.nfr _ _ h2 hx
          ·have := hr.inj _ _ _ h2 h4; subst this; exact h3 h1
        have hA : ∀ a x, (vget X a).isSome = true -> a ∉ m -> pl (.m a) = some x -> Kp x := fun a x _ h1 h2 => .inr ⟨.m a, h1, h2⟩
        have hfK : FrOK Kp H := by
         intro x hx
         rcases hx with hx | ⟨p, hpm, hp⟩
         ·obtain ⟨⟨o, ho⟩, h2⟩ := hfr x hx
          have h3 := (hr.fr x hx).2
          exact ⟨⟨o, h3.trans ho⟩, fun o' ho' e' he' c hc' => Yrv (fun z hz => .inl hz) (h2 o' (h3.symm.trans ho') e' he' c hc')⟩
         ·refine ⟨hr.lt hp, fun ob hob e' he' c hc' => ?_⟩
          have hlive := hr.own p x hp
          have hrow : ∀ {el : List (List AV)} {cc : Cs} {l : List cc.den}, Rows el cc l -> e' ∈ el -> RefIn Kp c := by
           intro el cc l hrw h1
           obtain ⟨i, hi⟩ := Yz1.1 h1
           have hil : i < l.length := by rw [<- hrw.1]; exact (YzN.1 hi).1
           have hcc := hrw.2 i e' l[i] hi (YzO hil)
           obtain ⟨j, hj⟩ := Yz1.1 hc'
           obtain ⟨z', hz'⟩ := Yab hcc.1.symm hj
           exact YkY (Ycq (hcc.2 j c z' hj hz') (YbD cc _ z' (YzQ hz')))
          have ob0 : ∃ o, vget X p.of = some o := by
           cases p with
           | m a => exact hlive
           | n a i => obtain ⟨c, v, h, l, ho, _⟩ := hlive; exact ⟨_, ho⟩
          obtain ⟨o, ho⟩ := ob0
          have hcl := Ylg e1.1 ho (by rw [Nat.zero_add]; exact hpm)
          cases o with
          | sq c0 l0 =>
            have hpe : p = .m p.of := by
             cases p with
             | m a => rfl
             | n a i => obtain ⟨c, v, h, l, ho', _⟩ := hlive; simp only [Pos.of] at ho; rw [ho'] at ho; cases ho
            obtain ⟨x', el, q1, q2, q3, q4⟩ := hr.obj _ _ ho
            rw [hpe] at hp; rw [hp] at q1; injection q1 with q1; subst q1
            rw [hob] at q2; injection q2 with q2; injection q2 with q2; subst q2
            exact hrow q4 he'
          | sb s0 =>
            have hpe : p = .m p.of := by
             cases p with
             | m a => rfl
             | n a i => obtain ⟨c, v, h, l, ho', _⟩ := hlive; simp only [Pos.of] at ho; rw [ho'] at ho; cases ho
            obtain ⟨x', q1, q2⟩ := hr.obj _ _ ho
            rw [hpe] at hp; rw [hp] at q1; injection q1 with q1; subst q1
            rw [hob] at q2; injection q2 with q2; injection q2 with q2; subst q2
            exact hrow (Ya1 s0).rows he'
          | st cs =>
            have hpe : p = .m p.of := by
             cases p with
             | m a => rfl
             | n a i => obtain ⟨c, v, h, l, ho', _⟩ := hlive; simp only [Pos.of] at ho; rw [ho'] at ho; cases ho
            obtain ⟨x', f, q1, q2, q3, q4⟩ := hr.obj _ _ ho
            rw [hpe] at hp; rw [hp] at q1; injection q1 with q1; subst q1
            rw [hob] at q2; injection q2 with q2; injection q2 with q2; subst q2
            simp only [Yz0] at he'; subst he'
            exact YcP hA cs (hcl.1 cs rfl) q4 c hc'
          | fm c0 v0 h0 l0 =>
            have hn0 := hcl.2 _ _ _ _ rfl
            obtain ⟨x', el, q1, q2, q3, q4, q5, q6⟩ := hr.obj _ _ ho
            rcases YcE hr ho hp rfl with hpe | ⟨i, hpe, hi, _⟩
            ·rw [hpe] at hp; rw [hp] at q1; injection q1 with q1; subst q1
             rw [hob] at q2; injection q2 with q2; injection q2 with q2; subst q2
             obtain ⟨i, hi⟩ := Yz1.1 he'
             have hil : i < l0.length := by rw [<- q4]; exact (YzN.1 hi).1
             rcases q6 i e' l0[i] hi (YzO hil) (by rw [hn0]; simp) with ⟨y', el', g1, g2, g3, g4⟩ | ⟨g1, g2, g3⟩
             ·subst g2; simp only [Yz0] at hc'; subst hc'
              exact .ref _ _ _ (.inr ⟨.n p.of i, hpm, g1⟩)
             ·subst g3; simp only [Yz0] at hc'; subst hc'; exact .emp
            ·have hil : i < el.length := by omega
             rcases q6 i _ l0[i] (YzO hil) (YzO hi) (by rw [hn0]; simp) with ⟨y', el', g1, g2, g3, g4⟩ | ⟨g1, _⟩
             ·rw [hpe] at hp; rw [hp] at g1; injection g1 with g1; subst g1
              rw [hob] at g3; injection g3 with g3; injection g3 with g3; subst g3
              exact hrow g4 he'
             ·rw [hpe] at hp; rw [hp] at g1; cases g1
        have hcs : CT (renX X m) (plR pl m) (TV.rens (fun a => idxV m a 0) args) as := by
         refine ⟨by rw [Yar]; simpa using hc.1, fun j c a h1 h2 => ?_⟩
         rw [Yar, YzP, Option.map_eq_some_iff] at h1
         obtain ⟨z, h1, rfl⟩ := h1
         exact (hc.2 j z a h1 h2).ren
        have hpl0 : ∀ i o, vget (renX X m) i = some o -> ∃ z, plR pl m (.m i) = some z := fun i o ho => Yy7 hrs ho
        have hpl1 : ∀ i, i < (renX X m).length -> ∀ o, vget X2 i = some o -> ∃ z, plR pl m (.m i) = some z := by
         intro i hi o ho
         rcases hkd i o hi ho with ⟨c, l, c', l', _, h2, _⟩ | ⟨cs, cs', _, h2⟩ | ⟨s, s', _, h2, _⟩
         ·exact hpl0 i _ h2
         ·exact hpl0 i _ h2
         ·exact hpl0 i _ h2
        have hRI : e.RI as H (encT X2 (plI (plR pl m) (renX X m).length H.length X2) v) (Yxc Kp H (renX X m).length X2 (plI (plR pl m) (renX X m).length H.length X2)) :=
         ⟨x, y, _, renX X m, plR pl m, Kp, v, l, X2, hy, hx, e1.2, hcs, hrK, hfK, hpl0, hv, hX2, hlen, e2.2.1, e2.2.2, hpl1, rfl, rfl⟩
        refine .inr ⟨by rw [hT.p.pf]; exact hp, as, _, _, Yks as, by rw [<- hg]; exact hT.fnI e hmem (by rw [hg]; exact hp) _ _ _ _ hRI, by rw [YdT]; omega, ?_⟩
        have hal2 : ∀ i o, vget X2 i = some o -> ∃ z, plI (plR pl m) (renX X m).length H.length X2 (.m i) = some z := by
         intro i o ho
         simp only [plI, ho]
         split
         ·rename_i hi; exact hpl1 i hi o ho
         ·exact ⟨_, rfl⟩
        have hme : (renX X m).length <= X2.length := hlen
        obtain ⟨b1, b2, b3, b4⟩ := back hr hrK (fun x h => .inl h) (fun p x h1 h2 => .inr ⟨p, h1, h2⟩) hnd hlv hkd hal2 hme e2.2.1 e2.2.2
        exact hk _ _ _ _ _ hK b1 b2 b3 (by rw [YdT]; omega) b4
       ·cases h
      ·cases h
   ·cases h
  ·cases h
 ·cases h
end
end Go.Abs
namespace Go.Abs
open Go Go.RowKit
def VI.ai (i : VI) : AI := ⟨i.dst, i.op.aop, i.guard, i.old, i.nw⟩
def VCode.er : VCode -> ACode
 | .bad => .bad
 | .skip => .skip
 | .reg ops => .reg (ops.map VI.ai)
 | .seq a b => .seq a.er b.er
 | .cond c a b => .cond c.er a.er b.er
 | .blk id b => .blk id b.er
 | .loop _ b => .loop b.er
 | .jn _ b => b.er
 | .exit id => .exit id
 | .ret => .ret
 | .fz _ b => b.er
 | .ow _ b => b.er
 | .regN _ ops => .reg (ops.map VI.ai)
section
variable {Fr : Nat -> Prop} {H0 : Heap} {β : Type} {r : β} {T : Tabs} {C : Ctx}
def MK (n0 : Nw) (m0 : Nat -> Prop) (X : YwG) (pl : Pl) (H : Heap) : Prop :=
 n0.1 <= X.length /\ (∀ x, H.length <= x -> m0 x) /\ ∀ a x, pl (.m a) = some x -> (Yx8 n0 a = false -> ¬ m0 x) /\ (Yx8 n0 a = true -> m0 x)
theorem Ylj {n : Nw} {a : Nat} (h : n.1 <= a) : Yx8 n a = true := by unfold Yx8; rw [Nat.ble_eq_true_of_le h]; rfl
structure RS (Fr : Nat -> Prop) (H0 : Heap) (n0 : Nw) (m0 : Nat -> Prop) (p0 : Nat × (Nat -> Option Nat)) (b : Nat) (s : VSt) (st : ASt) : Prop where
 base : st.base = b
 kb : p0.1 <= s.heap.length
 ex : ∃ pl, ERel s.heap pl s.env st.env /\ HRel Fr H0 s.heap pl st.heap /\ (∀ i, i < p0.1 -> ∀ x, pl (.m i) = some x -> p0.2 i = some x) /\ MK n0 m0 s.heap pl st.heap
theorem YrJ {X : YwG} {pl : Pl} {X' : YwG} {pl' : Pl} {H' : Heap} (hx : Ext X pl X' pl') (hr' : HRel Fr H0 X' pl' H') {p0 : Nat × (Nat -> Option Nat)} (hk : p0.1 <= X.length) (h : ∀ i, i < p0.1 -> ∀ x, pl (.m i) = some x -> p0.2 i = some x) :
  ∀ i, i < p0.1 -> ∀ x, pl' (.m i) = some x -> p0.2 i = some x := by
 intro i hi x hp
 obtain ⟨o, ho⟩ := hr'.own _ x hp
 rcases hx.keep i (by omega) with h' | ⟨o1, o', h1, h2, h3, h4, h5, _⟩
 ·rw [ho] at h'; cases h'
 ·rw [h5] at hp; exact h i hi x hp
theorem Ylk {X : YwG} {pl : Pl} {H : Heap} {n0 : Nw} {m0 : Nat -> Prop} (hm : MK n0 m0 X pl H) {X' : YwG} {pl' : Pl} {H' : Heap} (hr' : HRel Fr H0 X' pl' H') (hx : Ext X pl X' pl') (hl : H.length <= H'.length)
  (hn : ∀ a x, X.length <= a -> pl' (.m a) = some x -> H.length <= x) : MK n0 m0 X' pl' H' := by
 refine ⟨Nat.le_trans hm.1 hx.le, fun x h => hm.2.1 x (Nat.le_trans hl h), fun a x ha => ?_⟩
 obtain ⟨o, ho⟩ := hr'.own _ x ha
 have hal := Yah ho
 by_cases h : a < X.length
 ·rcases hx.keep a h with h' | ⟨o1, o', h1, h2, h3, h4, h5, _⟩
  ·rw [ho] at h'; cases h'
  ·rw [h5] at ha; exact hm.2.2 a x ha
 ·have h1 := hn a x (by omega) ha
  have hn' := Ylj (Nat.le_trans hm.1 (Nat.le_of_not_lt h))
  exact ⟨fun h => (by rw [hn'] at h; cases h), fun _ => hm.2.1 x h1⟩
theorem YrK {X : YwG} {pl : Pl} {H : Heap} {n0 : Nw} {m0 : Nat -> Prop} (hm : MK n0 m0 X pl H) {X' : YwG} {pl' : Pl} {H' : Heap} (hr' : HRel Fr H0 X' pl' H') (hx : Ext X pl X' pl') (hl : H.length <= H'.length)
  (hn : X'.length = X.length \/ (X'.length = X.length + 1 /\ pl' (.m X.length) = some H.length)) : MK n0 m0 X' pl' H' := by
 refine ⟨Nat.le_trans hm.1 hx.le, fun x h => hm.2.1 x (Nat.le_trans hl h), fun a x ha => ?_⟩
 obtain ⟨o, ho⟩ := hr'.own _ x ha
 have hal := Yah ho
 by_cases h : a < X.length
 ·rcases hx.keep a h with h' | ⟨o1, o', h1, h2, h3, h4, h5, _⟩
  ·rw [ho] at h'; cases h'
  ·rw [h5] at ha; exact hm.2.2 a x ha
 ·rcases hn with hn | ⟨hn, hp⟩
  ·omega
  ·have : a = X.length := by omega
   subst this
   rw [hp] at ha; injection ha with ha
   have hn' := Ylj hm.1
   exact ⟨fun h => (by rw [hn'] at h; cases h), fun _ => hm.2.1 x (by omega)⟩
theorem Yll (H : Heap) : ∀ us : List Upd, H.length <= (YwT H us).length
 | [] => Nat.le_refl _
 | u :: us => by
   simp only [YwT]
   refine Nat.le_trans ?_ (Yll _ us)
   cases u <;> simp [YxK]
theorem Ybo {X : YwG} {pl : Pl} {env : VEnv} {ae : Env} (h : ERel X pl env ae) {d : Option Nat} {v : TV} {a : AV} (hv : TR X pl v a) : ERel X pl (vput env d v) (put ae d a) := by
 cases d with
 | none => exact h
 | some d =>
   intro t
   simp only [vput, put, YwV, YwJ]
   have e0 : (d == t) = Nat.beq d t := by rw [Bool.eq_iff_iff, beq_iff_eq, Nat.beq_eq]
   rw [e0]
   cases Nat.beq d t with
   | true => exact hv
   | false => exact h t
theorem Ylm {X : YwG} {pl : Pl} {H : Heap} {n0 : Nw} {m0 : Nat -> Prop} (hm : MK n0 m0 X pl H) {v : TV} {a : AV} (h : oldC X n0 v = true) (ht : TR X pl v a) : (∀ i off len, a = .ref i off len -> ¬ m0 i) /\ (∀ i j k, a = .ptr i j k -> ¬ m0 i) /\ (∀ cs, a ≠ .agg cs) /\ (∀ f cs, a ≠ .clo f cs \/ ∃ g ds, v = .clo g ds) /\ (∀ i, a = .np i -> ¬ m0 i) := by
 cases v with
 | ref x =>
   simp only [oldC, Bool.and_eq_true] at h
   obtain ⟨o, ho⟩ := Option.isSome_iff_exists.1 h.1
   obtain ⟨y, n, rfl, hp, _⟩ := Yaq ho ht
   have := (hm.2.2 x y hp).1 (by simpa using h.2)
   exact ⟨fun i off len e => (by injection e with e; subst e; exact this), fun i j k e => (by cases e), fun cs e => (by cases e), fun f cs => .inl (fun e => by cases e), fun i e => (by cases e)⟩
 | pre x n =>
   simp only [oldC, Bool.and_eq_true] at h
   obtain ⟨o, ho⟩ := Option.isSome_iff_exists.1 h.1
   obtain ⟨y, n, rfl, hp, _⟩ := Yb0 ho ht
   have := (hm.2.2 x y hp).1 (by simpa using h.2)
   exact ⟨fun i off len e => (by injection e with e; subst e; exact this), fun i j k e => (by cases e), fun cs e => (by cases e), fun f cs => .inl (fun e => by cases e), fun i e => (by cases e)⟩
 | ptr x i j =>
   simp only [oldC, Bool.and_eq_true] at h
   obtain ⟨o, ho⟩ := Option.isSome_iff_exists.1 h.1
   obtain ⟨y, rfl, hp, _⟩ := Ybm ho ht
   have := (hm.2.2 x y hp).1 (by simpa using h.2)
   exact ⟨fun i off len e => (by cases e), fun i j k e => (by injection e with e; subst e; exact this), fun cs e => (by cases e), fun f cs => .inl (fun e => (by cases e)), fun i e => (by cases e)⟩
 | np x =>
   simp only [oldC, Bool.and_eq_true] at h
   obtain ⟨o, ho⟩ := Option.isSome_iff_exists.1 h.1
   obtain ⟨y, rfl, hp⟩ := YaS ho ht
   have := (hm.2.2 x y hp).1 (by simpa using h.2)
   exact ⟨fun i off len e => (by cases e), fun i j k e => (by cases e), fun cs e => (by cases e), fun f cs => .inl (fun e => (by cases e)), fun i e => (by injection e with e; subst e; exact this)⟩
 | u => cases h
 | sub _ _ _ => cases h
 | pti _ _ _ _ _ => cases h
 | v _ => cases h
 | ag _ => cases h
 | clo g ds => cases ht with
   | clo _ _ as => exact ⟨fun i off len e => (by cases e), fun i j k e => (by cases e), fun cs e => (by cases e), fun f cs => .inr ⟨_, _, rfl⟩, fun i e => (by cases e)⟩
 | l c v =>
   cases ht with
   | l _ _ _ hc => rcases YaP hc with ⟨rfl, _⟩ | ⟨l0, rfl, _⟩ <;> exact ⟨fun i off len e => (by cases e), fun i j k e => (by cases e), fun cs e => (by cases e), fun f cs => .inl (fun e => by cases e), fun i e => (by cases e)⟩
 | _ => cases ht; exact ⟨fun i off len e => (by cases e), fun i j k e => (by cases e), fun cs e => (by cases e), fun f cs => .inl (fun e => by cases e), fun i e => (by cases e)⟩
theorem Yln {X : YwG} {pl : Pl} {H : Heap} {n0 : Nw} {m0 : Nat -> Prop} (hm : MK n0 m0 X pl H) {v : TV} {a : AV} (h : oldB X n0 v = true) (ht : TR X pl v a) : (∀ i, nm1 i a -> ¬ m0 i) /\ (∀ i j k, a = .ptr i j k -> ¬ m0 i) /\ (∀ cs, a = .agg cs -> ∀ i off len, AV.ref i off len ∈ cs -> ¬ m0 i) /\ (∀ f cs, a ≠ .clo f cs \/ ∃ g ds, v = .clo g ds) /\ (∀ i, a = .np i -> ¬ m0 i) := by
 have gen : oldC X n0 v = true -> (∀ i, nm1 i a -> ¬ m0 i) /\ (∀ i j k, a = .ptr i j k -> ¬ m0 i) /\ (∀ cs, a = .agg cs -> ∀ i off len, AV.ref i off len ∈ cs -> ¬ m0 i) /\ (∀ f cs, a ≠ .clo f cs \/ ∃ g ds, v = .clo g ds) /\ (∀ i, a = .np i -> ¬ m0 i) := by
  intro h
  obtain ⟨h1, h2, h3, h4, h5⟩ := Ylm hm h ht
  refine ⟨fun i hn => ?_, h2, fun cs e => absurd e (h3 cs), h4, h5⟩
  cases a with
  | ref x off len => have hn : i = x := hn; subst hn; exact h1 _ _ _ rfl
  | agg cs => exact absurd rfl (h3 cs)
  | _ => exact hn.elim
 cases v with
 | ag cs =>
   cases ht with
   | ag _ as hl hc =>
     have key : ∀ i off len, AV.ref i off len ∈ as -> ¬ m0 i := by
      intro i off len hmem
      obtain ⟨j, hj⟩ := Yz1.1 hmem
      obtain ⟨c, hcj⟩ := Yab hl hj
      have := Yz9.1 (show cs.all (oldC X n0) = true from h) c (YzQ hcj)
      exact (Ylm hm this (hc j c _ hcj hj)).1 i off len rfl
     exact ⟨fun i ⟨off, len, hn⟩ => key i off len hn, fun i j k e => (by cases e), fun cs' e i off len hn => (by injection e with e; subst e; exact key i off len hn), fun f cs => .inl (fun e => by cases e), fun i e => (by cases e)⟩
 | _ => exact gen h
theorem YrL {X : YwG} {pl : Pl} {H : Heap} {n0 : Nw} {m0 : Nat -> Prop} (hm : MK n0 m0 X pl H) {v : TV} {a : AV} (h : oldT X n0 v = true) (ht : TR X pl v a) : YyM m0 a := by
 have gen : oldB X n0 v = true -> (∀ g ds, v ≠ .clo g ds) -> YyM m0 a := by
  intro h hn
  obtain ⟨h1, h2, h3, h4, h5⟩ := Yln hm h ht
  cases a with
  | ref x off len => exact h1 x rfl
  | ptr x i j => exact h2 x i j rfl
  | np x => exact h5 x rfl
  | agg cs => exact h3 cs rfl
  | clo f cs => rcases h4 f cs with e | ⟨g, ds, e⟩
                ·exact absurd rfl e
                ·exact absurd e (hn g ds)
  | _ => trivial
 cases v with
 | clo g cs =>
   cases ht with
   | clo _ _ as hl hc =>
     intro i c hmem hn
     obtain ⟨j, hj⟩ := Yz1.1 hmem
     obtain ⟨d, hd⟩ := Yab hl hj
     have := Yz9.1 (show cs.all (oldB X n0) = true from h) d (YzQ hd)
     exact (Yln hm this (hc j d c hd hj)).1 i hn
 | _ => exact gen h (fun g ds e => by cases e)
theorem Ybc {X : YwG} {pl : Pl} {H : Heap} {n0 : Nw} {m0 : Nat -> Prop} (hm : MK n0 m0 X pl H) {v : TV} {a : AV} (h : newT X n0 v = true) (ht : TR X pl v a) : Yyv m0 a := by
 cases v with
 | ref x =>
   simp only [newT, Bool.and_eq_true] at h
   obtain ⟨o, ho⟩ := Option.isSome_iff_exists.1 h.1
   obtain ⟨y, n, rfl, hp, _⟩ := Yaq ho ht
   exact (hm.2.2 x y hp).2 (by simpa using h.2)
 | ptr x i j =>
   simp only [newT, Bool.and_eq_true] at h
   obtain ⟨o, ho⟩ := Option.isSome_iff_exists.1 h.1
   obtain ⟨y, rfl, hp, _⟩ := Ybm ho ht
   exact (hm.2.2 x y hp).2 (by simpa using h.2)
 | np x =>
   simp only [newT, Bool.and_eq_true] at h
   obtain ⟨o, ho⟩ := Option.isSome_iff_exists.1 h.1
   obtain ⟨y, rfl, hp⟩ := YaS ho ht
   exact (hm.2.2 x y hp).2 (by simpa using h.2)
 | i k n => cases ht; trivial
 | b x => cases ht; trivial
 | s x => cases ht; trivial
 | e c => cases ht; trivial
 | l c v =>
   cases ht with
   | l _ _ _ hc => rcases YaP hc with ⟨rfl, _⟩ | ⟨l0, rfl, _⟩ <;> trivial
 | _ => cases h
theorem YrM (op : VOp) : op.aop.touched = op.touched.map VOpd.er := by
 cases op <;> rfl
theorem Ylo {X : YwG} {pl : Pl} {H : Heap} {n0 : Nw} {m0 : Nat -> Prop} (hm : MK n0 m0 X pl H) {env : VEnv} {ae : Env} (he : ERel X pl env ae) : ∀ l : List VOpd, (l.all fun x => oldT X n0 (vo env x)) = true -> YxC m0 ae (l.map VOpd.er)
 | [], _ => trivial
 | x :: l, h => by
   simp only [List.all_cons, Bool.and_eq_true] at h
   exact ⟨YrL hm h.1 (Yas he x), Ylo hm he l h.2⟩
theorem YrN {X : YwG} {pl : Pl} {H : Heap} {n0 : Nw} {m0 : Nat -> Prop} (hm : MK n0 m0 X pl H) {env : VEnv} {ae : Env} (he : ERel X pl env ae) {op : VOp} (h : nwT X n0 env op = true) : nwC m0 ae op.aop := by
 cases op with
 | app c w s x => exact Ybc hm h (Yas he s)
 | store n x y => exact Ybc hm h (Yas he x)
 | appD c s x => intro y hy; have : y = s.er := by simpa [XOp.look] using hy
                 subst this; exact Ybc hm h (Yas he s)
 | apps s x => intro y hy; have : y = s.er := by simpa [XOp.look] using hy
               subst this; exact Ybc hm h (Yas he s)
 | appb s x => intro y hy; have : y = s.er := by simpa [XOp.look] using hy
               subst this; exact Ybc hm h (Yas he s)
 | appDb s x => intro y hy; have : y = s.er := by simpa [XOp.look] using hy
                subst this; exact Ybc hm h (Yas he s)
 | mput o t V ag m k v => intro y hy; have : y = m.er := by simpa [XOp.look] using hy
                          subst this; exact Ybc hm h (Yas he m)
 | mdel o t V m k => intro y hy; have : y = m.er := by simpa [XOp.look] using hy
                     subst this; exact Ybc hm h (Yas he m)
 | cpy c d s => intro y hy; have : y = d.er := by simpa [XOp.look] using hy
                subst this; exact Ybc hm h (Yas he d)
 | _ => cases h
theorem frNo {H0 : Heap} : FrOK (fun _ => False) H0 := fun _ h => h.elim
theorem YrO (n : Nat) : HRel (fun _ => False) (List.replicate n none) [] (fun _ => none) (List.replicate n none) :=
 ⟨fun a o h => (by cases h), fun p q x h => (by cases h), fun p x h => (by cases h), fun x h => h.elim, fun p x h => (by cases h), Nat.le_refl _⟩
theorem YrP (c : Cs) (x : List c.den) : Rows (x.map c.enc) c x := by
 refine ⟨by simp, fun i e v' k1 k2 => ?_⟩
 rw [YzP, k2, Option.map_some] at k1
 injection k1 with k1; subst k1
 exact ⟨rfl, fun j x x' k1 k2 => by rw [k1] at k2; injection k2 with k2; subst k2; exact .refl _⟩
theorem heapI_one {n : Nat} {c : Cs} {z : List c.den} :
  Yxc (fun _ => False) (List.replicate n none) 0 [some (.sq c z)] (plI (fun _ => none) 0 (List.replicate n (none : Option AObj)).length [some (.sq c z)]) = List.replicate n none ++ [some ⟨c.width, z.map c.enc⟩] := by
 have hl : (List.replicate n (none : Option AObj)).length = n := by simp
 rw [hl]
 have hpl : ∀ i x, plI (fun _ => none) 0 n [some (.sq c z)] (.m i) = some x -> i = 0 /\ x = n := by
  intro i x h
  cases i with
  | zero => simp [plI, vget] at h; exact ⟨rfl, h.symm⟩
  | succ i => simp [plI, vget] at h
 have hp0 : plI (fun _ => none) 0 n [some (.sq c z)] (.m 0) = some n := by simp [plI, vget]
 apply YAm
 intro x
 unfold Yxc
 rw [YzP, hl]
 by_cases hx : x < n + 1
 ·rw [YAf (by simpa using hx)]
  simp only [Option.map_some, if_neg (id : ¬ False)]
  by_cases hn : x = n
  ·subst hn
   have hex : ∃ i, plI (fun _ => none) 0 x [some (.sq c z)] (.m i) = some x := ⟨0, hp0⟩
   rw [dif_pos hex]
   have hc := (hpl _ _ (Classical.choose_spec hex)).1
   rw [YzU (by simp), hc]
   simp [encO, vget]
  ·rw [dif_neg (fun ⟨i, hi⟩ => hn (hpl i x hi).2), YzS (by simp; omega), YAl, if_pos (by omega)]
 ·rw [YAa (by simpa using hx), YAa (by simp; omega)]; rfl
theorem YrQ (hT : TOK T C) {g : Nat} {args : List TV} {as : List AV} {X : YwG} {pl : Pl} {H : Heap} {K : TV -> YwG -> Option β} (hp : T.pf g = false) (h : YyH T g args X K = some r) (hc : CT X pl args as) (hr : HRel Fr H0 X pl H) {KA : AV -> Heap -> Prop}
  (hk : ∀ v X' va H' pl', K v X' = some r -> TR X' pl' v va -> HRel Fr H0 X' pl' H' -> Ext X pl X' pl' -> H.length <= H'.length -> (∀ a x, X.length <= a -> pl' (.m a) = some x -> H.length <= x) -> KA va H') :
  ∃ args' o len, All2 Coe as args' /\ MkC C g args' o len /\ KA (.ref H.length 0 len) (H ++ [some o]) := by
 unfold YyH at h
 cases hl : ldL X args with
 | mk ds lent =>
   rw [hl] at h
   simp only at h
   split at h
   ·rename_i svs hs
    split at h
    ·rename_i e hf
     obtain ⟨e1, e2⟩ := Yaa h
     simp only [Bool.and_eq_true] at e1
     obtain ⟨hm, hg⟩ := YfY hf
     split at e2
     ·rename_i x hx
      cases hy : e.F x with
      | none => rw [hy] at e2; cases e2
      | some y =>
        rw [hy] at e2
        simp only [Option.bind_some] at e2
        split at e2
        ·rename_i l hv
         split at e2
         ·rename_i c z hX2
          obtain ⟨hw, e3⟩ := Yaa e2
          have hw' : 0 < c.width := by simpa using hw
          obtain ⟨bs, g1, g2, g3⟩ := YfU hr hl hc
          have hbs := g3 (by simpa using e1.1)
          subst hbs
          refine ⟨avTs ds, ⟨c.width, z.map c.enc⟩, z.length, Yk8 g2 e1.2, ⟨hw', fun a ha => Yb5 ds a ha, fun e he x hx => ?_, fun n => ?_⟩, ?_⟩
          ·obtain ⟨v, _, rfl⟩ := Yz5.1 he
           exact YbD c v x hx
          ·rw [<- hg]
           refine hT.fnI e hm (by rw [hg]; exact hp) _ _ _ _ ⟨x, y, ds, [], fun _ => none, fun _ => False, .ref 0, l, [some (.sq c z)], hy, hx, rfl, ?_, YrO n, frNo, fun i o h => (by cases h), hv, hX2, Nat.zero_le _, rfl, by simp [wfX, hw], fun i hi => by simp at hi, ?_, heapI_one.symm⟩
           ·have := YcN (X := []) (pl := fun _ => none) ds e1.2
            exact this
           ·simp [encT, plI, vget, seqN, lenO]
          ·obtain ⟨k1, k2⟩ := Yat hr (.sq c z) ⟨c.width, z.map c.enc⟩ (fun _ => ⟨H.length, z.map c.enc, by unfold plS; rw [if_pos rfl], by simp, hw', YrP c z⟩)
           refine hk _ _ _ _ _ e3 (.ref X.length H.length _ _ (Yap _ _) rfl (by unfold plS; rw [if_pos rfl])) k1 k2 (by simp) (fun a x ha hx => ?_)
           unfold plS at hx
           split at hx
           ·injection hx with hx; omega
           ·have := hr.dead (p := .m a) (YaA ha); rw [this] at hx; cases hx
         ·cases e2
        ·cases e2
     ·cases e2
    ·cases h
   ·cases h
theorem YrR (hT : TOK T C) (hfr : FrOK Fr H0) {op : VOp} {env : VEnv} {ae : Env} {X : YwG} {pl : Pl} {H : Heap} {n0 : Nw} {m0 : Nat -> Prop} {K : TV -> YwG -> Option β} (h : vop T op env X K = some r) (he : ERel X pl env ae) (hr : HRel Fr H0 X pl H) (hm : MK n0 m0 X pl H)
  {KA : AV -> Heap -> Prop} (hk : ∀ v X' va H' pl', K v X' = some r -> TR X' pl' v va -> HRel Fr H0 X' pl' H' -> Ext X pl X' pl' -> MK n0 m0 X' pl' H' -> KA va H') : evOp C op.aop ae H KA := by
 have gen : vG op env X K = some r -> evG op.aop ae (hf H) H.length (fun v us => KA v (YwT H us)) := fun h =>
  Yro h he hr (fun v X' va us h1 ⟨pl', k1, k2, k3⟩ => hk v X' va _ pl' h1 k1 k2.1 k2.2 (YrK hm k2.1 k2.2 (Yll H us) k3))
 have call : ∀ {g : Nat} {args : List TV} {as : List AV}, YyG T g args X K = some r -> CT X pl args as -> Yyc C g as H KA := by
  intro g args as h hc
  unfold YyG at h
  cases hp : T.pf g with
  | true =>
    rw [hp, cond_true] at h
    exact YrB hT.p hp h hc hr (fun v va h1 h2 => hk v X va H pl h1 h2 hr (Ext.refl _ _) hm)
  | false =>
    rw [hp, cond_false] at h
    exact YrI hT hp h hc hr hfr (fun v X' va H' pl' h1 h2 h3 h4 h5 h6 => hk v X' va H' pl' h1 h2 h3 h4 (Ylk hm h3 h4 h5 h6))
 unfold vop at h
 split at h
 ·rename_i g args
  exact call h (YaT he args)
 ·rename_i x args
  have hx := Yas he x
  split at h
  ·rename_i f cs e1
   rw [e1] at hx
   simp only [VOp.aop, evOp, opK]
   generalize opd ae x.er = ax at hx ⊢
   cases hx with
   | clo _ _ as hl hc => exact ⟨f, as, rfl, call h ((YaT he args).append ⟨hl, hc⟩)⟩
  ·cases h
 ·rename_i x args
  have hx := Yas he x
  split at h
  ·rename_i f cs e1
   obtain ⟨hp, h⟩ := Yaa h
   rw [e1] at hx
   simp only [VOp.aop, evOp, opK]
   generalize opd ae x.er = ax at hx ⊢
   cases hx with
   | clo _ _ as hl hc => exact ⟨f, as, rfl, by rw [hT.p.pf]; exact hp, call h ((YaT he args).append ⟨hl, hc⟩)⟩
  ·cases h
 ·rename_i g args
  cases hp : T.pf g with
  | true => rw [hp] at h; cases h
  | false =>
    rw [hp, cond_false] at h
    exact YrQ hT hp h (YaT he args) hr (fun v X' va H' pl' h1 h2 h3 h4 h5 h6 => hk v X' va H' pl' h1 h2 h3 h4 (Ylk hm h3 h4 h5 h6))
 ·rename_i h1 h2 h3 h4
  have := gen h
  cases op <;> first | exact this | exact absurd rfl (h1 _ _) | exact absurd rfl (h2 _ _) | exact absurd rfl (h3 _ _) | exact absurd rfl (h4 _ _)
theorem Yf0 (hT : TOK T C) (hfr : FrOK Fr H0) {n0 : Nw} {m0 : Nat -> Prop} {b : Nat} {p0 : Nat × (Nat -> Option Nat)} : ∀ {ops : List VI} {s : VSt} {K : VSt -> Option β} {st : ASt}, vops T n0 ops s K = some r -> RS Fr H0 n0 m0 p0 b s st -> ∀ {KA : ASt -> Prop},
  (∀ s' st', K s' = some r -> RS Fr H0 n0 m0 p0 b s' st' -> KA st') -> Yxg C m0 (ops.map VI.ai) KA st
 | [], s, K, st, h, hs, KA, hk => hk s st h hs
 | i :: ops, ⟨env, X⟩, K, ⟨ae, H, b0⟩, h, ⟨hb, hkb, pl, he, hr, hpk, hm⟩, KA, hk => by
   have hb : b0 = b := hb
   subst hb
   simp only [vops] at h
   simp only [YzR, Yxg]
   have rec' : ∀ s' st', vops T n0 ops s' K = some r -> RS Fr H0 n0 m0 p0 b0 s' st' -> Yxg C m0 (ops.map VI.ai) KA st' := fun s' st' h1 h2 => Yf0 hT hfr h1 h2 hk
   have go : ∀ {env : VEnv} {ae : Env}, ERel X pl env ae -> vgo T n0 i env X (fun s' => vops T n0 ops s' K) = some r ->
     YxZ C m0 i.old i.nw i.op.aop ae H (fun v H' => Yxg C m0 (ops.map VI.ai) KA ⟨put ae i.dst v, H', b0⟩) := by
    intro env ae he h
    unfold vgo at h
    obtain ⟨hmk, h⟩ := Yaa h
    simp only [okM, Bool.and_eq_true, Bool.or_eq_true, Bool.not_eq_true'] at hmk
    refine ⟨fun hold => ?_, fun hnw => ?_, YrR hT hfr h he hr hm (fun v X' va H' pl' h1 h2 h3 h4 h5 => rec' _ _ h1 ⟨rfl, Nat.le_trans hkb h4.le, pl', Ybo (he.ext h4) h2, h3, YrJ h4 h3 hkb hpk, h5⟩)⟩
    ·rw [YrM]
     rcases hmk.1 with h1 | h1
     ·rw [h1] at hold; cases hold
     ·exact Ylo hm he _ h1
    ·rcases hmk.2 with h1 | h1
     ·rw [h1] at hnw; cases hnw
     ·exact YrN hm he h1
   have skip : ∀ {env : VEnv} {ae : Env}, ERel X pl env ae -> vops T n0 ops ⟨vput env i.dst undV, X⟩ K = some r -> Yxg C m0 (ops.map VI.ai) KA ⟨put ae i.dst (.v undef), H, b0⟩ :=
    fun he h => rec' _ _ h ⟨rfl, hkb, pl, Ybo he (.v _), hr, hpk, hm⟩
   have her : ∀ {g : Nat} {t : Bool}, ERel X pl ((g, .b t) :: env) ((g, .v (.bool t)) :: ae) := fun {g t} => Ybo (d := some g) he (.b t)
   unfold vai at h
   unfold evAI
   have e1 : (VI.ai i).guard = i.guard := rfl
   rw [e1]
   split at h
   ·rename_i hg
    rw [hg]
    exact go he h
   ·rename_i g w hg
    rw [hg]
    have hgt := he g
    simp only at h
    split at h
    ·rename_i t hx
     rw [hx] at hgt
     have hv : opd ae (.t g) = .v (.bool t) := by
      show YwJ ae g = _
      generalize YwJ ae g = a at hgt ⊢
      cases hgt; rfl
     cases w with
     | true =>
       simp only [opK]
       refine .inl ⟨t, hv, fun ht => ?_, fun ht => ?_⟩
       ·subst ht; exact go her h
       ·subst ht; exact skip her h
     | false =>
       simp only [opK]
       refine .inl ⟨t, hv, fun ht => ?_, fun ht => ?_⟩
       ·subst ht; exact skip her h
       ·subst ht; exact go her h
    ·rename_i hx
     rw [hx] at hgt
     have hv : opd ae (.t g) = .v undef := by
      show YwJ ae g = _
      generalize YwJ ae g = a at hgt ⊢
      cases hgt; rfl
     have := skip he h
     cases w <;> exact .inr ⟨hv, this⟩
    ·cases h
structure VS (Fr : Nat -> Prop) (H0 : Heap) (p0 : Nat × (Nat -> Option Nat)) (b : Nat) (s : VSt) (st : ASt) : Prop where
 base : st.base = b
 kb : p0.1 <= s.heap.length
 ex : ∃ pl, ERel s.heap pl s.env st.env /\ HRel Fr H0 s.heap pl st.heap /\ ∀ i, i < p0.1 -> ∀ x, pl (.m i) = some x -> p0.2 i = some x
theorem RS.vs {n0 : Nw} {m0 : Nat -> Prop} {b : Nat} {p0 : Nat × (Nat -> Option Nat)} {s : VSt} {st : ASt} (h : RS Fr H0 n0 m0 p0 b s st) : VS Fr H0 p0 b s st := ⟨h.base, h.kb, by obtain ⟨pl, h1, h2, h3, _⟩ := h.ex; exact ⟨pl, h1, h2, h3⟩⟩
theorem VS.rs {b : Nat} {p0 : Nat × (Nat -> Option Nat)} {s : VSt} {st : ASt} (h : VS Fr H0 p0 b s st) (S : List Nat) : ∃ m0, (∀ x, st.heap.length <= x -> m0 x) /\ RS Fr H0 (s.heap.length, S) m0 p0 b s st := by
 obtain ⟨pl, h1, h2, h3⟩ := h.ex
 have hnew : ∀ a x, pl (.m a) = some x -> (Yx8 (s.heap.length, S) a = true ↔ a ∈ S) := fun a x ha => by
  obtain ⟨o, ho⟩ := h2.own _ x ha
  have := Yah ho
  unfold Yx8
  have hb : Nat.ble s.heap.length a = false := by
   cases hq : Nat.ble s.heap.length a with
   | false => rfl
   | true => have := Nat.le_of_ble_eq_true hq; omega
  rw [hb, Bool.false_or]
  exact any_mem
 refine ⟨fun x => st.heap.length <= x \/ ∃ a ∈ S, pl (.m a) = some x, fun x hx => .inl hx, h.base, h.kb, pl, h1, h2, h3, Nat.le_refl _, fun x hx => .inl hx, fun a x ha => ⟨fun hn hm => ?_, fun hn => .inr ⟨a, (hnew a x ha).1 hn, ha⟩⟩⟩
 rcases hm with hm | ⟨c, hc, hcx⟩
 ·have := h2.bd ha; omega
 ·have := h2.inj _ _ _ ha hcx
  injection this with this; subst this
  rw [(hnew a x ha).2 hc] at hn; cases hn
def YwI (Fr : Nat -> Prop) (H0 : Heap) (kb : Nat) (C : Ctx) (code : ACode) (e : LpE) : Prop :=
 ∀ x y, e.F x = some y -> ∀ s, e.g.fill x = some s -> ∀ q b st, VS Fr H0 (kb, q) b s st -> Sat C code (fun ex st' => ∃ s', altK e.outs y (fun o z => o.ex = ex /\ o.g.fill z = some s') /\ VS Fr H0 (kb, q) b s' st') st
def LsOK (Fr : Nat -> Prop) (H0 : Heap) (C : Ctx) (T : Tabs) : VCode -> Prop
 | .seq a b => LsOK Fr H0 C T a /\ LsOK Fr H0 C T b
 | .cond _ a b => LsOK Fr H0 C T a /\ LsOK Fr H0 C T b
 | .blk _ b => LsOK Fr H0 C T b
 | .fz _ b => LsOK Fr H0 C T b
 | .ow _ b => LsOK Fr H0 C T b
 | .loop lid b => ∀ e, Yyh lid T.ls = some e -> YwI Fr H0 T.kb C (.loop b.er) e
 | .jn lid b => ∀ e, Yyh lid T.ls = some e -> YwI Fr H0 T.kb C b.er e
 | _ => True
theorem Ylp : ∀ (os : List Out1) (y : Alt os), ∃ (o : Out1) (z : o.g.c.den), ∀ {γ : Type} (k : (o : Out1) -> o.g.c.den -> γ), altK os y k = k o z
 | [o], y => ⟨o, y, fun k => rfl⟩
 | o :: o' :: r, .inl x => ⟨o, x, fun k => rfl⟩
 | o :: o' :: r, .inr z => by
   obtain ⟨o1, z1, h⟩ := Ylp (o' :: r) z
   exact ⟨o1, z1, fun k => h k⟩
 | [], y => nomatch y
theorem Ylq {lid b : Nat} {s : VSt} {K : Ex -> VSt -> Option β} {st : ASt} {code : ACode} {q : Nat -> Option Nat} (h : vsub T lid s K = some r) (hs : VS Fr H0 (T.kb, q) b s st) (hl : ∀ e, Yyh lid T.ls = some e -> YwI Fr H0 T.kb C code e)
  {Q : Ex -> ASt -> Prop} (hk : ∀ e s' st', K e s' = some r -> VS Fr H0 (T.kb, q) b s' st' -> Q e st') : Sat C code Q st := by
 unfold vsub at h
 split at h
 ·rename_i e he
  cases hkp : YxG T.kb e.g.ts (ownV e.own s) with
  | mk vs X =>
    rw [hkp] at h
    simp only at h
    split at h
    ·rename_i x hx
     cases hy : e.F x with
     | none => rw [hy] at h; cases h
     | some y =>
       rw [hy] at h
       simp only [Option.bind_some] at h
       obtain ⟨hb, hkb, pl, h1, h2, hpk⟩ := hs
       obtain ⟨st1, pl1, k1, k2, k3, k4, k8, k9⟩ := Ya2 (ws := e.own) hb h1 h2
       obtain ⟨pl2, k5, k6, k7, k10⟩ := YcL (env := (ownV e.own s).env) (X := (ownV e.own s).heap) k3 k4 (Nat.le_trans hkb k8) hkp
       refine Sat.wk k1 ((hl e he x y hy _ (YaU hx) q b st1 ⟨k2, k7, pl2, k5, k6, fun i hi z hz => hpk i hi z (k9 i (Nat.lt_of_lt_of_le hi hkb) z (k10 i hi z hz))⟩).mono (fun ex st' hq => ?_))
       obtain ⟨s', g1, g2⟩ := hq
       obtain ⟨o, z, hpk⟩ := Ylp e.outs y
       rw [hpk] at g1 h
       obtain ⟨rfl, g1⟩ := g1
       rw [g1] at h
       exact hk _ _ _ h g2
    ·cases h
 ·cases h
theorem frzV_ok' {b : Nat} {p0 : Nat × (Nat -> Option Nat)} {ts : List Nat} {s : VSt} {st : ASt} (hFr : FrOK Fr H0) (hnh : Yym s.heap = true) (hs : VS Fr H0 p0 b s st) : ∃ st', Wk st st' /\ VS Fr H0 p0 b (frzV ts s) st' := by
 obtain ⟨env, X⟩ := s
 obtain ⟨ae, H, b0⟩ := st
 obtain ⟨hb, hkb, pl, h1, h2, hpk⟩ := hs
 have hF : ∀ a ∈ (ts.flatMap (Yzj ⟨env, X⟩)), Yx1 X a = true := by
  intro a ha
  obtain ⟨t, _, ha⟩ := List.mem_flatMap.1 ha
  unfold Yzj at ha
  cases hb : Nat.blt t 1000000 with
  | true =>
    rw [hb, cond_true] at ha
    unfold Yy5 at ha
    split at ha
    ·split at ha
     ·exact (YAo.1 ha).2
     ·simp at ha
    ·exact (YAo.1 ha).2
  | false =>
    rw [hb, cond_false] at ha
    split at ha
    ·split at ha
     ·split at ha
      ·exact (YAo.1 ha).2
      ·simp at ha
     ·simp at ha
    ·simp at ha
 obtain ⟨ae', H', k1, k2, k3⟩ := Yrz (b := b0) hFr h1 h2 hF (fun {a c v h l} ho => by
  have hlt := Yah ho
  have : ∀ {X : YwG} {a : Nat}, Yym X = true -> vget X a = some (.fm c v h l) -> h = none := by
   intro X
   induction X with
   | nil => intro a _ h; cases h
   | cons o X ih =>
     intro a hn hg
     simp only [Yym, List.all_cons, Bool.and_eq_true] at hn
     cases a with
     | zero =>
       simp only [vget] at hg; subst hg
       cases h with
       | none => rfl
       | some i => simp at hn
     | succ a => exact ih hn.2 hg
  exact this hnh ho)
 refine ⟨⟨ae', H', b0⟩, k1, hb, ?_, _, k2, k3, fun i hi x hx => hpk i hi x ?_⟩
 ·show p0.1 <= (frzX X _).length
  rw [Ybb]; exact hkb
 ·unfold plF at hx
  split at hx
  ·cases hx
  ·exact hx
theorem YaB (hT : TOK T C) (hfr : FrOK Fr H0) {b : Nat} {q : Nat -> Option Nat} : ∀ {code : VCode} {s : VSt} {K : Ex -> VSt -> Option β} {st : ASt}, ev T code s K = some r -> LsOK Fr H0 C T code -> VS Fr H0 (T.kb, q) b s st -> ∀ {Q : Ex -> ASt -> Prop},
  (∀ e s' st', K e s' = some r -> VS Fr H0 (T.kb, q) b s' st' -> Q e st') -> Sat C code.er Q st
 | .bad, s, K, st, h, _, hs, Q, hk => by cases h
 | .skip, s, K, st, h, _, hs, Q, hk => Ykd (hk _ _ _ h hs)
 | .exit id, s, K, st, h, _, hs, Q, hk => Yqp (hk _ _ _ h hs)
 | .ret, s, K, st, h, _, hs, Q, hk => Yfq (hk _ _ _ h hs)
 | .reg ops, s, K, st, h, _, hs, Q, hk => by
   simp only [ev] at h
   obtain ⟨m0, k1, k2⟩ := hs.rs []
   exact Yfp k1 (Yf0 hT hfr h k2 (fun s' st' h1 h2 => hk _ _ _ h1 h2.vs))
 | .regN ns ops, s, K, st, h, hl, hs, Q, hk => by
   simp only [ev] at h
   obtain ⟨m0, k1, k2⟩ := hs.rs (ns.flatMap (Yzy s))
   exact Yfp k1 (Yf0 hT hfr h k2 (fun s' st' h1 h2 => hk _ _ _ h1 h2.vs))
 | .seq x y, s, K, st, h, hl, hs, Q, hk => by
   simp only [ev] at h
   refine Ya9 (YaB hT hfr h hl.1 hs (fun e s' st' h1 h2 => ?_))
   cases e with
   | nor => exact YaB hT hfr h1 hl.2 h2 hk
   | exit id => exact hk _ _ _ h1 h2
   | ret => exact hk _ _ _ h1 h2
 | .cond c x y, s, K, st, h, hl, hs, Q, hk => by
   simp only [ev] at h
   obtain ⟨hb, hkb, pl, he, hr, hpk⟩ := hs
   have hc := Yas he c
   split at h
   ·rename_i t ht
    rw [ht] at hc
    have hv : opd st.env c.er = .v (.bool t) := by
     generalize opd st.env c.er = a at hc ⊢
     cases hc; rfl
    have hs' : ∀ t, VS Fr H0 (T.kb, q) b (refV s c t) (Yxy st c.er t) \/ vo s.env c ≠ .b t := by
     intro t'
     by_cases e : t' = t
     ·subst e
      left
      cases c with
      | t g => exact ⟨hb, hkb, pl, Ybo (d := some g) he (.b t'), hr, hpk⟩
      | c k => exact ⟨hb, hkb, pl, he, hr, hpk⟩
     ·right; rw [ht]; intro h'; injection h' with h'; exact e h'.symm
    refine Ykf (b := t) hv (fun e => ?_) (fun e => ?_)
    ·subst e; rw [cond_true] at h
     exact YaB hT hfr h hl.1 ((hs' true).resolve_right (fun hn => hn ht)) hk
    ·subst e; rw [cond_false] at h
     exact YaB hT hfr h hl.2 ((hs' false).resolve_right (fun hn => hn ht)) hk
   ·cases h
 | .blk id x, s, K, st, h, hl, hs, Q, hk => by
   simp only [ev] at h
   refine Ykg (YaB hT hfr h hl hs (fun e s' st' h1 h2 => ?_))
   cases e with
   | nor => exact hk _ _ _ h1 h2
   | ret => exact hk _ _ _ h1 h2
   | exit id' =>
     simp only [Ex.blk]
     have e0 : (id' == id) = Nat.beq id' id := by rw [Bool.eq_iff_iff, beq_iff_eq, Nat.beq_eq]
     rw [e0]
     simp only at h1
     cases hq : Nat.beq id' id with
     | true => rw [hq, cond_true] at h1; exact hk _ _ _ h1 h2
     | false => rw [hq, cond_false] at h1; exact hk _ _ _ h1 h2
 | .loop lid x, s, K, st, h, hl, hs, Q, hk => by
   simp only [ev] at h
   exact Ylq h hs hl hk
 | .jn lid x, s, K, st, h, hl, hs, Q, hk => by
   simp only [ev] at h
   exact Ylq h hs hl hk
 | .fz ts x, s, K, st, h, hl, hs, Q, hk => by
   simp only [ev] at h
   obtain ⟨h1, h2⟩ := Yaa h
   obtain ⟨st', k1, k2⟩ := frzV_ok' (ts := ts) hfr h1 hs
   exact Sat.wk k1 (YaB hT hfr h2 hl k2 hk)
 | .ow ws x, s, K, st, h, hl, hs, Q, hk => by
   simp only [ev] at h
   obtain ⟨hb, hkb, pl, h1, h2, hpk⟩ := hs
   obtain ⟨st1, pl1, k1, k2, k3, k4, k8, k9⟩ := Ya2 (ws := ws) hb h1 h2
   exact Sat.wk k1 (YaB hT hfr h hl ⟨k2, Nat.le_trans hkb k8, pl1, k3, k4, fun i hi z hz => hpk i hi z (k9 i (Nat.lt_of_lt_of_le hi hkb) z hz)⟩ hk)
theorem Ylr {e : Ex} : ∀ {os : List Out1} {n m : Nat}, YyP e os n = some m -> ∃ k o, m = n + k /\ os[k]? = some o /\ o.ex = e
 | [], n, m, h => by cases h
 | o :: r, n, m, h => by
   simp only [YyP] at h
   cases hq : exEq o.ex e with
   | true =>
     rw [hq, cond_true] at h; injection h with h; subst h
     refine ⟨0, o, rfl, rfl, ?_⟩
     cases h1 : o.ex <;> cases h2 : e <;> rw [h1, h2] at hq <;> first | rfl | cases hq | skip
     exact congrArg _ (Nat.eq_of_beq_eq_true hq)
   | false =>
     rw [hq, cond_false] at h
     obtain ⟨k, o', h1, h2, h3⟩ := Ylr h
     exact ⟨k + 1, o', by omega, h2, h3⟩
theorem Yls : ∀ {os : List Out1} {n : Nat} {f : (o : Out1) -> Option o.g.c.den} {y : Alt os} {o : Out1}, YyC os n f = some y -> os[n]? = some o -> ∃ z, f o = some z /\ ∀ {γ : Type} (k : (o : Out1) -> o.g.c.den -> γ), altK os y k = k o z
 | [], n, f, y, o, h, _ => by cases h
 | [o1], 0, f, y, o, h, ho => by
   simp only [List.getElem?_cons_zero] at ho; injection ho with ho; subst ho
   exact ⟨y, h, fun k => rfl⟩
 | o1 :: o2 :: r, 0, f, y, o, h, ho => by
   simp only [List.getElem?_cons_zero] at ho; injection ho with ho; subst ho
   simp only [YyC] at h
   split at h
   ·rename_i x hx; injection h with h; subst h; exact ⟨x, hx, fun k => rfl⟩
   ·cases h
 | [_], n + 1, f, y, o, h, _ => by cases h
 | o1 :: o2 :: r, n + 1, f, y, o, h, ho => by
   simp only [YyC] at h
   split at h
   ·rename_i z hz
    injection h with h; subst h
    obtain ⟨w, h1, h2⟩ := Yls hz (by simpa using ho)
    exact ⟨w, h1, fun k => h2 k⟩
   ·cases h
theorem YdV {kb : Nat} {q : Nat -> Option Nat} {outs : List Out1} {e : Ex} {s : VSt} {y : Alt outs} {b : Nat} {st : ASt} (h : outK kb outs e s = some y) (hs : VS Fr H0 (kb, q) b s st) : ∃ s', altK outs y (fun o z => o.ex = e /\ o.g.fill z = some s') /\ VS Fr H0 (kb, q) b s' st := by
 unfold outK at h
 split at h
 ·rename_i n hn
  obtain ⟨k, o, h1, h2, h3⟩ := Ylr hn
  rw [Nat.zero_add] at h1; subst h1
  obtain ⟨z, h4, h5⟩ := Yls h h2
  obtain ⟨env, X⟩ := s
  obtain ⟨hb, hkb, pl, he, hr, hpk⟩ := hs
  cases hkp : YxG kb o.g.ts ⟨env, X⟩ with
  | mk vs X' =>
    rw [hkp] at h4
    obtain ⟨pl', k1, k2, k3, k4⟩ := YcL he hr hkb hkp
    refine ⟨⟨zipE o.g.ts vs, X'⟩, ?_, hb, k3, pl', k1, k2, fun i hi x hx => hpk i hi x (k4 i hi x hx)⟩
    rw [h5]; exact ⟨h3, YaU h4⟩
 ·cases h
theorem YdW {S R : Type} {step : S -> Option (S ⊕ R)} {s : S} {y : R} (h : Yxi step s = some y) : ∃ n, Yxl step n s = some y := by
 unfold Yxi at h
 split at h
 ·rename_i hx
  injection h with h
  exact ⟨_, by rw [<- h]; exact Classical.choose_spec (Classical.choose_spec hx)⟩
 ·cases h
theorem Yal (hT : TOK T C) (hfr : FrOK Fr H0) {id : Nat} {own : List (Nat × Option Nat × Bool)} {g : Sg} {outs : List Out1} {body : VCode} (hl : LsOK Fr H0 C T body) {F : g.c.den -> Option (Alt outs)} (hF : ∀ x y, F x = some y -> Yxi (YwY T own g outs body) x = some y) :
  YwI Fr H0 T.kb C (.loop body.er) ⟨id, own, g, outs, F⟩ := by
 intro x y hx s hfill q b st hs
 obtain ⟨n, hn⟩ := YdW (hF x y hx)
 refine Ykh (fun m t => ∃ x s, Yxl (YwY T own g outs body) m x = some y /\ g.fill x = some s /\ VS Fr H0 (T.kb, q) b s t) ⟨n, st, ⟨x, s, hn, hfill, hs⟩, .refl _⟩ ?_
 rintro m t ⟨x, s, h1, h2, h3⟩
 cases m with
 | zero => cases h1
 | succ m =>
   simp only [Yxl] at h1
   cases hst : YwY T own g outs body x with
   | none => rw [hst] at h1; cases h1
   | some q =>
     rw [hst] at h1
     unfold YwY at hst
     rw [h2] at hst
     simp only at hst
     refine YaB hT hfr hst hl h3 (fun e s' st' g1 g2 => ?_)
     cases e with
     | nor =>
       simp only at g1
       cases hkp : YxG T.kb g.ts (ownV own s') with
       | mk vs X =>
         rw [hkp] at g1
         simp only at g1
         split at g1
         ·rename_i x' hx'
          injection g1 with g1; subst g1
          simp only at h1
          obtain ⟨hb, hkb, pl, he, hr, hpk⟩ := g2
          obtain ⟨st1, pl1, k1, k2, k3, k4, k8, k9⟩ := Ya2 (ws := own) hb he hr
          obtain ⟨pl2, k5, k6, k7, k10⟩ := YcL (env := (ownV own s').env) (X := (ownV own s').heap) k3 k4 (Nat.le_trans hkb k8) hkp
          exact ⟨m, st1, ⟨x', _, h1, YaU hx', k2, k7, pl2, k5, k6, fun i hi z hz => hpk i hi z (k9 i (Nat.lt_of_lt_of_le hi hkb) z (k10 i hi z hz))⟩, by omega, k1⟩
         ·cases g1
     | exit id' =>
       simp only at g1
       split at g1
       ·rename_i y' hy'
        injection g1 with g1; subst g1
        simp only at h1; injection h1 with h1; subst h1
        obtain ⟨s2, k1, k2⟩ := YdV hy' g2
        exact ⟨s2, k1, k2⟩
       ·cases g1
     | ret =>
       simp only at g1
       split at g1
       ·rename_i y' hy'
        injection g1 with g1; subst g1
        simp only at h1; injection h1 with h1; subst h1
        obtain ⟨s2, k1, k2⟩ := YdV hy' g2
        exact ⟨s2, k1, k2⟩
       ·cases g1
theorem YcR (hT : TOK T C) (hfr : FrOK Fr H0) {id : Nat} {own : List (Nat × Option Nat × Bool)} {g : Sg} {outs : List Out1} {body : VCode} (hl : LsOK Fr H0 C T body) {F : g.c.den -> Option (Alt outs)} (hF : ∀ x y, F x = some y -> stepJ T g outs body x = some y) :
  YwI Fr H0 T.kb C body.er ⟨id, own, g, outs, F⟩ := by
 intro x y hx s hfill q b st hs
 have h1 := hF x y hx
 unfold stepJ at h1
 rw [hfill] at h1
 exact YaB hT hfr h1 hl hs (fun e s' st' g1 g2 => YdV g1 g2)
end
end Go.Abs
namespace Go.Abs
open Go Go.RowKit
section
variable {Fr : Nat -> Prop} {H0 : Heap} {X : YwG} {pl : Pl} {H : Heap}
theorem YdX (X : YwG) : ∀ l : List TV, TV.dats X l = l.map (TV.dat X)
 | [] => rfl
 | a :: r => by simp [TV.dats, YdX X r]
theorem YrS (hr : HRel Fr H0 X pl H) {v : TV} {a : AV} (h : TR X pl v a) : YxH (v.dat X) = true -> Out H a (avT (v.dat X)) := by
 have one : ∀ {v : TV} {a : AV}, TR X pl v a -> v.dat X = v -> YxH (v.dat X) = true -> Out H a (avT (v.dat X)) := by
  intro v a ht e hd
  rw [e] at hd ⊢
  exact YbA (Yk5 ht hd) (YfR v)
 have list : ∀ {cs : List TV} {as : List AV}, cs.length = as.length -> (∀ (j : Nat) (c : TV) (a : AV), cs[j]? = some c -> as[j]? = some a -> YxH (c.dat X) = true -> Out H a (avT (c.dat X))) -> Yw0 (TV.dats X cs) = true ->
   as.length = (avTs (TV.dats X cs)).length /\ ∀ (j : Nat) (x x' : AV), as[j]? = some x -> (avTs (TV.dats X cs))[j]? = some x' -> Out H x x' := by
  intro cs as hl h hd
  refine ⟨by simp [YbL, YdX, hl], fun j x x' h1 h2 => ?_⟩
  rw [YbL, YdX, YAc, YzP, Option.map_eq_some_iff] at h2
  obtain ⟨c, h2, rfl⟩ := h2
  refine h j c x h2 h1 (YdS hd j _ ?_)
  rw [YdX, YzP, h2]; rfl
 induction h with
 | i k n => exact one (.i k n) rfl
 | b x => exact one (.b x) rfl
 | s x => exact one (.s x) rfl
 | l c v a h => exact one (.l c v a h) rfl
 | e c => intro _; simp only [TV.dat, avT, YzT]; exact .empRd _
 | ref a x o n h hn hp =>
   intro hd
   simp only [TV.dat, h] at hd ⊢
   cases o with
   | sq c l =>
     simp only [lenO] at hn; injection hn with hn; subst hn
     have := YdR (Fz := fun _ => True) (h1 := fun _ => none) hr h hp trivial (Nat.le_refl _)
     rw [YAg] at this
     exact this
   | fm c ver hole l =>
     cases hole with
     | some i => cases hd
     | none =>
       simp only [lenO] at hn; injection hn with hn; subst hn
       exact Yk3 (Fz := fun _ => True) (h1 := fun _ => none) hr h hp (fun _ _ _ _ => trivial)
   | st cs => cases hd
   | sb s =>
     simp only [lenO] at hn; injection hn with hn; subst hn
     exact Yk2 (Fz := fun _ => True) (h1 := fun _ => none) hr h hp trivial
 | pre a x m o n h hn hp h0 hm =>
   intro hd
   simp only [TV.dat, h] at hd ⊢
   cases o with
   | sq c l =>
     simp only [lenO] at hn; injection hn with hn; subst hn
     exact YdR (Fz := fun _ => True) (h1 := fun _ => none) hr h hp trivial hm
   | fm c ver hole l => cases hd
   | st cs => cases hd
   | sb s => cases hd
 | refD a av h ha => intro hd; simp only [TV.dat, h] at hd; cases hd
 | preD a m av h ha => intro hd; simp only [TV.dat, h] at hd; cases hd
 | ag cs as hl h ih =>
   intro hd
   have := list hl ih hd
   exact .agg _ _ this.1 this.2
 | tp cs as hl h ih =>
   intro hd
   have := list hl ih hd
   exact .tup _ _ this.1 this.2
 | clo g cs as hl h ih =>
   intro hd
   have := list hl ih hd
   exact .clo g _ _ this.1 this.2
 | _ => intro hd; cases hd
theorem Yf1 {s : VSt} {st : ASt} (he : ERel s.heap pl s.env st.env) (hr : HRel Fr H0 s.heap pl st.heap) : ∀ {rs : List RV} {vs : List TV}, Yx9 s rs = some vs -> ∃ as, YxF st rs as /\ CT s.heap pl vs as
 | [], vs, h => by simp only [Yx9] at h; injection h with h; subst h; exact ⟨[], trivial, .nil⟩
 | r :: rs, vs, h => by
   simp only [Yx9] at h
   split at h
   ·rename_i v vs' h1 h2
    injection h with h; subst h
    obtain ⟨as, k1, k2⟩ := Yf1 he hr h2
    cases r with
    | t n =>
      simp only [Yzk] at h1; injection h1 with h1; subst h1
      exact ⟨_ :: as, ⟨rfl, k1⟩, .cons (he n) k2⟩
    | c n g sz =>
      simp only [Yzk] at h1
      have hx : TR s.heap pl (YwV s.env n) (opd st.env (.t n)) := he n
      have key : ∃ va, evG (.load g sz (.t n)) st.env (hf st.heap) 0 (fun v' _ => v' = va) /\ TR s.heap pl v va := by
       have := YkG (KA := fun va => TR s.heap pl v va) h1 hx hr (fun w wa e1 e2 => by injection e1 with e1; subst e1; exact e2)
       have hev : evG (.load g sz (.t n)) st.env (hf st.heap) 0 (fun va _ => TR s.heap pl v va) := this
       obtain ⟨va, us, g1, g2⟩ := YjR _ _ _ _ _ hev
       refine ⟨va, ?_, g1⟩
       simp only [evG, opK] at g2 ⊢
       revert g2
       generalize opd st.env (.t n) = p
       intro g2
       have lm : ∀ {cs : List AV}, Yxj g sz cs (fun a => a = va /\ ([] : List Upd) = us) -> Yxj g sz cs (fun a => a = va) := fun h => by
        cases g with
        | true => exact ⟨h.1, h.2.1⟩
        | false => obtain ⟨c, h1, h2, _⟩ := h; exact ⟨c, h1, h2⟩
       split at g2 <;> first | exact lm g2 | skip
       ·obtain ⟨o, ho, e, he', hl⟩ := g2; exact ⟨o, ho, e, he', lm hl⟩
       ·exact g2.elim
      obtain ⟨va, g1, g2⟩ := key
      exact ⟨va :: as, ⟨g1, k1⟩, .cons g2 k2⟩
   ·cases h
theorem Ylt {vs : List TV} {as : List AV} (h : CT X pl vs as) : TR X pl (tupV vs) (tupR as) := by
 match vs, as, h with
 | [], as, h =>
   have := h.1
   cases as with
   | nil => exact .tp _ _ rfl (fun j c a h => by simp at h)
   | cons _ _ => simp at this
 | [v], as, h =>
   obtain ⟨a, r, rfl, h1, h2⟩ := h.inv
   have := h2.1
   cases r with
   | nil => exact h1
   | cons _ _ => simp at this
 | v :: w :: r, as, h =>
   have hl := h.1
   match as, hl with
   | a :: b :: r', _ => exact .tp _ _ h.1 h.2
theorem Ylu : ∀ (i : Nat) (vs : List TV), Yw0 vs = true -> ERel X pl (zipE (List.range' i vs.length) vs) (Yxb i (avTs vs))
 | i, [], _ => fun t => .u _
 | i, v :: vs, h => by
   simp only [Yw0, Bool.and_eq_true] at h
   intro t
   simp only [YAb, List.range'_succ, zipE, avTs, Yxb, YwV, YwJ]
   have e0 : (i == t) = Nat.beq i t := by rw [Bool.eq_iff_iff, beq_iff_eq, Nat.beq_eq]
   rw [e0]
   cases Nat.beq i t with
   | true => exact YfT v h.1
   | false => exact Ylu (i + 1) vs h.2 t
theorem YrT (k : Nat) : HRel (fun _ => False) [] [] (fun _ => none) (Z k []) :=
 ⟨fun a o h => (by cases h), fun p q x h => (by cases h), fun p x h => (by cases h), fun x h => h.elim, fun p x h => (by cases h), Nat.zero_le _⟩
theorem YcS : ∀ {vs : List TV} {svs : List SV}, TV.shs vs = some svs -> svs.length = vs.length
 | [], svs, h => by simp only [TV.shs] at h; injection h with h; subst h; rfl
 | a :: vs, svs, h => by
   simp only [TV.shs] at h
   split at h
   ·rename_i x xs h1 h2; injection h with h; subst h; simp [YcS h2]
   ·cases h
theorem YrU (vs : List TV) : (avTs vs).length = vs.length := by simp [YbL]
theorem YrV {sv : SV} {c : Cs} {v : TV} {y : c.den} (h : YyQ sv c v = some y) : YwP sv (unp c y) = some (v, []) := by
 unfold YyQ at h
 split at h
 ·rename_i sv' hs
  obtain ⟨h1, h2⟩ := Yaa h
  have e1 := SV.eq_of h1
  have hu := YdM v.lv
  generalize Yxs v.lv = p at h2 hu
  obtain ⟨c', z⟩ := p
  simp only at h2 hu
  obtain ⟨e, he⟩ := Cs.cast_some h2
  have hx : unp c y = v.lv := by
   rw [<- hu, <- he]
   clear h2 hu he
   subst e
   rfl
  rw [hx, <- e1]
  have := YfK [] hs
  rwa [YAk] at this
 ·cases h
def YwH (P : Program) (fm : FM) (T : Tabs) : Prop := ∃ C : Ctx, CtxOK P fm C /\ TOK T C
theorem YrW (P : Program) (fm : FM) (pf : Nat -> Bool) (ls : List LpE) : YwH P fm ⟨pf, [], ls, 0⟩ :=
 ⟨Yzv pf [], Yqz P fm pf, ⟨rfl, fun e h => by cases h⟩, fun e h => by cases h⟩
def Yxm (C : Ctx) (g : Nat) (R : Yw1) : Ctx := ⟨fun h args H r H' => C.C h args H r H' \/ (h = g /\ R args H r H'), C.pf⟩
theorem Ybp {P : Program} {fm : FM} {C : Ctx} {g : Nat} {R : Yw1} (h : CtxOK P fm C) (hp : C.pf g = true -> Pure R) (hf : ∀ f, fm f = g -> FOK P fm f R) : CtxOK P fm (Yxm C g R) := by
 refine ⟨fun f args H r H' hc => ?_, fun f args H r H' hp' hc => ?_, fun f args r n hp' hc => ?_⟩
 ·rcases hc with hc | ⟨e, hc⟩
  ·exact h.ok f args H r H' hc
  ·exact hf f e args H r H' hc
 ·rcases hc with hc | ⟨e, hc⟩
  ·exact h.nr f args H r H' hp' hc
  ·exact (hp (e ▸ hp')).nr _ _ _ _ hc
 ·rcases hc with hc | ⟨e, hc⟩
  ·exact .inl (h.any f args r n hp' hc)
  ·exact .inr ⟨e, (hp (e ▸ hp')).any _ _ _ hc⟩
theorem Ybq {T : Tabs} {C : Ctx} (h : TOK T C) {e : FnE} {R : Yw1} (hR : T.pf e.g = true -> ∀ args r, e.R args r -> R args [] r []) (hI : T.pf e.g = false -> ∀ args H r H', e.RI args H r H' -> R args H r H') : TOK ⟨T.pf, e :: T.fs, T.ls, 0⟩ (Yxm C e.g R) := by
 refine ⟨⟨h.p.pf, fun e' he' hp args r hr => ?_⟩, fun e' he' hp args H r H' hr => ?_⟩
 ·rcases Yz4.1 he' with rfl | he'
  ·exact .inr ⟨rfl, hR hp _ _ hr⟩
  ·exact .inl (h.p.fn e' he' hp args r hr)
 ·rcases Yz4.1 he' with rfl | he'
  ·exact .inr ⟨rfl, hI hp _ _ _ _ hr⟩
  ·exact .inl (h.fnI e' he' hp args H r H' hr)
theorem YrX {e : FnE} {args : List AV} {r : AV} (hr : e.R args r) : Yyp e.R args [] r [] := by
 refine ⟨0, rfl, rfl, ?_, ?_, hr⟩
 ·obtain ⟨x, y, vs, v, h1, h2, h3, rfl, h5, h6, rfl⟩ := hr
  exact fun a ha => Yb5 vs a ha
 ·obtain ⟨x, y, vs, v, h1, h2, h3, rfl, h5, h6, rfl⟩ := hr
  exact YfR v
theorem YrY {T : Tabs} {C : Ctx} (h : TOK T C) {e : FnE} (hp : T.pf e.g = true) : TOK ⟨T.pf, e :: T.fs, T.ls, 0⟩ (Yxm C e.g (Yyp e.R)) :=
 Ybq h (fun _ _ _ hr => YrX hr) (fun hq => by rw [hp] at hq; cases hq)
theorem YrZ {P : Program} {fm : FM} {T : Tabs} {C : Ctx} (hC : CtxOK P fm C) (hT : TOK T C) (hm : P.follows .mixedOrders = true) {e : FnE} {F : VFn} {f : FuncId}
  (htie : fnTr P fm T.pf f = some (F.slots, F.res, F.code.er)) (h4 : F.res.length <= 4) (hts : e.args.ts = List.range' 0 e.args.vs.length) (hsl : e.args.vs.length <= F.slots)
  (hkb : T.kb = 0) (hl : LsOK (fun _ => False) [] C T F.code) (hF : ∀ x y, e.F x = some y -> evP T F e.args e.res e.co x = some y) : FOK P fm f (Yyp e.R) := by
 refine Yqx hC hm (by rw [hT.p.pf]; exact htie) h4 ?_
 rintro args r ⟨x, y, vs, v, h1, h2, h3, rfl, h5, h6, rfl⟩
 have hlen : e.args.vs.length = vs.length := by
  unfold Sg.read at h2
  split at h2
  ·rename_i svs sos k1 k2
   obtain ⟨e1, _⟩ := Yaa h2
   simp only [Bool.and_eq_true] at e1
   rw [<- SV.eqs_of e1.1, YcS k1]
  ·cases h2
 refine ⟨by rw [YrU, <- hlen]; exact hsl, fun k => ?_⟩
 have hev := hF x y h1
 unfold evP at hev
 rw [YaU h2] at hev
 simp only at hev
 have hvs : VS (fun _ => False) [] (T.kb, fun _ => none) k ⟨zipE e.args.ts vs, []⟩ ⟨Yxb 0 (avTs vs), Z k [], k⟩ := by
  refine ⟨rfl, by rw [hkb]; exact Nat.zero_le _, fun _ => none, ?_, YrT k, fun i hi x hx => by cases hx⟩
  show ERel _ _ (zipE e.args.ts vs) _
  rw [hts, hlen]; exact Ylu 0 vs h3
 refine YaB hT frNo hev hl hvs (fun ex s' st' g1 g2 => ?_)
 have post : (match Yx9 s' F.res with | some vs => YyQ e.res e.co ((tupV vs).dat s'.heap) | none => none) = some y -> st'.base = k /\ ∃ vs, YxF st' F.res vs /\ Out st'.heap (tupR vs) (avT v) := by
  intro g1
  split at g1
  ·rename_i ws hws
   obtain ⟨hb, _, pl, he, hr, _⟩ := g2
   obtain ⟨as, k1, k2⟩ := Yf1 he hr hws
   have hfill := YrV g1
   rw [h5] at hfill
   injection hfill with hfill; injection hfill with hfill _
   refine ⟨hb, as, k1, ?_⟩
   rw [hfill]
   exact YrS hr (Ylt k2) (by rw [<- hfill]; exact h6)
  ·cases g1
 cases ex with
 | exit id => cases g1
 | nor => exact post g1
 | ret => exact post g1
theorem Yak {P : Program} {fm : FM} {T : Tabs} (hS : YwH P fm T) (hm : P.follows .mixedOrders = true) (L : List LpE) (e : FnE) (hp : T.pf e.g = true) (F : VFn)
  (htie : ∀ f, fm f = e.g -> fnTr P fm T.pf f = some (F.slots, F.res, F.code.er)) (h4 : F.res.length <= 4) (hts : e.args.ts = List.range' 0 e.args.vs.length) (hsl : e.args.vs.length <= F.slots)
  (hl : ∀ C, TOK ⟨T.pf, T.fs, L, 0⟩ C -> LsOK (fun _ => False) [] C ⟨T.pf, T.fs, L, 0⟩ F.code) (hF : ∀ x y, e.F x = some y -> evP ⟨T.pf, T.fs, L, 0⟩ F e.args e.res e.co x = some y) : YwH P fm ⟨T.pf, e :: T.fs, T.ls, 0⟩ := by
 obtain ⟨C, hC, hT⟩ := hS
 have hT' : TOK ⟨T.pf, T.fs, L, 0⟩ C := ⟨⟨hT.p.pf, hT.p.fn⟩, hT.fnI⟩
 exact ⟨Yxm C e.g (Yyp e.R), Ybp hC (fun _ => Yqy _) (fun f hf => YrZ hC hT' hm (htie f hf) h4 hts hsl rfl (hl C hT') hF), YrY hT hp⟩
theorem Yr0 {P : Program} {fm : FM} {T : Tabs} (hS : YwH P fm T) {e : FnE} (he : e ∈ T.fs) (hp : T.pf e.g = true) {f : FuncId} (hf : fm f = e.g) {args : List AV} {r : AV} (h : e.R args r) {W : World} {vals : Array Value} (hsz : vals.size = args.length)
  (hv : ∀ j a, args[j]? = some a -> VR fm W Yxd (vals.getD j undef) a) : Calls P f vals W fun ex W' => ∃ v, ex = .returned v /\ Keep Yxd W W' /\ ∃ L', VR fm W' L' v r := by
 obtain ⟨C, hC, hT⟩ := hS
 have h1 := hT.p.fn e he hp args r h
 rw [<- hf] at h1
 obtain ⟨_, h2⟩ := hC.ok f args [] r [] h1
 refine (h2 W Yxd vals (YqB fm W) hsz hv).mono ?_
 rintro ex w' ⟨v, L', rfl, hk, _, _, hvr⟩
 exact ⟨v, rfl, hk, L', hvr⟩
end
end Go.Abs
namespace Go.Abs
open Go Go.RowKit
theorem Yr1 {sv : SV} {os : List SO} {c : Cs} {v : TV} {X : YwG} {y : c.den} (h : YyR sv os c v X = some y) : YwP sv (unp c y) = some (v, lvOs X) /\ YwX os (lvOs X) = some (X, []) := by
 unfold YyR at h
 split at h
 ·rename_i sv' os' h1 h2
  obtain ⟨e1, e2⟩ := Yaa h
  simp only [Bool.and_eq_true] at e1
  have q1 := SV.eq_of e1.1; have q2 := SO.eqs_of e1.2
  have hu := YdM (v.lv ++ lvOs X)
  generalize Yxs (v.lv ++ lvOs X) = p at e2 hu
  obtain ⟨c', z⟩ := p
  simp only at e2 hu
  obtain ⟨e, he⟩ := Cs.cast_some e2
  have hx : unp c y = v.lv ++ lvOs X := by
   rw [<- hu, <- he]
   clear e2 hu he
   subst e
   rfl
  subst q1; subst q2
  refine ⟨by rw [hx]; exact YfK _ h1, ?_⟩
  have := YdL [] h2
  rwa [YAk] at this
 ·cases h
section
variable {Fr : Nat -> Prop} {H0 : Heap} {X : YwG} {pl : Pl} {H : Heap}
theorem Ylv : ∀ (i : Nat) (vs : List TV) (as : List AV), CT X pl vs as -> ERel X pl (zipE (List.range' i vs.length) vs) (Yxb i as)
 | i, [], as, _ => fun t => .u _
 | i, v :: vs, as, h => by
   obtain ⟨a, r, rfl, h1, h2⟩ := h.inv
   intro t
   simp only [YAb, List.range'_succ, zipE, Yxb, YwV, YwJ]
   have e0 : (i == t) = Nat.beq i t := by rw [Bool.eq_iff_iff, beq_iff_eq, Nat.beq_eq]
   rw [e0]
   cases Nat.beq i t with
   | true => exact h1
   | false => exact Ylv (i + 1) vs r h2 t
theorem Ylw {m : List Nat} {q : Pl} {ρ : Nat -> Nat} {H' : HF} {X2 : YwG}
  (look : ∀ {b i o}, idxV m b 0 = some i -> vget X b = some o -> ∀ {x}, pl (.m b) = some x -> vget X2 i = some (o.ren fun a => idxV m a 0) /\ ∃ z, q (.m i) = some z /\ ρ z = x /\ ∃ o', H' z = some (some o'))
  (dead : ∀ {b i}, idxV m b 0 = some i -> vget X b = none -> vget X2 i = none) {tv : TV} {av : AV} (h : TR X pl tv av) :
  wfT X2 (tv.ren fun a => idxV m a 0) = true -> Cz ρ (fun _ => False) (hf H) H' av (encT X2 q (tv.ren fun a => idxV m a 0)) := by
 have hn : ∀ (o : VObj), lenO (o.ren fun a => idxV m a 0) = lenO o /\ elN (o.ren fun a => idxV m a 0) = elN o := fun o => by cases o <;> exact ⟨rfl, rfl⟩
 have list : ∀ {cs : List TV} {as : List AV}, cs.length = as.length -> (∀ (j : Nat) (c : TV) (a : AV), cs[j]? = some c -> as[j]? = some a -> wfT X2 (c.ren fun a => idxV m a 0) = true -> Cz ρ (fun _ => False) (hf H) H' a (encT X2 q (c.ren fun a => idxV m a 0))) -> wfTs X2 (TV.rens (fun a => idxV m a 0) cs) = true ->
   as.length = (YxR X2 q (TV.rens (fun a => idxV m a 0) cs)).length /\ ∀ (j : Nat) (x x' : AV), as[j]? = some x -> (YxR X2 q (TV.rens (fun a => idxV m a 0) cs))[j]? = some x' -> Cz ρ (fun _ => False) (hf H) H' x x' := by
  intro cs as hl h hd
  refine ⟨by simp [YfV, Yar, hl], fun j x x' h1 h2 => ?_⟩
  rw [YfV, Yar, YAc, YzP, Option.map_eq_some_iff] at h2
  obtain ⟨c, h2, rfl⟩ := h2
  refine h j c x h2 h1 ?_
  have wf : ∀ {l : List TV} {j : Nat} {c : TV}, wfTs X2 l = true -> l[j]? = some c -> wfT X2 c = true := by
   intro l
   induction l with
   | nil => intro j c _ h; simp at h
   | cons a l ih =>
     intro j c hw hj
     simp only [wfTs, Bool.and_eq_true] at hw
     cases j with
     | zero => simp at hj; subst hj; exact hw.1
     | succ j => exact ih hw.2 (by simpa using hj)
  refine wf hd (j := j) ?_
  rw [Yar, YzP, h2]; rfl
 induction h with
 | i k n => intro _; exact .v _
 | b x => intro _; exact .v _
 | s x => intro _; exact .v _
 | l c v a h => intro _; exact YbA h (YcA (.l c) v)
 | e c => intro hw; exact .emp
 | u a => intro _; exact .u _
 | v x => intro _; exact .u _
 | ref a x o n h hl hp =>
   intro hw
   simp only [TV.ren] at hw ⊢
   split
   ·rename_i i hi
    obtain ⟨h1, z, h2, rfl, o', h3⟩ := look hi h hp
    have hs : seqN X2 i = n := by simp only [seqN, h1, (hn o).1, hl, Option.getD_some]
    simp only [encT, h2, hs]
    exact .ref z 0 n o' h3
   ·exact .u _
 | refD a av h ha =>
   intro hw
   simp only [TV.ren] at hw ⊢
   split
   ·rename_i i hi
    simp only [hi, wfT, dead hi h] at hw; cases hw
   ·exact .u _
 | pre a x k o n h hl hp h0 hm =>
   intro hw
   simp only [TV.ren] at hw ⊢
   split
   ·rename_i i hi; simp only [hi, wfT] at hw; cases hw
   ·exact .u _
 | preD a k av h ha =>
   intro hw
   simp only [TV.ren] at hw ⊢
   split
   ·rename_i i hi; simp only [hi, wfT] at hw; cases hw
   ·exact .u _
 | ptr a i j x o h hi hp =>
   intro hw
   simp only [TV.ren] at hw ⊢
   split
   ·rename_i b hb
    obtain ⟨h1, z, h2, rfl, o', h3⟩ := look hb h hp
    simp only [encT, h2]
    exact .ptr z i j o' h3
   ·exact .u _
 | ptrD a i j av h ha =>
   intro hw
   simp only [TV.ren] at hw ⊢
   split
   ·rename_i b hb
    simp only [hb, wfT, dead hb h, Bool.and_false] at hw; cases hw
   ·exact .u _
 | np a x o h hp =>
   intro hw
   simp only [TV.ren] at hw ⊢
   split
   ·rename_i b hb
    obtain ⟨h1, z, h2, rfl, o', h3⟩ := look hb h hp
    simp only [encT, h2]
    exact .np z o' h3
   ·exact .u _
 | npD a av h ha =>
   intro hw
   simp only [TV.ren] at hw ⊢
   split
   ·rename_i b hb
    simp only [hb, wfT, dead hb h] at hw; cases hw
   ·exact .u _
 | ag cs as hl h ih =>
   intro hw
   have := list hl ih hw
   exact .agg _ _ this.1 this.2
 | tp cs as hl h ih =>
   intro hw
   have := list hl ih hw
   exact .tup _ _ this.1 this.2
 | clo g cs as hl h ih =>
   intro hw
   have := list hl ih hw
   exact .clo g _ _ this.1 this.2
 | _ => intro _; exact .u _
theorem Yf2 : ∀ {X : YwG} {so : List SO}, shOs X = some so -> so.length = X.length
 | [], so, h => by simp only [shOs] at h; injection h with h; subst h; rfl
 | none :: X, so, h => by
   simp only [shOs] at h
   split at h
   ·rename_i xs h2; injection h with h; subst h; simp [Yf2 h2]
   ·cases h
 | some o :: X, so, h => by
   simp only [shOs] at h
   split at h
   ·rename_i x xs h1 h2; injection h with h; subst h; simp [Yf2 h2]
   ·cases h
theorem getElem?_pre {l m : List Nat} (h : l <+: m) {i : Nat} (hi : i < l.length) : m[i]? = l[i]? := by
 obtain ⟨r, rfl⟩ := h
 rw [YzS hi]
theorem YcT {Kp : Nat -> Prop} {Xs : YwG} {pls : Pl} {Xh : YwG} {ph : Pl} {s : ASt} {v : TV} {a : AV} {m : List Nat} (hrs : HRel Kp H Xs pls H) (hfr : FrOK Kp H) (hr : HRel Kp H Xh ph s.heap) (hb : s.base = H.length) (hk : Xs.length <= Xh.length)
  (hpk : ∀ i, i < Xs.length -> ∀ x, ph (.m i) = some x -> pls (.m i) = some x) (hnd : m.Nodup) (hpre : List.range Xs.length <+: m) (ht : TR Xh ph v a)
  (hw : wfT (renX Xh m) (v.ren fun a => idxV m a 0) = true) (hX : wfX (renX Xh m) (renX Xh m) = true) :
  Fin s a (encT (renX Xh m) (plI pls Xs.length H.length (renX Xh m)) (v.ren fun a => idxV m a 0)) (Yxc Kp H Xs.length (renX Xh m) (plI pls Xs.length H.length (renX Xh m))) := by
 have hlm : Xs.length <= m.length := by simpa using hpre.length_le
 have hlX : (renX Xh m).length = m.length := by simp [renX]
 have hlen : Xs.length <= (renX Xh m).length := by omega
 let ρ : Nat -> Nat := fun z => if z < H.length then z else match m[Xs.length + (z - H.length)]? with | some b => (ph (.m b)).getD z | none => z
 have hlow : ∀ z, z < H.length -> ρ z = z := fun z hz => by simp only [ρ, if_pos hz]
 have hm1 : ∀ {i}, i < Xs.length -> m[i]? = some i := fun {i} hi => by
  rw [getElem?_pre hpre (by simpa using hi), YAf hi]
 have src : ∀ {i o}, vget (renX Xh m) i = some o -> ∃ b ob x, m[i]? = some b /\ vget Xh b = some ob /\ o = ob.ren (fun a => idxV m a 0) /\ ph (.m b) = some x /\ ∃ z, plI pls Xs.length H.length (renX Xh m) (.m i) = some z /\ ρ z = x := by
  intro i o ho
  have ho' := ho
  unfold renX at ho'
  rw [YdO] at ho'
  cases hb : m[i]? with
  | none => rw [hb] at ho'; cases ho'
  | some b =>
    rw [hb] at ho'
    simp only [Option.bind_some, Option.map_eq_some_iff] at ho'
    obtain ⟨ob, hob, rfl⟩ := ho'
    obtain ⟨x, hx⟩ := Yy7 hr hob
    refine ⟨b, ob, x, rfl, hob, rfl, hx, ?_⟩
    by_cases hi : i < Xs.length
    ·have := hm1 hi; rw [hb] at this; injection this with this; subst this
     have hz := hpk b hi x hx
     exact ⟨x, by simp only [plI, ho, if_pos hi]; exact hz, hlow x (hrs.bd hz)⟩
    ·refine ⟨H.length + (i - Xs.length), by simp only [plI, ho, if_neg hi], ?_⟩
     simp only [ρ]
     rw [if_neg (by omega), show Xs.length + (H.length + (i - Xs.length) - H.length) = i by omega, hb]
     simp only [hx, Option.getD_some]
 have hat := fun {i x : Nat} => Yla (Xs := Xs) hrs hlen (i := i) (x := x)
 have hkp := fun {x : Nat} => Ylb (Xs := Xs) hrs (X2 := renX Xh m) (x := x)
 have hqi := fun {p q : Pos} {x : Nat} => YfW (Xs := Xs) hrs (X2 := renX Xh m) (p := p) (q := q) (x := x)
 have hqv : ∀ {i x}, plI pls Xs.length H.length (renX Xh m) (.m i) = some x -> ∃ o, vget (renX Xh m) i = some o := by
  intro i x h
  simp only [plI] at h
  split at h
  ·exact ⟨_, by assumption⟩
  ·cases h
 have hHl := YdT Kp H Xs.length (renX Xh m) (plI pls Xs.length H.length (renX Xh m))
 have hinv := fun {x : Nat} {o : AObj} => YrC (Kp := Kp) (H := H) (Xs := Xs) (pls := pls) (X2 := renX Xh m) (x := x) (o := o)
 generalize hH' : Yxc Kp H Xs.length (renX Xh m) (plI pls Xs.length H.length (renX Xh m)) = H' at hat hkp hHl hinv ⊢
 generalize hq : plI pls Xs.length H.length (renX Xh m) = q at hat hqi hqv hinv src ⊢
 have look : ∀ {b i o}, idxV m b 0 = some i -> vget Xh b = some o -> ∀ {x}, ph (.m b) = some x -> vget (renX Xh m) i = some (o.ren fun a => idxV m a 0) /\ ∃ z, q (.m i) = some z /\ ρ z = x /\ ∃ o', hf H' z = some (some o') := by
  intro b i o hi ho x hx
  have hmi := (Yb3 hi).2
  simp only [Nat.sub_zero] at hmi
  have hv : vget (renX Xh m) i = some (o.ren fun a => idxV m a 0) := by rw [Yb4 hmi, ho]; rfl
  obtain ⟨b', ob, x', h1, h2, h3, h4, z, h5, h6⟩ := src hv
  rw [hmi] at h1; injection h1 with h1; subst h1
  rw [hx] at h4; injection h4 with h4; subst h4
  exact ⟨hv, z, h5, h6, _, hat h5⟩
 have dead : ∀ {b i}, idxV m b 0 = some i -> vget Xh b = none -> vget (renX Xh m) i = none := by
  intro b i hi ho
  have hmi := (Yb3 hi).2
  simp only [Nat.sub_zero] at hmi
  rw [Yb4 hmi, ho]; rfl
 have keepA : ∀ x, Kp x -> ρ x = x /\ ∃ o, hf H' x = some (some o) := fun x hx => by
  obtain ⟨⟨o, ho⟩, _⟩ := hfr x hx
  exact ⟨hlow x (hrs.fr x hx).1, o, (hkp hx).trans ho⟩
 refine Ykl ρ (fun _ => False) ⟨fun a b o o' h1 h2 he => ?_, fun a ha => ⟨hlow a (by omega), fun _ => ?_⟩, fun a o' ho => ⟨fun h => h, ?_⟩⟩ (Ylw look dead ht hw)
 ·rcases hinv h1 with ⟨k1, _⟩ | ⟨i, k1, _⟩ <;> rcases hinv h2 with ⟨k2, _⟩ | ⟨j, k2, _⟩
  ·rw [(keepA a k1).1, (keepA b k2).1] at he; exact he
  ·obtain ⟨o2, ho2⟩ := hqv k2
   obtain ⟨b', ob, x, g1, g2, g3, g4, z, g5, g6⟩ := src ho2
   rw [k2] at g5; injection g5 with g5; subst g5
   rw [(keepA a k1).1, g6] at he
   exact absurd (he ▸ k1) (hr.nfr _ _ g4)
  ·obtain ⟨o2, ho2⟩ := hqv k1
   obtain ⟨b', ob, x, g1, g2, g3, g4, z, g5, g6⟩ := src ho2
   rw [k1] at g5; injection g5 with g5; subst g5
   rw [(keepA b k2).1, g6] at he
   exact absurd (he ▸ k2) (hr.nfr _ _ g4)
  ·obtain ⟨o1, ho1⟩ := hqv k1
   obtain ⟨o2, ho2⟩ := hqv k2
   obtain ⟨b1, ob1, x1, g1, g2, g3, g4, z1, g5, g6⟩ := src ho1
   obtain ⟨b2, ob2, x2, f1, f2, f3, f4, z2, f5, f6⟩ := src ho2
   rw [k1] at g5; injection g5 with g5; subst g5
   rw [k2] at f5; injection f5 with f5; subst f5
   rw [g6, f6] at he
   rw [he] at g4
   have := hr.inj _ _ _ g4 f4
   injection this with this; subst this
   have i1 := YfZ hnd g1
   have i2 := YfZ hnd f1
   rw [i1] at i2; injection i2 with i2; subst i2
   rw [k1] at k2; injection k2
 ·show H'[a]? ≠ none
  rw [YzO (by rw [hHl]; omega)]; simp
 ·rcases hinv ho with ⟨k1, k2⟩ | ⟨i, k1, k2⟩
  ·refine ⟨o', ?_, rfl, rfl, fun j e e' h1 h2 => ?_⟩
   ·show s.heap[ρ a]? = _
    rw [(keepA a k1).1, (hr.fr a k1).2]; exact k2
   ·rw [h1] at h2; injection h2 with h2; subst h2
    refine ⟨rfl, fun j x x' h3 h4 => ?_⟩
    rw [h3] at h4; injection h4 with h4; subst h4
    exact YkZ keepA ((hfr a k1).2 o' k2 e (YzQ h1) x (YzQ h3))
  ·obtain ⟨o2, ho2⟩ := hqv k1
   obtain ⟨b, ob, x, g1, g2, g3, g4, z, g5, g6⟩ := src ho2
   rw [k1] at g5; injection g5 with g5; subst g5
   have hob := hr.obj b ob g2
   cases ob with
   | fm c ver hole l => rcases YdU hX ho2 with ⟨_, _, e, _⟩ | ⟨_, e, _⟩ | ⟨_, e⟩ <;> (rw [g3] at e; cases e)
   | sb s0 =>
     obtain ⟨x', e1, e2⟩ := hob
     rw [g4] at e1; injection e1 with e1; subst e1
     have g3 : o2 = .sb s0 := g3
     subst g3
     rw [k2]
     simp only [encO, ho2]
     refine ⟨⟨0, strA s0⟩, by show s.heap[ρ a]? = _; rw [g6]; exact e2, rfl, rfl, fun j e e' h1 h2 => ?_⟩
     rw [h1] at h2; injection h2 with h2; subst h2
     refine ⟨rfl, fun k y y' h3 h4 => ?_⟩
     rw [h3] at h4; injection h4 with h4; subst h4
     obtain ⟨n, hn⟩ := Yab (Ya1 s0).1.symm h1
     have := (Ya1 s0).2 j e n h1 hn
     subst this
     cases k with
     | zero => simp at h3; subst h3; exact .v _
     | succ k => simp at h3
   | sq c l =>
     obtain ⟨x', el, e1, e2, e3, e4⟩ := hob
     rw [g4] at e1; injection e1 with e1; subst e1
     have g3 : o2 = .sq c l := g3
     subst g3
     rw [k2]
     simp only [encO, ho2]
     refine ⟨⟨c.width, el⟩, by show s.heap[ρ a]? = _; rw [g6]; exact e2, rfl, by simp [e4.1], fun j e e' h1 h2 => ?_⟩
     simp only [YzP, Option.map_eq_some_iff] at h2
     obtain ⟨w, h2, rfl⟩ := h2
     have := e4.2 j e w h1 h2
     exact ⟨this.1, fun k y y' h3 h4 => YbA (this.2 k y y' h3 h4) (YbD c w y' (YzQ h4))⟩
   | st cs =>
     obtain ⟨x', e, e1, e2, e3, e4⟩ := hob
     rw [g4] at e1; injection e1 with e1; subst e1
     have g3 : o2 = .st (TV.rens (fun a => idxV m a 0) cs) := g3
     subst g3
     rcases YdU hX ho2 with ⟨_, _, e, _⟩ | ⟨cs', e5, _, hwc⟩ | ⟨_, e⟩
     ·cases e
     rotate_left
     ·cases e
     ·injection e5 with e5; subst e5
      rw [k2]
      simp only [encO, ho2]
      refine ⟨⟨cs.length, [e]⟩, by show s.heap[ρ a]? = _; rw [g6]; exact e2, by simp [Yar], rfl, fun j f f' h1 h2 => ?_⟩
      cases j with
      | succ j => simp at h1
      | zero =>
        simp at h1 h2; subst h1; subst h2
        have := Ylw (H := s.heap) (tv := .tp cs) look dead (.tp cs e e4.1 e4.2) (by simpa [TV.ren, wfT] using hwc)
        simp only [TV.ren, encT] at this
        cases this with
        | tup _ _ hl hc => exact ⟨hl, hc⟩
theorem Ylx {P : Program} {fm : FM} {T : Tabs} {C : Ctx} (hC : CtxOK P fm C) (hT : TOK T C) (hm : P.follows .mixedOrders = true) {e : FnE} {F : VFn} {f : FuncId}
  (htie : fnTr P fm T.pf f = some (F.slots, F.res, F.code.er)) (h4 : F.res.length <= 4) (hts : e.args.ts = List.range' 0 e.args.vs.length) (hsl : e.args.vs.length <= F.slots)
  (hkb : T.kb = e.args.os.length) (hl : ∀ Fr H0, FrOK Fr H0 -> LsOK Fr H0 C T F.code) (hF : ∀ x y, e.F x = some y -> evI T F e.args e.res e.os e.co x = some y) : FOK P fm f e.RI := by
 refine Yfv hC hm (by rw [hT.p.pf]; exact htie) h4 ?_
 rintro args H r H' ⟨x, y, vs, Xs, pls, Kp, v, l, X2, h1, h2, h3, hct, hrs, hfr, hall, h5, h6, h7, h8, h9, h10, rfl, rfl⟩
 have hlen : e.args.vs.length = vs.length /\ e.args.os.length = Xs.length := by
  unfold Sg.read at h2
  split at h2
  ·rename_i svs sos k1 k2
   obtain ⟨e1, _⟩ := Yaa h2
   simp only [Bool.and_eq_true] at e1
   exact ⟨by rw [<- SV.eqs_of e1.1, YcS k1], by rw [<- SO.eqs_of e1.2, Yf2 k2]⟩
  ·cases h2
 refine ⟨by rw [<- hct.1, <- hlen.1]; exact hsl, ?_⟩
 have hev := hF x y h1
 unfold evI at hev
 rw [YaU h2] at hev
 simp only at hev
 have hkb' : T.kb = Xs.length := hkb.trans hlen.2
 have hvs : VS Kp H (T.kb, fun i => pls (.m i)) H.length ⟨zipE e.args.ts vs, Xs⟩ ⟨Yxb 0 args, H, H.length⟩ := by
  refine ⟨rfl, by rw [hkb']; exact Nat.le_refl _, pls, ?_, hrs, fun i hi x hx => hx⟩
  show ERel _ _ (zipE e.args.ts vs) _
  rw [hts, hlen.1]; exact Ylv 0 vs args hct
 refine YaB hT hfr hev (hl Kp H hfr) hvs (fun ex s' st' g1 g2 => ?_)
 have post : (match Yx9 s' F.res with | some vs => (match retI T.kb (tupV vs) s'.heap with | (v, X) => YyR e.res e.os e.co v X) | none => none) = some y ->
   ∃ as, YxF st' F.res as /\ Fin st' (tupR as) (encT X2 (plI pls Xs.length H.length X2) v) (Yxc Kp H Xs.length X2 (plI pls Xs.length H.length X2)) := by
  intro g1
  split at g1
  ·rename_i ws hws
   obtain ⟨hb, hkl, ph, he, hr, hpk⟩ := g2
   obtain ⟨as, k1, k2⟩ := Yf1 he hr hws
   have hr := YkW hr
   have k3 := TR.nrm _ ((Ylt k2).ext YfP)
   have hkl' : Xs.length <= (nrmX s'.heap).length := by rw [<- hkb']; simpa [nrmX] using hkl
   unfold retI at g1
   simp only at g1
   have hmin : min T.kb (nrmX s'.heap).length = Xs.length := by omega
   rw [hmin] at g1
   generalize nrmX s'.heap = Xh at g1 hr k3 hkl' hmin
   generalize (tupV ws).nrm = tw at g1 k3
   have hnd : (Yw2 Xh 5 (YwU Xh (List.range Xs.length) tw.ids)).Nodup := YcI (YbK List.nodup_range)
   have hpre : List.range Xs.length <+: Yw2 Xh 5 (YwU Xh (List.range Xs.length) tw.ids) := (YcK _ _ _).trans (YfM _ _ _)
   generalize Yw2 Xh 5 (YwU Xh (List.range Xs.length) tw.ids) = m at g1 hnd hpre
   obtain ⟨q1, q2⟩ := Yr1 g1
   rw [h5] at q1; injection q1 with q1; injection q1 with q1 q3
   rw [<- q3, h6] at q2; injection q2 with q2; injection q2 with q2 _
   subst q1; subst q2
   exact ⟨as, k1, YcT hrs hfr hr hb hkl' (fun i hi z hz => hpk i (by rw [hkb']; exact hi) z hz) hnd hpre k3 h8 h9⟩
  ·cases g1
 cases ex with
 | exit id => cases g1
 | nor => exact post g1
 | ret => exact post g1
theorem Ybd {P : Program} {fm : FM} {T : Tabs} (hS : YwH P fm T) (hm : P.follows .mixedOrders = true) (L : List LpE) (e : FnE) (hp : T.pf e.g = false) (F : VFn)
  (htie : ∀ f, fm f = e.g -> fnTr P fm T.pf f = some (F.slots, F.res, F.code.er)) (h4 : F.res.length <= 4) (hts : e.args.ts = List.range' 0 e.args.vs.length) (hsl : e.args.vs.length <= F.slots)
  (hl : ∀ C, TOK ⟨T.pf, T.fs, L, e.args.os.length⟩ C -> ∀ Fr H0, FrOK Fr H0 -> LsOK Fr H0 C ⟨T.pf, T.fs, L, e.args.os.length⟩ F.code) (hF : ∀ x y, e.F x = some y -> evI ⟨T.pf, T.fs, L, e.args.os.length⟩ F e.args e.res e.os e.co x = some y) : YwH P fm ⟨T.pf, e :: T.fs, T.ls, 0⟩ := by
 obtain ⟨C, hC, hT⟩ := hS
 have hT' : TOK ⟨T.pf, T.fs, L, e.args.os.length⟩ C := ⟨⟨hT.p.pf, hT.p.fn⟩, hT.fnI⟩
 have hpC : C.pf e.g = true -> Pure e.RI := fun h => by rw [hT.p.pf, hp] at h; cases h
 exact ⟨Yxm C e.g e.RI, Ybp hC hpC (fun f hf => Ylx hC hT' hm (htie f hf) h4 hts hsl rfl (hl C hT') hF), Ybq hT (fun h => by rw [hp] at h; cases h) (fun _ _ _ _ _ h => h)⟩
theorem Yr2 {P : Program} {fm : FM} {T : Tabs} (hS : YwH P fm T) (hm : P.follows .mixedOrders = true) (e : FnE) (hp : T.pf e.g = false) (Fn : Nat -> e.args.c.den -> Option e.co.den) (L : Nat -> List LpE) (F : VFn)
  (htie : ∀ f, fm f = e.g -> fnTr P fm T.pf f = some (F.slots, F.res, F.code.er)) (h4 : F.res.length <= 4) (hts : e.args.ts = List.range' 0 e.args.vs.length) (hsl : e.args.vs.length <= F.slots)
  (h0 : ∀ x, Fn 0 x = none) (hlim : ∀ x y, e.F x = some y -> ∃ n, Fn n x = some y)
  (hl : ∀ n C, TOK ⟨T.pf, ⟨e.g, e.pf, e.args, e.res, e.os, e.co, Fn n⟩ :: T.fs, L n, e.args.os.length⟩ C -> ∀ Fr H0, FrOK Fr H0 -> LsOK Fr H0 C ⟨T.pf, ⟨e.g, e.pf, e.args, e.res, e.os, e.co, Fn n⟩ :: T.fs, L n, e.args.os.length⟩ F.code)
  (hF : ∀ n x y, Fn (n + 1) x = some y -> evI ⟨T.pf, ⟨e.g, e.pf, e.args, e.res, e.os, e.co, Fn n⟩ :: T.fs, L n, e.args.os.length⟩ F e.args e.res e.os e.co x = some y) : YwH P fm ⟨T.pf, e :: T.fs, T.ls, 0⟩ := by
 obtain ⟨C, hC, hT⟩ := hS
 have hpC : ∀ R : Yw1, C.pf e.g = true -> Pure R := fun R h => by rw [hT.p.pf, hp] at h; cases h
 have step : ∀ n f, fm f = e.g -> FOK P fm f (FnE.RI ⟨e.g, e.pf, e.args, e.res, e.os, e.co, Fn n⟩) := by
  intro n
  induction n with
  | zero =>
    intro f _ args H r H' hc
    obtain ⟨x, y, vs, Xs, pls, Kp, v, l, X2, h1, _⟩ := hc
    have : Fn 0 x = some y := h1
    rw [h0] at this; cases this
  | succ n ih =>
    intro f hf
    have hC' := Ybp hC (hpC _) ih
    have hT' := Ybq hT (e := ⟨e.g, e.pf, e.args, e.res, e.os, e.co, Fn n⟩) (R := FnE.RI ⟨e.g, e.pf, e.args, e.res, e.os, e.co, Fn n⟩) (fun h => by rw [hp] at h; cases h) (fun _ _ _ _ _ h => h)
    have hT2 : TOK ⟨T.pf, ⟨e.g, e.pf, e.args, e.res, e.os, e.co, Fn n⟩ :: T.fs, L n, e.args.os.length⟩ _ := ⟨⟨hT'.p.pf, hT'.p.fn⟩, hT'.fnI⟩
    exact Ylx (e := ⟨e.g, e.pf, e.args, e.res, e.os, e.co, Fn (n + 1)⟩) hC' hT2 hm (htie f hf) h4 hts hsl rfl (hl n _ hT2) (hF n)
 refine ⟨Yxm C e.g e.RI, Ybp hC (hpC _) (fun f hf args H r H' hc => ?_), Ybq hT (fun h => by rw [hp] at h; cases h) (fun _ _ _ _ _ h => h)⟩
 obtain ⟨x, y, vs, Xs, pls, Kp, v, l, X2, h1, h2⟩ := hc
 obtain ⟨n, hn⟩ := hlim x y h1
 exact step n f hf args H r H' ⟨x, y, vs, Xs, pls, Kp, v, l, X2, hn, h2⟩
end
end Go.Abs
namespace Go.Abs
open Go
def cs : List Ty -> Cs
 | [] => .nil
 | t :: r => .cons t (cs r)
abbrev I : Ty := .i .i64
abbrev o (d : Nat) (op : VOp) : VI := ⟨some d, op, none, false, false⟩
abbrev on (op : VOp) : VI := ⟨none, op, none, false, false⟩
abbrev og (d g : Nat) (w : Bool) (op : VOp) : VI := ⟨some d, op, some (g, w), false, false⟩
abbrev t (n : Nat) : VOpd := .t n
abbrev k (n : Int) : VOpd := .c (.one (.i .i64 n))
abbrev ki (kd : IntKind) (n : Int) : VOpd := .c (.one (.i kd n))
abbrev kb (x : Bool) : VOpd := .c (.one (.b x))
abbrev ks (x : ByteArray) : VOpd := .c (.one (.s x))
abbrev ke (c : Cs) : VOpd := .c (.one (.e c))
abbrev w64 (x : Int) : Int := IntKind.wrap .i64 x
def alt2 {A B γ : Type} (y : A ⊕ B) (f : A -> γ) (g : B -> γ) : γ := match y with | .inl a => f a | .inr b => g b
theorem Yam {S R : Type} {step s : S -> Option (S ⊕ R)} (h : ∀ x, step x = s x) {x : S} {y : R} (hs : Yxi s x = some y) : Yxi step x = some y := by
 have : step = s := funext h
 rw [this]; exact hs
theorem Yai {p : Nat -> Bool} {fs : List FnE} {l l' : List LpE} {k k' : Nat} {C : Ctx} (h : TOK ⟨p, fs, l, k⟩ C) : TOK ⟨p, fs, l', k'⟩ C := ⟨⟨h.p.pf, h.p.fn⟩, h.fnI⟩
theorem YwW {Fr : Nat -> Prop} {H0 : Heap} {kb : Nat} {C : Ctx} {code : ACode} {id : Nat} {ls : List LpE} {p : LpE} (h0 : Yyh id ls = some p) (hp : YwI Fr H0 kb C code p) : ∀ e, Yyh id ls = some e -> YwI Fr H0 kb C code e := fun e h => by
 rw [h0] at h; injection h with h; subst h; exact hp
structure Lo where
 run : ∀ {S R : Type}, (S -> Option (S ⊕ R)) -> S -> Option R
def LoOK (lo : Lo) : Prop := ∀ {S R : Type} (step : S -> Option (S ⊕ R)) (x : S) (y : R), lo.run step x = some y -> Yxi step x = some y
theorem Yf3 {S R : Type} {step : S -> Option (S ⊕ R)} : ∀ {n m : Nat} {x : S} {y : R}, n <= m -> Yxl step n x = some y -> Yxl step m x = some y
 | 0, _, _, _, _, h => by cases h
 | n + 1, 0, _, _, h, _ => by omega
 | n + 1, m + 1, x, y, h, hy => by
   simp only [Yxl] at hy ⊢
   split at hy
   ·exact Yf3 (by omega) hy
   ·exact hy
   ·cases hy
theorem YcU {S R : Type} {step : S -> Option (S ⊕ R)} {n : Nat} {x : S} {y : R} (h : Yxl step n x = some y) : Yxi step x = some y := by
 have hx : ∃ n r, Yxl step n x = some r := ⟨n, y, h⟩
 unfold Yxi
 rw [dif_pos hx]
 have h2 := Classical.choose_spec (Classical.choose_spec hx)
 have k1 := Yf3 (Nat.le_max_left n (Classical.choose hx)) h
 have k2 := Yf3 (Nat.le_max_right n (Classical.choose hx)) h2
 rw [k1] at k2; injection k2 with k2; rw [k2]
noncomputable def loO : Lo := ⟨fun step x => Yxi step x⟩
theorem Yr3 : LoOK loO := fun _ _ _ h => h
theorem YdY {S R : Type} (step : S -> Option (S ⊕ R)) (x : S) : Yxi step x = match step x with | some (.inl s) => Yxi step s | some (.inr r) => some r | none => none := by
 refine Option.ext (fun y => ⟨fun h => ?_, fun h => ?_⟩)
 ·obtain ⟨n, hn⟩ := YdW h
  cases n with
  | zero => cases hn
  | succ n =>
    simp only [Yxl] at hn
    split at hn
    ·rename_i hs; rw [hs]; exact YcU hn
    ·rename_i hs; rw [hs]; exact hn
    ·cases hn
 ·split at h
  ·rename_i s hs
   obtain ⟨n, hn⟩ := YdW h
   exact YcU (n := n + 1) (by simp only [Yxl, hs]; exact hn)
  ·rename_i r hs
   exact YcU (n := 1) (by simp only [Yxl, hs]; exact h)
  ·cases h
def fixS {A B : Type} (f : Nat -> A -> Option B) : Nat × A -> Option ((Nat × A) ⊕ B) := fun x => match f x.1 x.2 with
 | some y => some (.inr y)
 | none => some (.inl (x.1 + 1, x.2))
theorem Yr4 {A B : Type} {f : Nat -> A -> Option B} {n : Nat} {x : A} {y : B} (h : Yxi (fixS f) (n, x) = some y) : ∃ m, f m x = some y := by
 obtain ⟨k, hk⟩ := YdW h
 induction k generalizing n with
 | zero => cases hk
 | succ k ih =>
   simp only [Yxl, fixS] at hk
   cases hf : f n x with
   | some z => rw [hf] at hk; simp only at hk; injection hk with hk; subst hk; exact ⟨n, hf⟩
   | none => rw [hf] at hk; simp only at hk; exact ih (YcU hk) hk
end Go.Abs
namespace Go.Abs
open Go Go.RowKit
def Yxp (es : Nat) (z : List Value) : ACode :=
 .seq (.reg [⟨some 2, .mv (.c .emp), none, false, false⟩])
  (.seq
   (.seq (.reg [⟨some 3, .mv (.t 0), none, false, false⟩, ⟨some 4, .pv (.isn false) [(.t 3)], none, false, false⟩])
    (.cond (.t 4) (.seq (.reg [⟨some 2, .mv (.c .emp), none, false, false⟩]) .ret) .skip))
   (.seq (.reg [⟨some 5, .bsl es z 0 [], none, false, false⟩, ⟨some 6, .mv (.t 0), none, false, false⟩, ⟨some 7, .app es (.t 5) (.t 6), none, false, false⟩, ⟨some 2, .mv (.t 7), none, false, false⟩])
    .ret))
def vcloneE (g : Nat) (c : Cs) : FnE := ⟨g, false, ⟨[0], [.l c], [], .cons (.l c) .nil⟩, .ref 0, [.sq c], .cons (.l c) .nil,
 fun (l : List c.den) => bif Nat.ble l.length maxEl && Nat.ble 1 c.width then some l else none⟩
section
variable {C : Ctx}
theorem Yr5 {code : ACode} {Q : Ex -> ASt -> Prop} {t es : Nat} {env : Env} {H : Heap} {b : Nat} (hl : YwJ env t = .rd es []) (h : ∀ A c, Sat C code Q ⟨(t, .v (.slice A 0 c)) :: env, H, b⟩) : Sat C code Q ⟨env, H, b⟩ := by
 intro P fm n code' hC hm ht w0 L0 a w hs
 obtain ⟨h1, h2, h3, L, h4, h5, h6, h7⟩ := hs
 have hv := h7 t
 simp only at hv
 rw [hl] at hv
 rcases Ybj hv with ⟨_, A, c, e⟩ | ⟨_, _, _, _, _, hne, _⟩
 ·refine h A c P fm n code' hC hm ht w0 L0 a w ⟨h1, h2, h3, L, h4, h5, h6, fun s => ?_⟩
  simp only [YwJ]
  cases hst : (t == s) with
  | true => have : t = s := by simpa using hst
            subst this; simp only [cond_true]; rw [e]; exact .v _
  | false => simp only [cond_false]; exact h7 s
 ·exact absurd rfl hne
theorem Yly {es : Nat} (hes0 : 0 < es) {z : List Value} {a0 : AV} {l : List (List AV)} {H : Heap} {b : Nat} {t : Bool} (hisn : pvF (.isn false) [a0] = some (.v (.bool t))) (ht : t = true -> l = [])
  (hw : ∀ (fm : FM) (w : World) (L : Nat -> Loc) (x : Value), VR fm w L x a0 -> VR fm w L x (.rd es l)) (hlen : ∀ e ∈ l, e.length = es) (hmax : l.length <= maxEl) {env : Env} (he : YwJ env 0 = a0) {Q : Ex -> ASt -> Prop}
  (h1 : l = [] -> ∀ env, YwJ env 2 = .emp -> ∃ st', Wk ⟨env, H, b⟩ st' /\ Q .ret st') (h2 : ∀ env, YwJ env 2 = .ref H.length 0 l.length -> Q .ret ⟨env, H ++ [some ⟨es, l⟩], b⟩) : Sat C (Yxp es z) Q ⟨env, H, b⟩ := by
 unfold Yxp
 refine Ya9 (Ydz ?_)
 simp only [Yxg, evAI, Yci, evOp, evG, opK, opd, put, YwT, Ex.then]
 refine Ya9 (Ya9 (Ydz ?_))
 simp only [Yxg, evAI, Yci, evOp, evG, opK, opd, put, YwT, Ex.then, YzR, YzT, YwJ]
 refine ⟨.v (.bool t), ?_, ?_⟩
 ·simp only [Nat.reduceBEq, cond_true, cond_false, he]; exact hisn
 refine Ykf (b := t) (by simp [opd, YwJ]) (fun e => ?_) (fun e => ?_)
 ·subst e
  refine Ya9 (Ydz ?_)
  simp only [Yxg, evAI, Yci, evOp, evG, opK, opd, put, YwT, Ex.then, Yxy]
  obtain ⟨st', hwk, hq⟩ := h1 (ht rfl) ((2, .emp) :: (4, .v (.bool true)) :: (4, .v (.bool true)) :: (3, bif (2 : Nat) == 0 then .emp else YwJ env 0) :: (2, .emp) :: env) (by simp [YwJ])
  exact Sat.wk hwk (Yfq hq)
 ·subst e
  refine Ykd ?_
  simp only [Ex.then, Yxy]
  refine Sat.wk (s := ⟨[(0, .rd es l)], H, b⟩) ?_ ?_
  ·intro fm n w0 L0 a w hs
   obtain ⟨k1, k2, k3, L, k4, k5, k6, k7⟩ := hs
   refine ⟨k1, k2, k3, L, k4, k5, k6, fun s => ?_⟩
   simp only [YwJ]
   cases hst : ((0 : Nat) == s) with
   | true =>
     have : 0 = s := by simpa using hst
     subst this
     simp only [cond_true]
     have := k7 0
     simp only [YwJ, Nat.reduceBEq, cond_false] at this
     rw [he] at this
     exact hw _ _ _ _ this
   | false => simp only [cond_false]; exact .u _
  ·refine Ya9 (Ydz ?_)
   simp only [Yxg, evAI, Yci, evOp, evG, opK, opd, put, YwT, Ex.then, Yxk, List.replicate_zero, YwJ, Nat.reduceBEq, cond_true, cond_false, appK, true_and]
   refine ⟨hmax, hlen, fun h0 => absurd h0 (by omega), ?_⟩
   refine Yfq (h2 _ (by simp [YwJ]))
theorem Yr6 {es : Nat} (hes0 : 0 < es) {z : List Value} {l : List (List AV)} {H : Heap} {b : Nat} (hlen : ∀ e ∈ l, e.length = es) (hmax : l.length <= maxEl) {env : Env} (he : YwJ env 0 = .rd es l) {Q : Ex -> ASt -> Prop}
  (h1 : l = [] -> ∀ env, YwJ env 2 = .emp -> ∃ st', Wk ⟨env, H, b⟩ st' /\ Q .ret st') (h2 : ∀ env, YwJ env 2 = .ref H.length 0 l.length -> Q .ret ⟨env, H ++ [some ⟨es, l⟩], b⟩) : Sat C (Yxp es z) Q ⟨env, H, b⟩ := by
 cases l with
 | nil =>
   refine Yr5 he (fun A c => ?_)
   refine Yly hes0 (a0 := .v (.slice A 0 c)) (t := A.isNone) rfl (fun _ => rfl) (fun fm w L x hx => ?_) (fun e he => by cases he) hmax (by simp [YwJ]) h1 h2
   rw [Yag hx]; exact .rd0 A es c
 | cons e0 l0 =>
   exact Yly hes0 (a0 := .rd es (e0 :: l0)) (t := false) rfl (fun h => by cases h) (fun _ _ _ _ h => h) hlen hmax he h1 h2
end
theorem Yr7 {C : Ctx} {c : Cs} {n : Nat} {z : List Value} {Kp : Nat -> Prop} {H : Heap} {pls : Pl} {args : List AV} (x : List c.den) (hn : 1 <= n) (hmax : x.length <= maxEl) (hw0 : 0 < c.width) (hct : CT [] pls [.l c x] args) (hrs : HRel Kp H [] pls H) (hfr : FrOK Kp H)
  (h9 : wfX [some (.sq c x)] [some (.sq c x)] = true) :
  args.length <= n /\ Sat C (Yxp c.width z) (RetQ [.t 2] (encT [some (.sq c x)] (plI pls 0 H.length [some (.sq c x)]) (.ref 0)) (Yxc Kp H 0 [some (.sq c x)] (plI pls 0 H.length [some (.sq c x)]))) ⟨Yxb 0 args, H, H.length⟩ := by
 obtain ⟨a, ra, rfl, ha, hra⟩ := hct.inv
 have hra0 : ra = [] := YzY.1 hra.1.symm
 subst hra0
 refine ⟨by simpa using hn, ?_⟩
 have hcoe : Coe a (.rd c.width (x.map c.enc)) := by
  cases ha with
  | l _ _ _ hc => exact hc
 have hw : Wk ⟨Yxb 0 [a], H, H.length⟩ ⟨[(0, .rd c.width (x.map c.enc))], H, H.length⟩ := by
  intro fm n w0 L0 aa w hs
  obtain ⟨k1, k2, k3, L, k4, k5, k6, k7⟩ := hs
  refine ⟨k1, k2, k3, L, k4, k5, k6, fun s => ?_⟩
  have := k7 s
  simp only [Yxb, YwJ] at this ⊢
  cases hst : ((0 : Nat) == s) with
  | true => rw [hst] at this; simp only [cond_true] at this ⊢; exact Ydn hcoe this
  | false => simp only [cond_false]; exact .u _
 refine Sat.wk hw ?_
 have fin : ∀ env, YwJ env 2 = .ref H.length 0 (x.map c.enc).length ->
   RetQ [.t 2] (encT [some (.sq c x)] (plI pls 0 H.length [some (.sq c x)]) (.ref 0)) (Yxc Kp H 0 [some (.sq c x)] (plI pls 0 H.length [some (.sq c x)])) .ret ⟨env, H ++ [some ⟨c.width, x.map c.enc⟩], H.length⟩ := by
  intro env he
  refine ⟨[YwJ env 2], ⟨rfl, trivial⟩, ?_⟩
  simp only [tupR, he]
  have hr0 : HRel Kp H [] (fun _ => none) H := ⟨fun a o h => (by cases h), fun p q x h => (by cases h), fun p x h => (by cases h), hrs.fr, fun p x h => (by cases h), Nat.le_refl _⟩
  have hrow : Rows (x.map c.enc) c x := by
   refine ⟨by simp, fun i e v' k1 k2 => ?_⟩
   rw [YzP, k2, Option.map_some] at k1
   injection k1 with k1; subst k1
   exact ⟨rfl, fun j x x' k1 k2 => by rw [k1] at k2; injection k2 with k2; subst k2; exact .refl _⟩
  obtain ⟨hr, _⟩ := Yat hr0 (.sq c x) ⟨c.width, x.map c.enc⟩ (fun _ => ⟨H.length, x.map c.enc, by simp [plS], by simp, hw0, hrow⟩)
  have ht : TR ([] ++ [some (VObj.sq c x)]) (plS (fun _ => none) (.m 0) (some H.length)) (.ref 0) (.ref H.length 0 (x.map c.enc).length) :=
   .ref 0 H.length (.sq c x) _ rfl (by simp [lenO]) (by simp [plS])
  exact YcT (Xs := []) (pls := pls) (m := [0]) (s := ⟨env, H ++ [some ⟨c.width, x.map c.enc⟩], H.length⟩) hrs hfr hr rfl (Nat.zero_le _) (fun i hi => absurd hi (Nat.not_lt_zero _)) (by simp) (List.nil_prefix) ht rfl h9
 refine Yr6 hw0 (l := x.map c.enc) (fun e he => ?_) (by simpa using hmax) (by simp [YwJ]) (fun h0 env he => ?_) (fun env he => fin env he)
 ·obtain ⟨w, _, rfl⟩ := Yz5.1 he
  exact Ybl c w
 ·refine ⟨_, Ykr he hw0, ?_⟩
  have := fin ((2, .ref H.length 0 0) :: env) (by rw [h0]; simp [YwJ])
  rw [h0] at this
  exact this
theorem Yr8 {P : Program} {fm : FM} {C : Ctx} (hC : CtxOK P fm C) (hm : P.follows .mixedOrders = true) {f : FuncId} {g n : Nat} {c : Cs} {z : List Value} (h : fnTr P fm C.pf f = some (n, [.t 2], Yxp c.width z)) (hn : 1 <= n) :
  FOK P fm f (vcloneE g c).RI := by
 refine Yfv hC hm h (by simp) ?_
 rintro args H r H' ⟨x, y, vs, Xs, pls, Kp, v, l, X2, h1, h2, h3, hct, hrs, hfr, hall, h5, h6, h7, h8, h9, h10, rfl, rfl⟩
 have key : ∀ (x y : List c.den), (bif Nat.ble x.length maxEl && Nat.ble 1 c.width then some x else none) = some y -> Sg.fill ⟨[0], [.l c], [], .cons (.l c) .nil⟩ x = some ⟨zipE [0] vs, Xs⟩ -> vs.length = 1 -> YwP (.ref 0) (unp (.cons (.l c) .nil) y) = some (v, l) -> YwX [.sq c] l = some (X2, []) ->
   x.length <= maxEl /\ 0 < c.width /\ vs = [.l c x] /\ Xs = [] /\ v = .ref 0 /\ X2 = [some (.sq c x)] := by
  intro x y hF hfill hlen e5 e6
  obtain ⟨hb, hF⟩ := Yaa hF
  injection hF with hF; subst hF
  simp only [Bool.and_eq_true, Nat.ble_eq] at hb
  have hu : unp (.cons (.l c) .nil) x = [⟨.l c, x⟩] := rfl
  unfold Sg.fill at hfill
  simp only [hu, YwZ, YwP, YbJ, YwX] at hfill
  injection hfill with hfill; injection hfill with hz hX
  obtain ⟨w0, rfl⟩ := List.length_eq_one_iff.1 hlen
  simp only [zipE, List.cons.injEq, Prod.mk.injEq, and_true, true_and] at hz
  simp only [hu, YwP, Option.some.injEq, Prod.mk.injEq] at e5
  obtain ⟨rfl, rfl⟩ := e5
  simp only [YwX, Yxt, YbJ, Option.some.injEq, Prod.mk.injEq, and_true] at e6
  exact ⟨hb.1, hb.2, by rw [hz], hX.symm, rfl, e6.symm⟩
 have hlen : vs.length = 1 := by
  unfold Sg.read at h2
  split at h2
  ·rename_i svs sos k1 k2
   obtain ⟨e1, _⟩ := Yaa h2
   simp only [Bool.and_eq_true] at e1
   have := SV.eqs_of e1.1
   rw [<- YcS k1, this]; rfl
  ·cases h2
 obtain ⟨k1, k2, rfl, rfl, rfl, rfl⟩ := key x y h1 (YaU h2) hlen h5 h6
 exact Yr7 (c := c) x hn k1 k2 hct hrs hfr h9
theorem Yr9 {P : Program} {fm : FM} {T : Tabs} (hS : YwH P fm T) (hm : P.follows .mixedOrders = true) {g : Nat} (c : Cs) (hp : T.pf g = false) (z : List Value) (n : Nat) (hn : 1 <= n)
  (htie : ∀ f, fm f = g -> fnTr P fm T.pf f = some (n, [.t 2], Yxp c.width z)) : YwH P fm ⟨T.pf, vcloneE g c :: T.fs, T.ls, 0⟩ := by
 obtain ⟨C, hC, hT⟩ := hS
 have hpC : C.pf g = true -> Pure (vcloneE g c).RI := fun h => by rw [hT.p.pf, hp] at h; cases h
 exact ⟨Yxm C g (vcloneE g c).RI, Ybp hC hpC (fun f hf => Yr8 hC hm (by rw [hT.p.pf]; exact htie f hf) hn), Ybq (e := vcloneE g c) hT (fun h => by rw [show (vcloneE g c).g = g from rfl, hp] at h; cases h) (fun _ _ _ _ _ h => h)⟩
end Go.Abs
namespace Go.Abs
open Go Go.RowKit
theorem YsE {P : Program} {fm : FM} {o : Oper} {xs : List Opd} (h : trOp P fm o = some (.px .mnxt xs)) : ∃ x, o.op = .next x false /\ xs = [YwN fm x] := by
 obtain ⟨dst, oop, ty, pos, after, guard⟩ := o
 cases oop <;> simp only [trOp] at h
 case next x st =>
  cases st with
  | true => cases h
  | false => injection h with h; injection h with _ h; exact ⟨x, rfl, h.symm⟩
 all_goals exfalso
 all_goals first
  | (cases h; done)
  | skip
 all_goals (repeat' (first | (cases h; done) | split at h))
 all_goals first
  | (cases h; done)
  | (rename_i hq; cases hq; done)
  | (simp only [Option.map_eq_some_iff, Option.bind_eq_some_iff] at h; grind)
  | skip
section
variable {C : Ctx} {Q : Ex -> ASt -> Prop} {st : ASt}
theorem YsF {bl : List (List AV)} {sn : List Int} (h : bl = sn.map fun b => [.v (.int .i64 b)]) {fm : FM} {w : World} {L : Nat -> Loc} {seen : Array Nat} (hs : Yy8 fm w L seen bl) : seen.toList.map (fun (n : Nat) => (n : Int)) = sn := by
 refine YAm fun i => ?_
 rw [YzP]
 cases hi : sn[i]? with
 | none =>
   have : seen.toList.length = sn.length := by simp [hs.1, h]
   have h1 : seen.toList[i]? = none := by rw [YAx] at hi ⊢; omega
   rw [h1]; rfl
 | some b =>
   obtain ⟨n, c, h1, h2, h3⟩ := hs.2 i [.v (.int .i64 b)] (by rw [h, YzP, hi]; rfl)
   injection h2 with h2 _; subst h2
   have := Yag h3; injection this with _ this
   have h1' : seen.toList[i]? = some n := by simpa using h1
   rw [h1']; simp [this]
theorem YsG {it nx mo i m : Nat} {s : Int} {bl el : List (List AV)} {tags : List AV} {oi o : AObj} {B sn : List Int} {S tg : AV}
  (h1 : YwJ st.env it = .np i) (h2 : st.heap[i]? = some (some oi)) (h3 : oi = ⟨5, [[.np m, .v (.int .i64 s), .v (.int .i64 s), S, tg]]⟩) (hS : rowsR S = some bl) (hbl : bl = sn.map fun b => [.v (.int .i64 b)])
  (h4 : st.heap[m]? = some (some o)) (h5 : mapO o = some (s, el, tags)) (hel : el.map Yx3 = B.map some)
  (hdone : (∀ b ∈ B, b ∈ sn) -> Q .nor ⟨(mo, .v (.bool false)) :: (nx, .u) :: st.env, st.heap, st.base⟩)
  (hstep : ∀ b ∈ B, b ∉ sn -> Q .nor ⟨(mo, .v (.bool true)) :: (nx, .u) :: st.env, st.heap.set i (some ⟨5, [[.np m, .v (.int .i64 s), .v (.int .i64 s), .rd 1 (bl ++ [[.v (.int .i64 b)]]), tg]]⟩), st.base⟩) :
  Sat C (.reg [⟨some nx, .px .mnxt [.t it], none, false, false⟩, ⟨some mo, .ext (.t nx) 0, none, false, false⟩]) Q st := by
 intro P fm n code hC hm ht w0 L0 a w hs
 cases code with
 | region id ops draw =>
   obtain ⟨is, zs, k1, k2, k3⟩ := Ya8 ht (fun e => by cases e)
   injection k2 with k2
   rcases k3 with ⟨rfl, hE, k3⟩ | ⟨rfl, rfl⟩
   ·exfalso
    obtain ⟨hok, _, _⟩ := Ydy k3
    rw [<- k2] at hok
    unfold YxD at k3
    split at k3
    ·rename_i hd; cases k3
    ·rename_i hd
     obtain ⟨_, _, hv⟩ := Ydy (pf := C.pf) (an := ancs ops.toList []) (is := is) (ys := zs) (by unfold YxD; rw [if_neg hd]; exact k3)
     obtain ⟨x, hx, _, _, hv⟩ := hv 0 ⟨some nx, .px .mnxt [.t it], none, false, false⟩ (by rw [<- k2]; rfl)
     apply hd
     rw [YAq]
     refine ⟨x, YzQ hx, ?_⟩
     rcases hv with e | ⟨g, n', z, e1, e2⟩ | ⟨z, as, e1, e2⟩ | ⟨z, as, e1, e2⟩
     ·rw [<- e]; rfl
     ·cases e2
     ·cases e2
     ·cases e2
   ·obtain ⟨ops⟩ := ops
    refine wp_region_lit ?_
    subst k2
    simp only at k1
    cases ops with
    | nil => simp [Yxa] at k1
    | cons o1 r =>
    obtain ⟨y1, z1, g1, g2, e⟩ := Ycw k1
    injection e with e1 e2
    subst e1; subst e2
    cases r with
    | nil => simp [Yxa] at g2
    | cons o2 r2 =>
    obtain ⟨y2, z2, g3, g4, e⟩ := Ycw g2
    injection e with e1 e2
    subst e1; subst e2
    cases r2 with
    | cons o3 r3 => obtain ⟨_, _, _, _, e⟩ := Ycw g4; cases e
    | nil =>
    obtain ⟨hop, hdst, hdn, _, _, hg⟩ := Yfa g1
    have hg0 : o1.guard = none := by
     rcases hg with ⟨hg, _⟩ | ⟨_, _, _, _, _, _, hg⟩
     ·exact hg
     ·cases hg
    obtain ⟨x, hx1, hx2⟩ := YsE hop
    have hx : x = .tmp it := by
     injection hx2 with hx2 _
     cases x <;> simp [YwN] at hx2
     rw [hx2]
    subst hx
    obtain ⟨L1, hk1, hs1, hr1, he1⟩ := hs.rel
    have hiv := he1 it
    rw [h1] at hiv
    have hio : YxV oi = some (m, s, s, bl) := by rw [h3]; unfold YxV; simp only [hS]; rfl
    have hoi : hf st.heap i = some (some oi) := h2
    obtain ⟨g, g', since, seen, stepped, ex, hL, hgi, hvm, es1, es2, hseen⟩ := Yjv hr1 hoi hio hiv
    obtain ⟨es, nc, enc, hLm, hgm, hmr, hasc⟩ := Yjq hr1 (show hf st.heap m = _ from h4) h5 hvm
    have hsc : since = nc := by omega
    have hst : since = stepped := by omega
    subst hsc; subst hst
    have hsn := YsF hbl hseen
    have hBe : es.toList.map (fun e => ((e.born : Nat) : Int)) = B := by
     have : es.toList.map (fun e => some ((e.born : Nat) : Int)) = B.map some := by
      rw [<- hel]
      refine YAm fun j => ?_
      rw [YzP, YzP]
      have hlen : es.toList.length = el.length := by simpa using hmr.len
      cases hj : el[j]? with
      | none =>
        have : es.toList[j]? = none := by rw [YAx] at hj ⊢; omega
        rw [this]; rfl
      | some e =>
        obtain ⟨me, b, k, r, q1, rfl, q3, _⟩ := hmr.row j e hj
        have q1' : es.toList[j]? = some me := by simpa using q1
        rw [q1']
        have hbb : ∃ bb : Int, Yx3 (b :: k :: r) = some bb := by
         have := congrArg (fun l => l[j]?) hel
         simp only [YzP, hj, Option.map_some] at this
         cases hB : B[j]? with
         | none => rw [hB] at this; cases this
         | some bb => rw [hB] at this; simp only [Option.map_some] at this; injection this with this; exact ⟨bb, this⟩
        obtain ⟨bb, hbb⟩ := hbb
        have : b = .v (.int .i64 bb) := by
         unfold Yx3 at hbb
         split at hbb
         ·rename_i heq; injection heq with heq _; injection hbb with hbb; rw [heq, hbb]
         ·cases hbb
        subst this
        have := Yag q3; injection this with _ this
        simp only [Option.map_some, hbb, this]
     have h' := congrArg (List.map (fun (o : Option Int) => o.getD 0)) this
     simpa [YAc, Function.comp_def] using h'
    have hold : ∀ x ∈ es.toList, x.born < since := fun x hx => by
     obtain ⟨j, hj⟩ := Yz1.1 hx
     exact hasc.1 j x (by simpa using hj)
    have hmemB : ∀ b : Nat, ((b : Int) ∈ sn ↔ seen.contains b = true) := fun b => by
     rw [<- hsn]
     simp only [Yz5, Array.contains_iff_mem]
     constructor
     ·rintro ⟨n, hn, e⟩
      have : n = b := by omega
      subst this; simpa using hn
     ·intro hb; exact ⟨b, by simpa using hb, rfl⟩
    have hexec : ∀ y w', (Instr.next (.pointer (some ⟨g, 0, none⟩)) false o1.type).run P w = .ok y w' -> Yyx P o1 a w y w' := by
     intro y w' hy
     refine .inl ?_
     have hev : a.eval (.tmp it) = .pointer (some ⟨g, 0, none⟩) := ex
     obtain ⟨d1, op1, t1, p1, a1, gd1⟩ := o1
     simp only at hx1
     subst hx1
     simp [execOp, hev, hy]
    have hnx : nx < a.tmps.size := by rw [hs.size]; exact hdn nx hdst.symm
    have fin : ∀ (t : Bool) (y : Value) (w' : World) (L' : Nat -> Loc) (H' : Heap), (∃ xs, y = .tuple xs /\ xs.getD 0 undef = .bool t /\ 0 < xs.size) -> Keep L1 w w' -> LStep L1 L' w.heap.size -> HR fm w' L' (hf H') ->
      Q .nor ⟨(mo, .v (.bool t)) :: (nx, .u) :: st.env, H', st.base⟩ -> wpList P ⟨o1 :: o2 :: []⟩ (PostA fm n w0 L0 Q) [o2] (a.put o1.dst y) w' := by
     rintro t y w' L' H' ⟨xs, rfl, hx0, hxs⟩ hkp hls hhr hq
     have hER : ER fm w' L' (a.put o1.dst (.tuple xs)) ((nx, .tup (.v (.bool t) :: List.replicate (xs.size - 1) .u)) :: st.env) := by
      have := er_put' (d := o1.dst) (x := .tuple xs) (v := .tup (.v (.bool t) :: List.replicate (xs.size - 1) .u)) (fun t => (he1 t).mono hkp hls) (fun k hk => by rw [hs.size]; exact hdn k hk)
       (.tup xs _ (by simp; omega) (fun j c hj => by
        cases j with
        | zero => simp at hj; subst hj; rw [hx0]; exact .v _
        | succ j =>
          rw [YAr, YAl] at hj
          split at hj
          ·injection hj with hj; subst hj; exact .u _
          ·cases hj))
      have hd1 : o1.dst = some nx := hdst.symm
      rw [hd1] at this ⊢
      exact this
     have hs' : SR fm n w0 L0 ⟨(nx, .tup (.v (.bool t) :: List.replicate (xs.size - 1) .u)) :: st.env, H', st.base⟩ (a.put o1.dst (.tuple xs)) w' :=
      hs.step (YbX _ _ _) (YbW _ _ _) ⟨hk1, hs1⟩ hkp hls hhr hER
     refine Ydq hC (n0 := fun _ => True) (K := fun s' => s' = ⟨(mo, .v (.bool t)) :: (nx, .tup (.v (.bool t) :: List.replicate (xs.size - 1) .u)) :: st.env, H', st.base⟩) (fun s' a' w'' hs'' hsr => ?_) [o2] [_] _ _ _ g2 ?_ hs'
     ·subst hs''
      obtain ⟨L2, m1, m2, m3, m4⟩ := hsr.rel
      refine ⟨_, hq, hsr.defers, hsr.size, hsr.base, L2, m1, m2, m3, fun u => ?_⟩
      have := m4 u
      simp only [YwJ] at this ⊢
      cases hmu : (mo == u) with
      | true => rw [hmu] at this; exact this
      | false =>
        rw [hmu] at this
        simp only [cond_false] at this ⊢
        cases hnu : (nx == u) with
        | true => exact .u _
        | false => rw [hnu] at this; exact this
     ·show evAI C _ ⟨some mo, .ext (.t nx) 0, none, false, false⟩ _ _
      simp only [YoV, Yci]
      show ∃ l, opd _ (.t nx) = AV.tup l /\ ∃ b, l[0]? = some b /\ _
      exact ⟨.v (.bool t) :: List.replicate (xs.size - 1) .u, by simp [opd, YwJ], _, rfl, rfl⟩
    rcases run_next_at (P := P) w o1.type g g' since since seen es since hgi hgm hold (Nat.le_refl _) with ⟨hz, hrun⟩ | ⟨e, he, w1, hw1, hrun⟩
    ·
     unfold wpList
     rw [show Region.wanted o1 _ = true by simp [Region.wanted, hg0], if_pos rfl]
     refine .inl (Ycr (hexec _ _ hrun) (fin false _ w L1 st.heap ⟨_, rfl, rfl, by simp⟩ (Keep.refl _ _) (LStep.refl _ _) hr1 (hdone (fun b hb => ?_))))
     rw [<- hBe] at hb
     obtain ⟨e, he, rfl⟩ := Yz5.1 hb
     rw [hmemB]
     apply Classical.byContradiction
     intro hc
     have : e ∈ (leftOf es seen).toList := by
      unfold leftOf
      simp only [Array.toList_filter, YAo]
      exact ⟨he, by simpa using hc⟩
     have hz' : (leftOf es seen).toList = [] := by simpa using hz
     rw [hz'] at this; cases this
    ·have he' : e ∈ es.toList /\ seen.contains e.born = false := by
      unfold leftOf at he
      simp only [Array.toList_filter, YAo] at he
      exact ⟨he.1, by simpa using he.2⟩
     have hbB : ((e.born : Nat) : Int) ∈ B := by rw [<- hBe]; exact Yz5.2 ⟨e, he'.1, rfl⟩
     have hbn : ((e.born : Nat) : Int) ∉ sn := fun hc => by
      have := (hmemB e.born).1 hc; rw [he'.2] at this; cases this
     have hq := hstep _ hbB hbn
     obtain ⟨S0, tag0, hoe, hSS, _⟩ := Yju hio
     have hobj := hr1.obj i oi hoi
     rw [hL, h3] at hobj
     obtain ⟨_, a0, s', t', S', tag', g2', since', seen', stepped', q1, q2, q3, q4, q5, q6, q7⟩ := hobj
     injection q2 with q2 _
     injection q2 with e1 q2; injection q2 with e2 q2; injection q2 with e3 q2; injection q2 with e4 q2; injection q2 with e5 q2
     subst e1; subst e2; subst e3; subst e4; subst e5
     obtain ⟨m1, m2⟩ := Ycn hr1 hoi hL (ob := .mapIter (some g') since (seen.push e.born) since) (fun c t f e => by cases e) (w' := ChangeMaps.setBlock w1 g (.mapIter (some g') since (seen.push e.born) since))
      (by rcases hw1 with rfl | rfl <;> rfl) (by rcases hw1 with rfl | rfl <;> rfl) (by rcases hw1 with rfl | rfl <;> rfl) (by rcases hw1 with rfl | rfl <;> rfl)
      (o' := ⟨5, [[.np m, .v (.int .i64 s), .v (.int .i64 s), .rd 1 (bl ++ [[.v (.int .i64 ((e.born : Nat) : Int))]]), tg]]⟩) (fun e => by cases e)
      (fun hkp hg' => ⟨rfl, _, _, _, _, _, g', since, seen.push e.born, since, hg', rfl, hvm.mono hkp (LStep.refl _ _), by rw [es1]; exact .v _, by rw [es1]; exact .v _, q6.mono hkp (LStep.refl _ _), .inr ⟨1, _, rfl, by simp [hseen.1], fun j ej hj => by
       by_cases hjl : j < bl.length
       ·rw [YzS hjl] at hj
        obtain ⟨n', b', r1, r2, r3⟩ := hseen.2 j ej hj
        exact ⟨n', b', by rw [Array.getElem?_push, if_neg (by rw [hseen.1]; omega)]; exact r1, r2, r3.mono hkp (LStep.refl _ _)⟩
       ·have hje : j = bl.length := by
         have := (YzN.1 hj).1
         simp at this; omega
        subst hje
        rw [YzU (Nat.le_refl _)] at hj
        simp at hj; subst hj
        exact ⟨e.born, _, by rw [Array.getElem?_push, if_pos hseen.1.symm], rfl, .v _⟩⟩⟩)
     unfold wpList
     rw [show Region.wanted o1 _ = true by simp [Region.wanted, hg0], if_pos rfl]
     refine .inl (Ycr (hexec _ _ hrun) (fin true _ _ L1 _ ⟨_, rfl, rfl, by simp⟩ m1 (LStep.refl _ _) ?_ hq))
     have := Ydp (H := st.heap) (a := i) (o := some ⟨5, [[.np m, .v (.int .i64 s), .v (.int .i64 s), .rd 1 (bl ++ [[.v (.int .i64 ((e.born : Nat) : Int))]]), tg]]⟩) (by show st.heap[i]? ≠ none; rw [h2]; simp) 0
     rw [<- this]
     exact m2
 | seq x y => simp only [tr] at ht; split at ht <;> cases ht
 | cond c x y => simp only [tr] at ht; split at ht <;> cases ht
 | block id b => simp [tr] at ht
 | loop b => simp [tr] at ht
 | _ => cases ht
end
end Go.Abs
