/- The search of chapter 39: check. No condition. -/
import Derived.Test.YtgegamaadohibaaHj
namespace Go.Abs
open Go
set_option linter.unusedSimpArgs false
set_option maxHeartbeats 16000000
set_option maxRecDepth 8000

/-- Is a leaf right in this state? -/
def leafP (w : List Int) (e : List (List Int)) (mk : List Int) (b : Int) (s : List (Int × Int)) : Bool :=
  if (s.length : Int) = 0 then decide (b ≤ 0) || deadM mk e else sharesI w e mk s b
/-- The nodes behind the part that proves a bound. -/
def chk (w : List Int) (e : List (List Int)) : Nat → List Int → Int → List Nd → Option (List Nd) × Bool
  | 0, _, _, _ => (none, false)
  | _ + 1, _, _, [] => (none, false)
  | f + 1, mk, b, n :: r =>
    if n.1 = -1 then (some r, leafP w e mk b n.2)
    else if n.1 < 0 ∨ (mk.length : Int) ≤ n.1 ∨ (0 : Int) < n.2.length ∨ mk.getD n.1.toNat 0 ≠ 0 then (none, false)
    else match chk w e f (mk.set n.1.toNat 1) (IntKind.i64.wrap (b - w.getD n.1.toNat 0)) r with
      | (some r1, true) => chk w e f (mk.set n.1.toNat 2) b r1
      | q => q
theorem chk_drop (w : List Int) (e : List (List Int)) : ∀ (f : Nat) (mk : List Int) (b : Int) (nd l : List Nd) (ok : Bool), chk w e f mk b nd = (some l, ok) → ∃ k, 1 ≤ k ∧ k ≤ nd.length ∧ l = nd.drop k
  | 0, _, _, _, _, _, h => by cases h
  | _ + 1, _, _, [], _, _, h => by cases h
  | f + 1, mk, b, n :: r, l, ok, h => by
    simp only [chk] at h
    split at h
    · injection h with h _; injection h with h; subst h; exact ⟨1, by simp⟩
    · split at h
      · injection h with h _; cases h
      · split at h
        · rename_i r1 h1
          obtain ⟨k1, a1, a2, a3⟩ := chk_drop w e f _ _ _ _ _ h1
          obtain ⟨k2, b1, b2, b3⟩ := chk_drop w e f _ _ _ _ _ h
          subst a3
          simp only [List.length_drop] at b2
          refine ⟨k1 + k2 + 1, by omega, by simp only [List.length_cons]; omega, ?_⟩
          rw [b3, List.drop_drop, List.drop_succ_cons]
        · rename_i q hq
          obtain ⟨k1, a1, a2, a3⟩ := chk_drop w e f _ _ _ _ _ h
          exact ⟨k1 + 1, by omega, by simp only [List.length_cons]; omega, by rw [a3]; rfl⟩
theorem chk_true (w : List Int) (e : List (List Int)) : ∀ (f : Nat) (mk : List Int) (b : Int) (nd : List Nd), (chk w e f mk b nd).2 = true → ∃ l, chk w e f mk b nd = (some l, true)
  | 0, _, _, _, h => by cases h
  | _ + 1, _, _, [], h => by cases h
  | f + 1, mk, b, n :: r, h => by
    simp only [chk] at h ⊢
    split at h
    · rename_i h1; rw [if_pos h1]; exact ⟨r, by simp only at h; rw [h]⟩
    · rename_i h1
      rw [if_neg h1]
      split at h
      · cases h
      · rename_i h2
        rw [if_neg h2]
        split at h
        · exact chk_true w e f _ _ _ h
        · rename_i q hq
          obtain ⟨l, hl⟩ := chk_true w e f _ _ _ h
          exact absurd hl (fun h' => hq l h')

def encR : Option (List Nd) → PV
  | none => .emp
  | some nd => .rd 2 (nd.map fun n => [pI n.1, .rd 2 (n.2.map encSI)])

theorem call432 (w : List Int) (e : List (List Int)) (hw : w.length ≤ 1048576) (he : e.length ≤ 1048576) (hm : ∀ l ∈ e, l.length ≤ 1048576) (left : Int) (a m : Nat) : ∀ (f : Nat) (X : XHeap) (mk : List Int) (bound : Int) (nd : List Nd), nd.length ≤ f →
    closedX X = true → X[a]? = some (some (.mx 4 [[.p (.rd 1 (w.map encI)), .p (.rd 1 (e.map fun l => [PV.rd 1 (l.map encI)])), .ref m 0 mk.length, vI left]])) → X[m]? = some (some (.pu 1 (mk.map encI))) → w.length = mk.length → (∀ l ∈ e, ∀ v ∈ l, 0 ≤ v ∧ v.toNat < mk.length) →
    nd.length ≤ 1048576 → (∀ n ∈ nd, n.2.length ≤ 1048576) → call XT 432 [.ptr a 0 0, .p (.rd 2 (nd.map fun n => [pI n.1, .rd 2 (n.2.map encSI)])), vI bound] X = some (.p (.tup [encR (chk w e f mk bound nd).1, pB (chk w e f mk bound nd).2]), X) := by
  intro f
  induction f with
  | zero =>
    intro X mk bound nd h1 hX h3 h4 h5 hv h6 h7
    have h0 : nd = [] := List.length_eq_zero_iff.1 (by omega)
    subst h0
    refine call_impure (F := f432) T432 rfl rfl ?_
    unfold f432 x432
    have hn := norm_rules hX
    simp only [↓sxP, sxQ, xai, xgo, xop, xG, AOp.touched, oldX, nwX, newX, xo, xput, refX, xbin, xint, loadP, loadX, ofC, xcells, xagg, Nat.blt, Value.oneCell', refsO, okGc, renO, rI, coX, Option.isSome, outS, outT, resX, tupX, lend1, lend0, scalX, xsb, pvX, zeroX, spliceG, xapp, xappP, xrd, eqP1, xstr, zpv, Nat.beq, Nat.ble, ↓reduceIte, Nat.reduceAdd, Nat.reduceLeDiff, Nat.reduceBEq, Nat.reduceEqDiff, Nat.reduceLT, Nat.reduceSub, Nat.reduceMul, Int.reduceLT, Int.reduceLE, Int.reduceAdd, Int.reduceSub, Int.reduceNeg, Int.reduceToNat, Int.reduceEq, reduceCtorEq, normC, selK, gcH, List.all_append, ble_self, hn, Int.natCast_zero, chk, encR]
  | succ f ih =>
    intro X mk bound nd h1 hX h3 h4 h5 hv h6 h7
    refine call_impure (F := f432) T432 rfl rfl ?_
    unfold f432 x432
    cases nd with
    | nil =>
      have hn := norm_rules hX
      simp only [↓sxP, sxQ, xai, xgo, xop, xG, AOp.touched, oldX, nwX, newX, xo, xput, refX, xbin, xint, loadP, loadX, ofC, xcells, xagg, Nat.blt, Value.oneCell', refsO, okGc, renO, rI, coX, Option.isSome, outS, outT, resX, tupX, lend1, lend0, scalX, xsb, pvX, zeroX, spliceG, xapp, xappP, xrd, eqP1, xstr, zpv, Nat.beq, Nat.ble, ↓reduceIte, Nat.reduceAdd, Nat.reduceLeDiff, Nat.reduceBEq, Nat.reduceEqDiff, Nat.reduceLT, Nat.reduceSub, Nat.reduceMul, Int.reduceLT, Int.reduceLE, Int.reduceAdd, Int.reduceSub, Int.reduceNeg, Int.reduceToNat, Int.reduceEq, reduceCtorEq, normC, selK, gcH, List.all_append, ble_self, hn, Int.natCast_zero, chk, encR]
    | cons n r =>
      obtain ⟨v, s⟩ := n
      simp only [List.length_cons] at h1 h6
      have hs : s.length ≤ 1048576 := h7 (v, s) (List.mem_cons_self ..)
      have hz : ¬ (((r.length + 1 : Nat) : Int) = 0) := by omega
      have hz1 : (0 : Int) < ((r.length + 1 : Nat) : Int) := by omega
      have hz2 : 1 ≤ r.length + 1 := by omega
      have hg := gc_rules hX
      have ho := old_rules (live_get h3)
      have ho2 : Nat.ble (a + 1) X.length = true := ho.2.1
      have h3' := fun N => get_appL h3 N
      have h4' := fun N => get_appL h4 N
      have hXN : closedX (X ++ [some (.mx 2 [[vI v, .p (.rd 2 (s.map encSI))]])]) = true := closed_app hX fun o ho => by
        simp only [List.mem_cons, List.not_mem_nil, or_false] at ho
        subst ho; rfl
      by_cases c1 : v = -1
      · by_cases c2 : (s.length : Int) = 0
        · subst c1
          by_cases c3 : bound ≤ 0
          · simp only [↓sxP, sxQ, xai, xgo, xop, xG, AOp.touched, oldX, nwX, newX, xo, xput, refX, xbin, xint, loadP, loadX, ofC, xcells, xagg, Nat.blt, Value.oneCell', refsO, okGc, renO, rI, coX, Option.isSome, outS, outT, resX, tupX, lend1, lend0, scalX, xsb, pvX, zeroX, spliceG, xapp, xappP, xrd, eqP1, xstr, zpv, Nat.beq, Nat.ble, ↓reduceIte, Nat.reduceAdd, Nat.reduceLeDiff, Nat.reduceBEq, Nat.reduceEqDiff, Nat.reduceLT, Nat.reduceSub, Nat.reduceMul, Int.reduceLT, Int.reduceLE, Int.reduceAdd, Int.reduceSub, Int.reduceNeg, Int.reduceToNat, Int.reduceEq, reduceCtorEq, norm_cons, norm_nil, normB, pOwn, pSel, reach, addN, getO, live, ble_self, ble_add, blt_self, blt_add, beq_self, beq_add, beq_addr, beq_addl, get_appk, get_appz, set_appk, set_appz, len_app, List.append_assoc, List.cons_append, ble_s1, ble_s2, maxEl, splice, hz, hz1, hz2, hg, ho, ho2, h3', h4', c2, c3, take_lenM, chk, encR, leafP]
          · have hc := call444 hXN (get_appL h3 _) (get_appL h4 _) he hm hv
            simp only [↓sxP, sxQ, xai, xgo, xop, xG, AOp.touched, oldX, nwX, newX, xo, xput, refX, xbin, xint, loadP, loadX, ofC, xcells, xagg, Nat.blt, Value.oneCell', refsO, okGc, renO, rI, coX, Option.isSome, outS, outT, resX, tupX, lend1, lend0, scalX, xsb, pvX, zeroX, spliceG, xapp, xappP, xrd, eqP1, xstr, zpv, Nat.beq, Nat.ble, ↓reduceIte, Nat.reduceAdd, Nat.reduceLeDiff, Nat.reduceBEq, Nat.reduceEqDiff, Nat.reduceLT, Nat.reduceSub, Nat.reduceMul, Int.reduceLT, Int.reduceLE, Int.reduceAdd, Int.reduceSub, Int.reduceNeg, Int.reduceToNat, Int.reduceEq, reduceCtorEq, norm_cons, norm_nil, normB, pOwn, pSel, reach, addN, getO, live, ble_self, ble_add, blt_self, blt_add, beq_self, beq_add, beq_addr, beq_addl, get_appk, get_appz, set_appk, set_appz, len_app, List.append_assoc, List.cons_append, ble_s1, ble_s2, maxEl, splice, hz, hz1, hz2, hg, ho, ho2, h3', h4', c2, c3, P444, hc, take_lenM, chk, encR, leafP]
        · subst c1
          have hc := call446 hXN (get_appL h3 _) (get_appL h4 _) h5 hw bound s hs hm hv
          simp only [↓sxP, sxQ, xai, xgo, xop, xG, AOp.touched, oldX, nwX, newX, xo, xput, refX, xbin, xint, loadP, loadX, ofC, xcells, xagg, Nat.blt, Value.oneCell', refsO, okGc, renO, rI, coX, Option.isSome, outS, outT, resX, tupX, lend1, lend0, scalX, xsb, pvX, zeroX, spliceG, xapp, xappP, xrd, eqP1, xstr, zpv, Nat.beq, Nat.ble, ↓reduceIte, Nat.reduceAdd, Nat.reduceLeDiff, Nat.reduceBEq, Nat.reduceEqDiff, Nat.reduceLT, Nat.reduceSub, Nat.reduceMul, Int.reduceLT, Int.reduceLE, Int.reduceAdd, Int.reduceSub, Int.reduceNeg, Int.reduceToNat, Int.reduceEq, reduceCtorEq, norm_cons, norm_nil, normB, pOwn, pSel, reach, addN, getO, live, ble_self, ble_add, blt_self, blt_add, beq_self, beq_add, beq_addr, beq_addl, get_appk, get_appz, set_appk, set_appz, len_app, List.append_assoc, List.cons_append, ble_s1, ble_s2, maxEl, splice, hz, hz1, hz2, hg, ho, ho2, h3', h4', c2, P446, hc, take_lenM, chk, encR, leafP]
      · by_cases c2 : v < 0
        · simp only [↓sxP, sxQ, xai, xgo, xop, xG, AOp.touched, oldX, nwX, newX, xo, xput, refX, xbin, xint, loadP, loadX, ofC, xcells, xagg, Nat.blt, Value.oneCell', refsO, okGc, renO, rI, coX, Option.isSome, outS, outT, resX, tupX, lend1, lend0, scalX, xsb, pvX, zeroX, spliceG, xapp, xappP, xrd, eqP1, xstr, zpv, Nat.beq, Nat.ble, ↓reduceIte, Nat.reduceAdd, Nat.reduceLeDiff, Nat.reduceBEq, Nat.reduceEqDiff, Nat.reduceLT, Nat.reduceSub, Nat.reduceMul, Int.reduceLT, Int.reduceLE, Int.reduceAdd, Int.reduceSub, Int.reduceNeg, Int.reduceToNat, Int.reduceEq, reduceCtorEq, norm_cons, norm_nil, normB, pOwn, pSel, reach, addN, getO, live, ble_self, ble_add, blt_self, blt_add, beq_self, beq_add, beq_addr, beq_addl, get_appk, get_appz, set_appk, set_appz, len_app, List.append_assoc, List.cons_append, ble_s1, ble_s2, maxEl, splice, hz, hz1, hz2, hg, ho, ho2, h3', h4', c1, c2, take_lenM, chk, encR]
        · by_cases c3 : (mk.length : Int) ≤ v
          · simp only [↓sxP, sxQ, xai, xgo, xop, xG, AOp.touched, oldX, nwX, newX, xo, xput, refX, xbin, xint, loadP, loadX, ofC, xcells, xagg, Nat.blt, Value.oneCell', refsO, okGc, renO, rI, coX, Option.isSome, outS, outT, resX, tupX, lend1, lend0, scalX, xsb, pvX, zeroX, spliceG, xapp, xappP, xrd, eqP1, xstr, zpv, Nat.beq, Nat.ble, ↓reduceIte, Nat.reduceAdd, Nat.reduceLeDiff, Nat.reduceBEq, Nat.reduceEqDiff, Nat.reduceLT, Nat.reduceSub, Nat.reduceMul, Int.reduceLT, Int.reduceLE, Int.reduceAdd, Int.reduceSub, Int.reduceNeg, Int.reduceToNat, Int.reduceEq, reduceCtorEq, norm_cons, norm_nil, normB, pOwn, pSel, reach, addN, getO, live, ble_self, ble_add, blt_self, blt_add, beq_self, beq_add, beq_addr, beq_addl, get_appk, get_appz, set_appk, set_appz, len_app, List.append_assoc, List.cons_append, ble_s1, ble_s2, maxEl, splice, hz, hz1, hz2, hg, ho, ho2, h3', h4', c1, c2, c3, take_lenM, chk, encR]
          · by_cases c4 : (0 : Int) < s.length
            · simp only [↓sxP, sxQ, xai, xgo, xop, xG, AOp.touched, oldX, nwX, newX, xo, xput, refX, xbin, xint, loadP, loadX, ofC, xcells, xagg, Nat.blt, Value.oneCell', refsO, okGc, renO, rI, coX, Option.isSome, outS, outT, resX, tupX, lend1, lend0, scalX, xsb, pvX, zeroX, spliceG, xapp, xappP, xrd, eqP1, xstr, zpv, Nat.beq, Nat.ble, ↓reduceIte, Nat.reduceAdd, Nat.reduceLeDiff, Nat.reduceBEq, Nat.reduceEqDiff, Nat.reduceLT, Nat.reduceSub, Nat.reduceMul, Int.reduceLT, Int.reduceLE, Int.reduceAdd, Int.reduceSub, Int.reduceNeg, Int.reduceToNat, Int.reduceEq, reduceCtorEq, norm_cons, norm_nil, normB, pOwn, pSel, reach, addN, getO, live, ble_self, ble_add, blt_self, blt_add, beq_self, beq_add, beq_addr, beq_addl, get_appk, get_appz, set_appk, set_appz, len_app, List.append_assoc, List.cons_append, ble_s1, ble_s2, maxEl, splice, hz, hz1, hz2, hg, ho, ho2, h3', h4', c1, c2, c3, c4, take_lenM, chk, encR]
            · have q1 : 0 ≤ v := by omega
              have q2 : v < (mk.length : Int) := by omega
              have q3 : mk[v.toNat]? = some (mk.getD v.toNat 0) := getD_some (by omega)
              have q4 : w[v.toNat]? = some (w.getD v.toNat 0) := getD_some (by omega)
              by_cases c5 : mk.getD v.toNat 0 = 0
              · have hml := live_lt (live_get h4)
                have hne : m ≠ a := fun h => by subst h; rw [h3] at h4; injection h4 with h4; injection h4 with h4; cases h4
                have g0 : ∀ o N, (X ++ N).set m o = X.set m o ++ N := fun o N => List.set_append_left _ _ hml
                have g1 : ∀ (o : Option XObj) N, (X.set m o ++ N)[a]? = some (some (.mx 4 [[.p (.rd 1 (w.map encI)), .p (.rd 1 (e.map fun l => [PV.rd 1 (l.map encI)])), .ref m 0 mk.length, vI left]])) := fun o N => by
                  rw [List.getElem?_append_left (by rw [List.length_set]; exact live_lt (live_get h3)), List.getElem?_set_ne hne]; exact h3
                have g2 : ∀ (o : Option XObj) N, (X.set m o ++ N)[m]? = some o := fun o N => by
                  rw [List.getElem?_append_left (by rw [List.length_set]; exact hml), List.getElem?_set_self hml]
                have g3 : ∀ (o : Option XObj) N, (X.set m o ++ N)[X.length]? = N[0]? := fun o N => by
                  have := get_appz (X.set m o) N
                  rwa [List.length_set] at this
                have g4 : ∀ (o o' : Option XObj) N, (X.set m o ++ N).set m o' = X.set m o' ++ N := fun o o' N => by
                  rw [List.set_append_left _ _ (by rw [List.length_set]; exact hml), List.set_set]
                have g5 : X.set m (some (.pu 1 (mk.map encI))) = X := by
                  have := (List.getElem?_eq_some_iff.1 h4).2
                  rw [← this, List.set_getElem_self]
                have hmk0 : mk.set v.toNat 0 = mk := by
                  obtain ⟨hlt, he⟩ := List.getElem?_eq_some_iff.1 q3
                  rw [c5] at he
                  have : mk.set v.toNat (mk[v.toNat]'hlt) = mk := List.set_getElem_self _
                  rwa [he] at this
                have g6 : ∀ x : Int, (mk.set v.toNat x)[v.toNat]? = some x := fun x => List.getElem?_set_self (by omega)
                have hXq : ∀ q : List Int, closedX (X.set m (some (.pu 1 (q.map encI))) ++ [some (.mx 2 [[vI v, .p (.rd 2 (s.map encSI))]])]) = true := fun q => closed_app (closed_pu hX 1 _) fun o ho => by
                  simp only [List.mem_cons, List.not_mem_nil, or_false] at ho
                  subst ho; rfl
                have hchk : chk w e (f + 1) mk bound ((v, s) :: r) = (match chk w e f (mk.set v.toNat 1) (IntKind.i64.wrap (bound - w.getD v.toNat 0)) r with
                    | (some r1, true) => chk w e f (mk.set v.toNat 2) bound r1
                    | q => q) := by
                  have hc' : ¬ (v < 0 ∨ (mk.length : Int) ≤ v ∨ (0 : Int) < s.length ∨ mk.getD v.toNat 0 ≠ 0) := by
                    rintro (k | k | k | k)
                    · exact c2 k
                    · exact c3 k
                    · exact c4 k
                    · exact k c5
                  simp only [chk]
                  rw [if_neg c1, if_neg hc']
                have i1 := ih (X.set m (some (.pu 1 ((mk.set v.toNat 1).map encI))) ++ [some (.mx 2 [[vI v, .p (.rd 2 (s.map encSI))]])]) (mk.set v.toNat 1) (IntKind.i64.wrap (bound - w.getD v.toNat 0)) r (by omega) (hXq _) (by rw [List.length_set]; exact g1 _ _) (g2 _ _) (by rw [List.length_set]; exact h5) (by rw [List.length_set]; exact hv) (by omega) (fun n hn => h7 n (List.mem_cons_of_mem _ hn))
                cases hq : chk w e f (mk.set v.toNat 1) (IntKind.i64.wrap (bound - w.getD v.toNat 0)) r with
                | mk o1 ok1 =>
                  cases ok1 with
                  | false =>
                    rw [hq] at hchk i1
                    simp only at hchk i1
                    simp only [↓sxP, sxQ, xai, xgo, xop, xG, AOp.touched, oldX, nwX, newX, xo, xput, refX, xbin, xint, loadP, loadX, ofC, xcells, xagg, Nat.blt, Value.oneCell', refsO, okGc, renO, rI, coX, Option.isSome, outS, outT, resX, tupX, lend1, lend0, scalX, xsb, pvX, zeroX, spliceG, xapp, xappP, xrd, eqP1, xstr, zpv, Nat.beq, Nat.ble, ↓reduceIte, Nat.reduceAdd, Nat.reduceLeDiff, Nat.reduceBEq, Nat.reduceEqDiff, Nat.reduceLT, Nat.reduceSub, Nat.reduceMul, Int.reduceLT, Int.reduceLE, Int.reduceAdd, Int.reduceSub, Int.reduceNeg, Int.reduceToNat, Int.reduceEq, reduceCtorEq, norm_cons, norm_nil, normB, pOwn, pSel, reach, addN, getO, live, ble_self, ble_add, blt_self, blt_add, beq_self, beq_add, beq_addr, beq_addl, get_appk, get_appz, set_appk, set_appz, len_app, List.append_assoc, List.cons_append, ble_s1, ble_s2, maxEl, splice, hz, hz1, hz2, hg, ho, ho2, h3', h4', q1, q2, q3, q4, c1, c2, c3, c4, c5, g0, g1, g2, g3, g4, g5, g6, hmk0, map_setI, List.set_set, List.length_set, P432, i1, encI, take_lenM, hchk]
                  | true =>
                    obtain ⟨l, hl⟩ := chk_true w e f _ _ _ (by rw [hq])
                    rw [hq] at hl
                    injection hl with hl _
                    subst hl
                    obtain ⟨k, k1, k2, k3⟩ := chk_drop w e f _ _ _ _ _ hq
                    have hll : l.length ≤ r.length := by rw [k3, List.length_drop]; omega
                    have i2 := ih (X.set m (some (.pu 1 ((mk.set v.toNat 2).map encI))) ++ [some (.mx 2 [[vI v, .p (.rd 2 (s.map encSI))]])]) (mk.set v.toNat 2) bound l (by omega) (hXq _) (by rw [List.length_set]; exact g1 _ _) (g2 _ _) (by rw [List.length_set]; exact h5) (by rw [List.length_set]; exact hv) (by omega) (fun n hn => h7 n (List.mem_cons_of_mem _ (List.mem_of_mem_drop (k3 ▸ hn))))
                    rw [hq] at hchk i1
                    simp only [encR] at hchk i1
                    simp only [↓sxP, sxQ, xai, xgo, xop, xG, AOp.touched, oldX, nwX, newX, xo, xput, refX, xbin, xint, loadP, loadX, ofC, xcells, xagg, Nat.blt, Value.oneCell', refsO, okGc, renO, rI, coX, Option.isSome, outS, outT, resX, tupX, lend1, lend0, scalX, xsb, pvX, zeroX, spliceG, xapp, xappP, xrd, eqP1, xstr, zpv, Nat.beq, Nat.ble, ↓reduceIte, Nat.reduceAdd, Nat.reduceLeDiff, Nat.reduceBEq, Nat.reduceEqDiff, Nat.reduceLT, Nat.reduceSub, Nat.reduceMul, Int.reduceLT, Int.reduceLE, Int.reduceAdd, Int.reduceSub, Int.reduceNeg, Int.reduceToNat, Int.reduceEq, reduceCtorEq, norm_cons, norm_nil, normB, pOwn, pSel, reach, addN, getO, live, ble_self, ble_add, blt_self, blt_add, beq_self, beq_add, beq_addr, beq_addl, get_appk, get_appz, set_appk, set_appz, len_app, List.append_assoc, List.cons_append, ble_s1, ble_s2, maxEl, splice, hz, hz1, hz2, hg, ho, ho2, h3', h4', q1, q2, q3, q4, c1, c2, c3, c4, c5, g0, g1, g2, g3, g4, g5, g6, hmk0, map_setI, List.set_set, List.length_set, P432, i1, i2, encI, take_lenM, hchk]
              · simp only [↓sxP, sxQ, xai, xgo, xop, xG, AOp.touched, oldX, nwX, newX, xo, xput, refX, xbin, xint, loadP, loadX, ofC, xcells, xagg, Nat.blt, Value.oneCell', refsO, okGc, renO, rI, coX, Option.isSome, outS, outT, resX, tupX, lend1, lend0, scalX, xsb, pvX, zeroX, spliceG, xapp, xappP, xrd, eqP1, xstr, zpv, Nat.beq, Nat.ble, ↓reduceIte, Nat.reduceAdd, Nat.reduceLeDiff, Nat.reduceBEq, Nat.reduceEqDiff, Nat.reduceLT, Nat.reduceSub, Nat.reduceMul, Int.reduceLT, Int.reduceLE, Int.reduceAdd, Int.reduceSub, Int.reduceNeg, Int.reduceToNat, Int.reduceEq, reduceCtorEq, norm_cons, norm_nil, normB, pOwn, pSel, reach, addN, getO, live, ble_self, ble_add, blt_self, blt_add, beq_self, beq_add, beq_addr, beq_addl, get_appk, get_appz, set_appk, set_appz, len_app, List.append_assoc, List.cons_append, ble_s1, ble_s2, maxEl, splice, hz, hz1, hz2, hg, ho, ho2, h3', h4', q1, q2, q3, c1, c2, c3, c4, c5, encI, take_lenM, chk, encR, ne_eq, not_false_iff]
end Go.Abs

namespace Go.Abs
open Go
set_option linter.unusedSimpArgs false
set_option maxHeartbeats 8000000
set_option maxRecDepth 8000

def inR (b : Int) : Bool := decide (-1000000000000000 ≤ b) && decide (b ≤ 1000000000000000)
theorem call418 (b : Int) (X : XHeap) : call XT 418 [vI b] X = some (vB (inR b), X) := by
  refine call_pure (F := f418) (args := [pI b]) T418 rfl rfl ?_
  unfold f418 x418
  by_cases c1 : -1000000000000000 ≤ b
  · simp only [↓sxP, sxQ, xai, xgo, xop, xG, AOp.touched, oldX, nwX, newX, xo, xput, refX, xbin, xint, loadP, loadX, ofC, xcells, xagg, Nat.blt, Value.oneCell', refsO, okGc, renO, rI, coX, Option.isSome, outS, outT, resX, tupX, lend1, lend0, scalX, xsb, pvX, zeroX, spliceG, xapp, xappP, xrd, eqP1, xstr, zpv, Nat.beq, Nat.ble, ↓reduceIte, Nat.reduceAdd, Nat.reduceLeDiff, Nat.reduceBEq, Nat.reduceEqDiff, Nat.reduceLT, Nat.reduceSub, Nat.reduceMul, Int.reduceLT, Int.reduceLE, Int.reduceAdd, Int.reduceSub, Int.reduceNeg, Int.reduceToNat, Int.reduceEq, reduceCtorEq, norm_cons, norm_nil, normB, pOwn, pSel, gcS, reach, addN, getO, live, gcH, c1, inR]
  · simp only [↓sxP, sxQ, xai, xgo, xop, xG, AOp.touched, oldX, nwX, newX, xo, xput, refX, xbin, xint, loadP, loadX, ofC, xcells, xagg, Nat.blt, Value.oneCell', refsO, okGc, renO, rI, coX, Option.isSome, outS, outT, resX, tupX, lend1, lend0, scalX, xsb, pvX, zeroX, spliceG, xapp, xappP, xrd, eqP1, xstr, zpv, Nat.beq, Nat.ble, ↓reduceIte, Nat.reduceAdd, Nat.reduceLeDiff, Nat.reduceBEq, Nat.reduceEqDiff, Nat.reduceLT, Nat.reduceSub, Nat.reduceMul, Int.reduceLT, Int.reduceLE, Int.reduceAdd, Int.reduceSub, Int.reduceNeg, Int.reduceToNat, Int.reduceEq, reduceCtorEq, norm_cons, norm_nil, normB, pOwn, pSel, gcS, reach, addN, getO, live, gcH, c1, inR]

/-- What the program's 'Check' answers. -/
def checkP (w : List Int) (e : List (List Int)) (b : Int) (nd : List Nd) : Bool :=
  if validI w e = 0 ∧ inR b = true then (chk w e nd.length (List.replicate w.length 0) b nd).2 && decide ((((chk w e nd.length (List.replicate w.length 0) b nd).1.getD []).length : Int) = 0) else false
/-- What the reference's 'Check' answers. -/
def checkR (w : List Int) (e : List (List Int)) (b : Int) (nd : List Nd) : Bool :=
  if validI w e = 0 ∧ inR b = true ∧ (0 : Int) < nd.length then decide (optI (partI w e nd.length [] [] b nd) = (nd.length : Int)) else false

theorem call412 (w : List Int) (e : List (List Int)) (hw : w.length ≤ 1048576) (he : e.length ≤ 1048576) (hm : ∀ l ∈ e, l.length ≤ 1048576) (b : Int) (nd : List Nd) (h1 : nd.length ≤ 1048576) (h2 : ∀ n ∈ nd, n.2.length ≤ 1048576) (X : XHeap) :
    call XT 412 [.p (PV.agg [.rd 1 (w.map encI), .rd 1 (e.map fun l => [PV.rd 1 (l.map encI)])]), vI b, .p (.rd 2 (nd.map fun n => [pI n.1, .rd 2 (n.2.map encSI)]))] X = some (vB (checkR w e b nd), X) := by
  refine call_pure (F := f412) (args := [PV.agg [.rd 1 (w.map encI), .rd 1 (e.map fun l => [PV.rd 1 (l.map encI)])], pI b, .rd 2 (nd.map fun n => [pI n.1, .rd 2 (n.2.map encSI)])]) T412 rfl rfl ?_
  unfold f412 x412
  have hc := call402 w e hm hw he
  have k1 := fun X => call418 b X
  have k2 := fun X => call433 w e hw he hm nd.length [] [] b nd (Nat.le_refl _) (by simpa using h1) (by simpa using h1) h2 X
  simp only [List.map_nil] at k2
  by_cases c1 : validI w e = 0
  · by_cases c2 : inR b = true
    · by_cases c3 : (0 : Int) < nd.length
      · have hr : checkR w e b nd = decide (optI (partI w e nd.length [] [] b nd) = (nd.length : Int)) := by unfold checkR; rw [if_pos ⟨c1, c2, c3⟩]
        simp only [↓sxP, sxQ, xai, xgo, xop, xG, AOp.touched, oldX, nwX, newX, xo, xput, refX, xbin, xint, loadP, loadX, ofC, xcells, xagg, Nat.blt, Value.oneCell', refsO, okGc, renO, rI, coX, Option.isSome, outS, outT, resX, tupX, lend1, lend0, scalX, xsb, pvX, zeroX, spliceG, xapp, xappP, xrd, eqP1, xstr, zpv, Nat.beq, Nat.ble, ↓reduceIte, Nat.reduceAdd, Nat.reduceLeDiff, Nat.reduceBEq, Nat.reduceEqDiff, Nat.reduceLT, Nat.reduceSub, Nat.reduceMul, Int.reduceLT, Int.reduceLE, Int.reduceAdd, Int.reduceSub, Int.reduceNeg, Int.reduceToNat, Int.reduceEq, reduceCtorEq, norm_cons, norm_nil, normB, pOwn, pSel, gcS, reach, addN, getO, live, gcH, maxEl, P402, hc, c1, P418, k1, c2, c3, P433, k2, hr]
      · have hr : checkR w e b nd = false := by unfold checkR; rw [if_neg (fun h => c3 h.2.2)]
        simp only [↓sxP, sxQ, xai, xgo, xop, xG, AOp.touched, oldX, nwX, newX, xo, xput, refX, xbin, xint, loadP, loadX, ofC, xcells, xagg, Nat.blt, Value.oneCell', refsO, okGc, renO, rI, coX, Option.isSome, outS, outT, resX, tupX, lend1, lend0, scalX, xsb, pvX, zeroX, spliceG, xapp, xappP, xrd, eqP1, xstr, zpv, Nat.beq, Nat.ble, ↓reduceIte, Nat.reduceAdd, Nat.reduceLeDiff, Nat.reduceBEq, Nat.reduceEqDiff, Nat.reduceLT, Nat.reduceSub, Nat.reduceMul, Int.reduceLT, Int.reduceLE, Int.reduceAdd, Int.reduceSub, Int.reduceNeg, Int.reduceToNat, Int.reduceEq, reduceCtorEq, norm_cons, norm_nil, normB, pOwn, pSel, gcS, reach, addN, getO, live, gcH, maxEl, P402, hc, c1, P418, k1, c2, c3, hr]
    · have hr : checkR w e b nd = false := by unfold checkR; rw [if_neg (fun h => c2 h.2.1)]
      have c2' : inR b = false := by simpa using c2
      simp only [↓sxP, sxQ, xai, xgo, xop, xG, AOp.touched, oldX, nwX, newX, xo, xput, refX, xbin, xint, loadP, loadX, ofC, xcells, xagg, Nat.blt, Value.oneCell', refsO, okGc, renO, rI, coX, Option.isSome, outS, outT, resX, tupX, lend1, lend0, scalX, xsb, pvX, zeroX, spliceG, xapp, xappP, xrd, eqP1, xstr, zpv, Nat.beq, Nat.ble, ↓reduceIte, Nat.reduceAdd, Nat.reduceLeDiff, Nat.reduceBEq, Nat.reduceEqDiff, Nat.reduceLT, Nat.reduceSub, Nat.reduceMul, Int.reduceLT, Int.reduceLE, Int.reduceAdd, Int.reduceSub, Int.reduceNeg, Int.reduceToNat, Int.reduceEq, reduceCtorEq, norm_cons, norm_nil, normB, pOwn, pSel, gcS, reach, addN, getO, live, gcH, maxEl, P402, hc, c1, P418, k1, c2', hr]
  · have hr : checkR w e b nd = false := by unfold checkR; rw [if_neg (fun h => c1 h.1)]
    simp only [↓sxP, sxQ, xai, xgo, xop, xG, AOp.touched, oldX, nwX, newX, xo, xput, refX, xbin, xint, loadP, loadX, ofC, xcells, xagg, Nat.blt, Value.oneCell', refsO, okGc, renO, rI, coX, Option.isSome, outS, outT, resX, tupX, lend1, lend0, scalX, xsb, pvX, zeroX, spliceG, xapp, xappP, xrd, eqP1, xstr, zpv, Nat.beq, Nat.ble, ↓reduceIte, Nat.reduceAdd, Nat.reduceLeDiff, Nat.reduceBEq, Nat.reduceEqDiff, Nat.reduceLT, Nat.reduceSub, Nat.reduceMul, Int.reduceLT, Int.reduceLE, Int.reduceAdd, Int.reduceSub, Int.reduceNeg, Int.reduceToNat, Int.reduceEq, reduceCtorEq, norm_cons, norm_nil, normB, pOwn, pSel, gcS, reach, addN, getO, live, gcH, maxEl, P402, hc, c1, hr]

theorem call411 (w : List Int) (e : List (List Int)) (hw : w.length ≤ 1048576) (he : e.length ≤ 1048576) (hm : ∀ l ∈ e, l.length ≤ 1048576) (b : Int) (nd : List Nd) (h1 : nd.length ≤ 1048576) (h2 : ∀ n ∈ nd, n.2.length ≤ 1048576) (X : XHeap) :
    call XT 411 [.p (PV.agg [.rd 1 (w.map encI), .rd 1 (e.map fun l => [PV.rd 1 (l.map encI)])]), vI b, .p (.rd 2 (nd.map fun n => [pI n.1, .rd 2 (n.2.map encSI)]))] X = some (vB (checkP w e b nd), X) := by
  refine call_pure (F := f411) (args := [PV.agg [.rd 1 (w.map encI), .rd 1 (e.map fun l => [PV.rd 1 (l.map encI)])], pI b, .rd 2 (nd.map fun n => [pI n.1, .rd 2 (n.2.map encSI)])]) T411 rfl rfl ?_
  unfold f411 x411
  have hc := call401 w e hm hw he
  by_cases c1 : validI w e = 0
  · by_cases c2 : b < -1000000000000000
    · have hr : checkP w e b nd = false := by
        unfold checkP
        rw [if_neg (fun h => ?_)]
        have := h.2
        simp only [inR, Bool.and_eq_true, decide_eq_true_eq] at this
        omega
      simp only [↓sxP, sxQ, xai, xgo, xop, xG, AOp.touched, oldX, nwX, newX, xo, xput, refX, xbin, xint, loadP, loadX, ofC, xcells, xagg, Nat.blt, Value.oneCell', refsO, okGc, renO, rI, coX, Option.isSome, outS, outT, resX, tupX, lend1, lend0, scalX, xsb, pvX, zeroX, spliceG, xapp, xappP, xrd, eqP1, xstr, zpv, Nat.beq, Nat.ble, ↓reduceIte, Nat.reduceAdd, Nat.reduceLeDiff, Nat.reduceBEq, Nat.reduceEqDiff, Nat.reduceLT, Nat.reduceSub, Nat.reduceMul, Int.reduceLT, Int.reduceLE, Int.reduceAdd, Int.reduceSub, Int.reduceNeg, Int.reduceToNat, Int.reduceEq, reduceCtorEq, norm_cons, norm_nil, normB, pOwn, pSel, gcS, reach, addN, getO, live, gcH, maxEl, P401, hc, c1, c2, hr]
    · by_cases c3 : 1000000000000000 < b
      · have hr : checkP w e b nd = false := by
          unfold checkP
          rw [if_neg (fun h => ?_)]
          have := h.2
          simp only [inR, Bool.and_eq_true, decide_eq_true_eq] at this
          omega
        simp only [↓sxP, sxQ, xai, xgo, xop, xG, AOp.touched, oldX, nwX, newX, xo, xput, refX, xbin, xint, loadP, loadX, ofC, xcells, xagg, Nat.blt, Value.oneCell', refsO, okGc, renO, rI, coX, Option.isSome, outS, outT, resX, tupX, lend1, lend0, scalX, xsb, pvX, zeroX, spliceG, xapp, xappP, xrd, eqP1, xstr, zpv, Nat.beq, Nat.ble, ↓reduceIte, Nat.reduceAdd, Nat.reduceLeDiff, Nat.reduceBEq, Nat.reduceEqDiff, Nat.reduceLT, Nat.reduceSub, Nat.reduceMul, Int.reduceLT, Int.reduceLE, Int.reduceAdd, Int.reduceSub, Int.reduceNeg, Int.reduceToNat, Int.reduceEq, reduceCtorEq, norm_cons, norm_nil, normB, pOwn, pSel, gcS, reach, addN, getO, live, gcH, maxEl, P401, hc, c1, c2, c3, hr]
      · have hr : checkP w e b nd = ((chk w e nd.length (List.replicate w.length 0) b nd).2 && decide ((((chk w e nd.length (List.replicate w.length 0) b nd).1.getD []).length : Int) = 0)) := by
          unfold checkP
          rw [if_pos ⟨c1, by simp only [inR, Bool.and_eq_true, decide_eq_true_eq]; omega⟩]
        have k1 := call429 (X := [some (.mx 2 [[.p (.rd 1 (w.map encI)), .p (.rd 1 (e.map fun l => [PV.rd 1 (l.map encI)]))]])]) rfl w e 0 hw
        have k2 := call432 w e hw he hm 0 1 2 nd.length [some (.mx 2 [[.p (.rd 1 (w.map encI)), .p (.rd 1 (e.map fun l => [PV.rd 1 (l.map encI)]))]]), some (.mx 4 [[.p (.rd 1 (w.map encI)), .p (.rd 1 (e.map fun l => [PV.rd 1 (l.map encI)])), .ref 2 0 w.length, vI 0]]), some (.pu 1 ((List.replicate w.length (0 : Int)).map encI))] (List.replicate w.length 0) b nd (Nat.le_refl _) rfl (by simp) rfl (by simp)
          (fun l hl v hv => by
            have := (okE_mem ((valid_w c1).2.2 l hl)).1 v hv
            simpa using this) h1 h2
        simp only [List.length_cons, List.length_nil, Nat.zero_add, List.cons_append, List.nil_append, Nat.reduceAdd] at k1 k2
        cases hq : chk w e nd.length (List.replicate w.length 0) b nd with
        | mk o ok =>
          rw [hq] at k2 hr
          cases ok with
          | false =>
            simp only [Bool.false_and] at hr
            simp only [↓sxP, sxQ, xai, xgo, xop, xG, AOp.touched, oldX, nwX, newX, xo, xput, refX, xbin, xint, loadP, loadX, ofC, xcells, xagg, Nat.blt, Value.oneCell', refsO, okGc, renO, rI, coX, Option.isSome, outS, outT, resX, tupX, lend1, lend0, scalX, xsb, pvX, zeroX, spliceG, xapp, xappP, xrd, eqP1, xstr, zpv, Nat.beq, Nat.ble, ↓reduceIte, Nat.reduceAdd, Nat.reduceLeDiff, Nat.reduceBEq, Nat.reduceEqDiff, Nat.reduceLT, Nat.reduceSub, Nat.reduceMul, Int.reduceLT, Int.reduceLE, Int.reduceAdd, Int.reduceSub, Int.reduceNeg, Int.reduceToNat, Int.reduceEq, reduceCtorEq, norm_cons, norm_nil, normB, pOwn, pSel, gcS, reach, addN, getO, live, gcH, maxEl, P401, hc, c1, c2, c3, P429, k1, P432, k2, hr]
          | true =>
            cases o with
            | none =>
              simp only [encR, Option.getD_none, List.length_nil] at hr k2
              simp only [↓sxP, sxQ, xai, xgo, xop, xG, AOp.touched, oldX, nwX, newX, xo, xput, refX, xbin, xint, loadP, loadX, ofC, xcells, xagg, Nat.blt, Value.oneCell', refsO, okGc, renO, rI, coX, Option.isSome, outS, outT, resX, tupX, lend1, lend0, scalX, xsb, pvX, zeroX, spliceG, xapp, xappP, xrd, eqP1, xstr, zpv, Nat.beq, Nat.ble, ↓reduceIte, Nat.reduceAdd, Nat.reduceLeDiff, Nat.reduceBEq, Nat.reduceEqDiff, Nat.reduceLT, Nat.reduceSub, Nat.reduceMul, Int.reduceLT, Int.reduceLE, Int.reduceAdd, Int.reduceSub, Int.reduceNeg, Int.reduceToNat, Int.reduceEq, reduceCtorEq, norm_cons, norm_nil, normB, pOwn, pSel, gcS, reach, addN, getO, live, gcH, maxEl, P401, hc, c1, c2, c3, P429, k1, P432, k2, hr, Int.natCast_zero]
            | some l =>
              simp only [encR, Option.getD_some] at hr k2
              simp only [↓sxP, sxQ, xai, xgo, xop, xG, AOp.touched, oldX, nwX, newX, xo, xput, refX, xbin, xint, loadP, loadX, ofC, xcells, xagg, Nat.blt, Value.oneCell', refsO, okGc, renO, rI, coX, Option.isSome, outS, outT, resX, tupX, lend1, lend0, scalX, xsb, pvX, zeroX, spliceG, xapp, xappP, xrd, eqP1, xstr, zpv, Nat.beq, Nat.ble, ↓reduceIte, Nat.reduceAdd, Nat.reduceLeDiff, Nat.reduceBEq, Nat.reduceEqDiff, Nat.reduceLT, Nat.reduceSub, Nat.reduceMul, Int.reduceLT, Int.reduceLE, Int.reduceAdd, Int.reduceSub, Int.reduceNeg, Int.reduceToNat, Int.reduceEq, reduceCtorEq, norm_cons, norm_nil, normB, pOwn, pSel, gcS, reach, addN, getO, live, gcH, maxEl, P401, hc, c1, c2, c3, P429, k1, P432, k2, hr]
  · have hr : checkP w e b nd = false := by unfold checkP; rw [if_neg (fun h => c1 h.1)]
    simp only [↓sxP, sxQ, xai, xgo, xop, xG, AOp.touched, oldX, nwX, newX, xo, xput, refX, xbin, xint, loadP, loadX, ofC, xcells, xagg, Nat.blt, Value.oneCell', refsO, okGc, renO, rI, coX, Option.isSome, outS, outT, resX, tupX, lend1, lend0, scalX, xsb, pvX, zeroX, spliceG, xapp, xappP, xrd, eqP1, xstr, zpv, Nat.beq, Nat.ble, ↓reduceIte, Nat.reduceAdd, Nat.reduceLeDiff, Nat.reduceBEq, Nat.reduceEqDiff, Nat.reduceLT, Nat.reduceSub, Nat.reduceMul, Int.reduceLT, Int.reduceLE, Int.reduceAdd, Int.reduceSub, Int.reduceNeg, Int.reduceToNat, Int.reduceEq, reduceCtorEq, norm_cons, norm_nil, normB, pOwn, pSel, gcS, reach, addN, getO, live, gcH, maxEl, P401, hc, c1, hr]
end Go.Abs

namespace Go.Abs
open Go

/-- What is chosen and excluded, as marks. -/
structure RelM (n : Nat) (mk c x : List Int) : Prop where
  len : mk.length = n
  cho : ∀ v : Int, v ∈ c ↔ 0 ≤ v ∧ v.toNat < n ∧ mk.getD v.toNat 0 = 1
  exc : ∀ v : Int, v ∈ x ↔ 0 ≤ v ∧ v.toNat < n ∧ mk.getD v.toNat 0 = 2
  val : ∀ v : Nat, mk.getD v 0 = 0 ∨ mk.getD v 0 = 1 ∨ mk.getD v 0 = 2

theorem getD_set (l : List Int) (i j : Nat) (x : Int) : (l.set i x).getD j 0 = if i = j ∧ i < l.length then x else l.getD j 0 := by
  rw [List.getD_eq_getElem?_getD, List.getElem?_set, List.getD_eq_getElem?_getD]
  by_cases h : i = j
  · subst h
    by_cases h2 : i < l.length
    · simp [h2]
    · have : l[i]? = none := List.getElem?_eq_none (by omega)
      simp [h2]
  · simp [h]

theorem addL_spec (w mk : List Int) (am : Int) (ha : 1 ≤ am) (ha2 : am ≤ 1000000000000) (n : Nat) (C : Int) (hC : C ≤ 9000000000000000000) : ∀ (l : List Int) (last : Int) (ld : List Int), asc n last l = true → -1 ≤ last → ld.length = n → (∀ v ∈ l, 0 ≤ ld.getD v.toNat 0 ∧ ld.getD v.toNat 0 ≤ C) →
    (∃ ld', addL w mk am l ld = some ld' ∧ (∀ v ∈ l, mk.getD v.toNat 0 = 0 → ld.getD v.toNat 0 + am ≤ w.getD v.toNat 0) ∧ ∀ v : Nat, ld'.getD v 0 = ld.getD v 0 + if (v : Int) ∈ l then am else 0) ∨
    (addL w mk am l ld = none ∧ ∃ v ∈ l, mk.getD v.toNat 0 = 0 ∧ w.getD v.toNat 0 < ld.getD v.toNat 0 + am) := by
  intro l
  induction l with
  | nil => intro last ld _ _ _ _; exact .inl ⟨ld, rfl, fun v hv => by simp at hv, fun v => by simp⟩
  | cons v r ih =>
    intro last ld hasc hlast hlen hld
    simp only [asc, Bool.and_eq_true, decide_eq_true_eq] at hasc
    obtain ⟨⟨h1, h2⟩, h3⟩ := hasc
    have hlv := hld v (List.mem_cons_self ..)
    have hw : IntKind.i64.wrap (ld.getD v.toNat 0 + am) = ld.getD v.toNat 0 + am := wrap64 _ (by omega) (by omega)
    simp only [addL, hw]
    by_cases hc : mk.getD v.toNat 0 = 0 ∧ w.getD v.toNat 0 < ld.getD v.toNat 0 + am
    · rw [if_pos hc]
      exact .inr ⟨rfl, v, List.mem_cons_self .., hc⟩
    · rw [if_neg hc]
      have hnr : ∀ u ∈ r, v < u := fun u hu => (asc_mem n r v h3 u hu).1
      have hg : ∀ u : Nat, (ld.set v.toNat (ld.getD v.toNat 0 + am)).getD u 0 = if v.toNat = u then ld.getD u 0 + am else ld.getD u 0 := fun u => by
        rw [getD_set]
        by_cases hu : v.toNat = u
        · subst hu; rw [if_pos ⟨rfl, by omega⟩, if_pos rfl]
        · rw [if_neg (fun h => hu h.1), if_neg hu]
      have hgr : ∀ u ∈ r, (ld.set v.toNat (ld.getD v.toNat 0 + am)).getD u.toNat 0 = ld.getD u.toNat 0 := fun u hu => by
        rw [hg, if_neg]
        have := hnr u hu
        omega
      rcases ih v (ld.set v.toNat (ld.getD v.toNat 0 + am)) h3 (by omega) (by simpa using hlen) (fun u hu => by rw [hgr u hu]; exact hld u (List.mem_cons_of_mem _ hu)) with ⟨ld', k1, k2, k3⟩ | ⟨k1, u, k2, k3, k4⟩
      · refine .inl ⟨ld', k1, fun u hu hu0 => ?_, fun u => ?_⟩
        · rcases List.mem_cons.1 hu with rfl | hu
          · have : ¬ w.getD u.toNat 0 < ld.getD u.toNat 0 + am := fun h => hc ⟨hu0, h⟩
            omega
          · have := k2 u hu hu0
            rwa [hgr u hu] at this
        · rw [k3, hg]
          by_cases hu : v.toNat = u
          · subst hu
            have hnm : ¬ ((v.toNat : Nat) : Int) ∈ r := fun h => by have := hnr _ h; omega
            have hve : ((v.toNat : Nat) : Int) = v := by omega
            rw [if_neg hnm, if_pos rfl, if_pos (by rw [hve]; exact List.mem_cons_self ..)]; omega
          · have hne : ¬ (u : Int) = v := by omega
            rw [if_neg hu]
            simp only [List.mem_cons, hne, false_or]
      · refine .inr ⟨k1, u, List.mem_cons_of_mem _ k2, k3, ?_⟩
        rwa [hgr u k2] at k4

/-- How much shares take of a vertex. -/
def loadS (e : List (List Int)) (v : Int) : List (Int × Int) → Int
  | [] => 0
  | y :: r => (if v ∈ e.getD y.1.toNat [] then y.2 else 0) + loadS e v r
/-- Shares within their bounds. -/
def okS (e : List (List Int)) (c : List Int) (y : Int × Int) : Prop := 0 ≤ y.1 ∧ y.1.toNat < e.length ∧ 1 ≤ y.2 ∧ y.2 ≤ 1000000000000 ∧ meet (e.getD y.1.toNat []) c = false

theorem rightA_ok (e : List (List Int)) (c : List Int) : ∀ (sh : List (Int × Int)) (s t : Int), rightA e c sh s = some t → ∀ y ∈ sh, okS e c y
  | [], _, _, _, y, hy => by cases hy
  | z :: r, s, t, h, y, hy => by
    simp only [rightA] at h
    split at h
    · cases h
    · rename_i h1
      rcases List.mem_cons.1 hy with rfl | hy
      · have hm : meet (e.getD y.1.toNat []) c = false := by
          cases hmm : meet (e.getD y.1.toNat []) c with
          | false => rfl
          | true => exact absurd (.inr (.inr (.inr (.inr hmm)))) h1
        exact ⟨by omega, by omega, by omega, by omega, hm⟩
      · exact rightA_ok e c r _ t h y hy

theorem loadS_pos (e : List (List Int)) (c : List Int) (v : Int) : ∀ sh : List (Int × Int), (∀ y ∈ sh, okS e c y) → 0 ≤ loadS e v sh ∧ loadS e v sh ≤ sh.length * 1000000000000
  | [], _ => by simp [loadS]
  | y :: r, h => by
    have ih := loadS_pos e c v r (fun z hz => h z (List.mem_cons_of_mem _ hz))
    obtain ⟨_, _, h1, h2, _⟩ := h y (List.mem_cons_self ..)
    simp only [loadS, List.length_cons]
    split <;> omega

theorem loadW_S (e : List (List Int)) (c : List Int) (v : Int) : ∀ (sh : List (Int × Int)) (acc : Int), (∀ y ∈ sh, okS e c y) → 0 ≤ acc → acc + sh.length * 1000000000000 ≤ 9000000000000000000 → loadW e v sh acc = acc + loadS e v sh
  | [], acc, _, _, _ => by simp [loadW, loadS]
  | y :: r, acc, h, h0, hb => by
    obtain ⟨_, _, h1, h2, _⟩ := h y (List.mem_cons_self ..)
    simp only [List.length_cons] at hb
    have hw : IntKind.i64.wrap (acc + y.2) = acc + y.2 := wrap64 _ (by omega) (by omega)
    simp only [loadW, loadS, hw]
    split
    · rw [loadW_S e c v r _ (fun z hz => h z (List.mem_cons_of_mem _ hz)) (by omega) (by omega)]; omega
    · rw [loadW_S e c v r _ (fun z hz => h z (List.mem_cons_of_mem _ hz)) (by omega) (by omega)]; omega

theorem meet_has {n : Nat} {mk c x l : List Int} (hr : RelM n mk c x) (hl : ∀ v ∈ l, 0 ≤ v ∧ v.toNat < n) : hasM mk l 1 = meet l c := by
  unfold hasM meet
  rw [Bool.eq_iff_iff, List.any_eq_true, List.any_eq_true]
  constructor
  · rintro ⟨v, hv, h⟩
    exact ⟨v, hv, by simp only [decide_eq_true_eq] at h ⊢; exact (hr.cho v).2 ⟨(hl v hv).1, (hl v hv).2, h⟩⟩
  · rintro ⟨v, hv, h⟩
    exact ⟨v, hv, by simp only [decide_eq_true_eq] at h ⊢; exact ((hr.cho v).1 h).2.2⟩

theorem shG_none {w : List Int} {e : List (List Int)} {mk c x : List Int} (hr : RelM w.length mk c x) (hv : ∀ l ∈ e, okE w.length l = true) : ∀ (sh : List (Int × Int)) (ld : List Int) (s : Int), rightA e c sh s = none → shG w e mk sh ld s = none
  | [], _, _, h => by simp [rightA] at h
  | y :: r, ld, s, h => by
    simp only [rightA] at h
    simp only [shG]
    by_cases hc : y.1 < 0 ∨ (e.length : Int) ≤ y.1 ∨ y.2 < 1 ∨ 1000000000000 < y.2
    · rw [if_pos (by rcases hc with h | h | h | h <;> simp [h])]
    · have hi : y.1.toNat < e.length := by omega
      have hm := meet_has hr (okE_mem (hv _ (List.mem_of_getElem? (get_edge hi)))).1
      rw [hm]
      split at h
      · rename_i h1
        rw [if_pos h1]
      · rename_i h1
        rw [if_neg h1]
        split
        · exact shG_none hr hv r _ _ h
        · rfl

theorem shG_some {w : List Int} {e : List (List Int)} {mk c x : List Int} (hr : RelM w.length mk c x) (hv : ∀ l ∈ e, okE w.length l = true) : ∀ (sh : List (Int × Int)) (ld : List Int) (s t C : Int), rightA e c sh s = some t → ld.length = w.length →
    (∀ v : Nat, 0 ≤ ld.getD v 0 ∧ ld.getD v 0 ≤ C) → C + sh.length * 1000000000000 ≤ 9000000000000000000 → (∀ v : Nat, v < w.length → mk.getD v 0 = 0 → ld.getD v 0 ≤ w.getD v 0) →
    ((∀ v : Nat, v < w.length → mk.getD v 0 = 0 → ld.getD v 0 + loadS e v sh ≤ w.getD v 0) → shG w e mk sh ld s = some t) ∧
    (¬ (∀ v : Nat, v < w.length → mk.getD v 0 = 0 → ld.getD v 0 + loadS e v sh ≤ w.getD v 0) → shG w e mk sh ld s = none)
  | [], ld, s, t, C, h, _, _, _, hle => by
    simp only [rightA] at h
    refine ⟨fun _ => h, fun hn => absurd (fun v hv0 hv1 => ?_) hn⟩
    have := hle v hv0 hv1
    simp only [loadS]; omega
  | y :: r, ld, s, t, C, h, hlen, hld, hC, hle => by
    have hok := rightA_ok e c (y :: r) s t h
    obtain ⟨h1, h2, h3, h4, h5⟩ := hok y (List.mem_cons_self ..)
    have hoe := hv _ (List.mem_of_getElem? (get_edge h2))
    have hm := meet_has hr (okE_mem hoe).1
    have hasc : asc w.length (-1) (e.getD y.1.toNat []) = true := by simp only [okE, Bool.and_eq_true] at hoe; exact hoe.1
    simp only [List.length_cons] at hC
    have hnc : ¬ (y.1 < 0 ∨ (e.length : Int) ≤ y.1 ∨ y.2 < 1 ∨ 1000000000000 < y.2 ∨ meet (e.getD y.1.toNat []) c = true) := by
      rw [h5]
      rintro (k | k | k | k | k)
      · omega
      · omega
      · omega
      · omega
      · cases k
    simp only [rightA] at h
    rw [if_neg hnc] at h
    have hlp := fun v => loadS_pos e c v r (fun z hz => hok z (List.mem_cons_of_mem _ hz))
    simp only [shG]
    rw [hm, if_neg hnc]
    rcases addL_spec w mk y.2 h3 h4 w.length C (by omega) (e.getD y.1.toNat []) (-1) ld hasc (by omega) hlen (fun v _ => hld v.toNat) with ⟨ld', k1, k2, k3⟩ | ⟨k1, u, k2, k3, k4⟩
    · rw [k1]
      have hb : ∀ v : Nat, 0 ≤ ld'.getD v 0 ∧ ld'.getD v 0 ≤ C + 1000000000000 := fun v => by
        have := hld v
        rw [k3]
        split <;> omega
      have ih := shG_some hr hv r ld' (IntKind.i64.wrap (s + y.2)) t (C + 1000000000000) h (by rw [addL_len _ _ _ _ _ _ k1]; exact hlen) hb (by omega) (fun v hv0 hv1 => by
        rw [k3]
        by_cases hvm : (v : Int) ∈ e.getD y.1.toNat []
        · rw [if_pos hvm]; have := k2 v hvm (by simpa using hv1); simpa using this
        · rw [if_neg hvm]; have := hle v hv0 hv1; omega)
      have heq : ∀ v : Nat, ld'.getD v 0 + loadS e v r = ld.getD v 0 + loadS e v (y :: r) := fun v => by rw [k3]; simp only [loadS]; omega
      simp only [heq] at ih
      exact ih
    · rw [k1]
      have huv := (okE_mem hoe).1 u k2
      have hn : ¬ (∀ v : Nat, v < w.length → mk.getD v 0 = 0 → ld.getD v 0 + loadS e v (y :: r) ≤ w.getD v 0) := fun hall => by
        have := hall u.toNat huv.2 k3
        have hl := (hlp (u.toNat : Int)).1
        have hue : ((u.toNat : Nat) : Int) = u := by omega
        simp only [loadS] at this
        rw [hue, if_pos k2] at this
        rw [hue] at hl
        omega
      exact ⟨fun hall => absurd hall hn, fun _ => rfl⟩

theorem rightV_iff (w : List Int) (e : List (List Int)) (x : List Int) (sh : List (Int × Int)) : ∀ (r : List Int) (v : Nat), rightV w e x sh r v = true ↔ ∀ k u, r[k]? = some u → ¬ (u < loadW e ((v + k : Nat) : Int) sh 0 ∧ ¬ ((v + k : Nat) : Int) ∈ x)
  | [], v => by simp [rightV]
  | u :: r, v => by
    have ih := rightV_iff w e x sh r (v + 1)
    simp only [rightV]
    by_cases hc : u < loadW e v sh 0 ∧ ¬ (v : Int) ∈ x
    · rw [if_pos hc]
      constructor
      · intro h; cases h
      · intro h; exact absurd hc (h 0 u rfl)
    · rw [if_neg hc, ih]
      constructor
      · intro h k y hy
        cases k with
        | zero => simp only [List.getElem?_cons_zero, Option.some.injEq] at hy; subst hy; exact hc
        | succ k =>
          rw [List.getElem?_cons_succ] at hy
          have := h k y hy
          rwa [show v + 1 + k = v + (k + 1) by omega] at this
      · intro h k y hy
        have := h (k + 1) y (by rw [List.getElem?_cons_succ]; exact hy)
        rwa [show v + (k + 1) = v + 1 + k by omega] at this

/-- What shares take of chosen vertices is nothing. -/
theorem loadS_cho (e : List (List Int)) (c : List Int) (v : Int) (hv : v ∈ c) : ∀ sh : List (Int × Int), (∀ y ∈ sh, okS e c y) → loadS e v sh = 0
  | [], _ => rfl
  | y :: r, h => by
    obtain ⟨_, _, _, _, h5⟩ := h y (List.mem_cons_self ..)
    have hn : ¬ v ∈ e.getD y.1.toNat [] := fun hm => by
      have : meet (e.getD y.1.toNat []) c = true := List.any_eq_true.2 ⟨v, hm, by simpa using hv⟩
      rw [this] at h5; cases h5
    simp only [loadS, if_neg hn, loadS_cho e c v hv r (fun z hz => h z (List.mem_cons_of_mem _ hz))]
    rfl

theorem shares_right {w : List Int} {e : List (List Int)} {mk c x : List Int} (hval : validI w e = 0) (hr : RelM w.length mk c x) (sh : List (Int × Int)) (b : Int) : sharesI w e mk sh b = rightI w e c x b sh := by
  obtain ⟨hw1, _, hv⟩ := valid_w hval
  unfold sharesI rightI
  by_cases h1 : 10000 < sh.length
  · rw [if_pos h1, if_pos h1]
  · rw [if_neg h1, if_neg h1]
    cases h2 : rightA e c sh 0 with
    | none => rw [shG_none hr hv sh _ 0 h2]
    | some t =>
      have hok := rightA_ok e c sh 0 t h2
      have hz : ∀ v : Nat, (List.replicate mk.length (0 : Int)).getD v 0 = 0 := fun v => by
        rw [List.getD_eq_getElem?_getD, List.getElem?_replicate]; split <;> rfl
      have hwp : ∀ v : Nat, v < w.length → 1 ≤ w.getD v 0 := fun v h => by
        rw [List.getD_eq_getElem?_getD, List.getElem?_eq_getElem h]; exact (hw1 _ (List.getElem_mem h)).1
      have key := shG_some hr hv sh (List.replicate mk.length 0) 0 t 0 h2 (by simp [hr.len]) (fun v => by rw [hz]; omega) (by omega) (fun v h _ => by rw [hz]; have := hwp v h; omega)
      simp only [hz, Int.zero_add] at key
      have hV : rightV w e x sh w 0 = true ↔ ∀ v : Nat, v < w.length → mk.getD v 0 = 0 → loadS e v sh ≤ w.getD v 0 := by
        rw [rightV_iff]
        constructor
        · intro h v hv0 hv1
          have := h v (w.getD v 0) (by rw [List.getD_eq_getElem?_getD, List.getElem?_eq_getElem hv0]; rfl)
          rw [Nat.zero_add, loadW_S e c v sh 0 hok (by omega) (by omega), Int.zero_add] at this
          have hnx : ¬ (v : Int) ∈ x := fun hx => by
            have := ((hr.exc v).1 hx).2.2
            simp only [Int.toNat_natCast] at this
            omega
          have h3 : ¬ w.getD v 0 < loadS e v sh := fun h => this ⟨h, hnx⟩
          omega
        · intro h k u hu hc
          rw [Nat.zero_add, loadW_S e c k sh 0 hok (by omega) (by omega), Int.zero_add] at hc
          have hk : k < w.length := (List.getElem?_eq_some_iff.1 hu).1
          have hu2 : w.getD k 0 = u := by rw [List.getD_eq_getElem?_getD, hu]; rfl
          rcases hr.val k with h0 | h0 | h0
          · have := h k hk h0
            omega
          · have hm : (k : Int) ∈ c := (hr.cho k).2 ⟨by omega, by simpa using hk, by simpa using h0⟩
            rw [loadS_cho e c k hm sh hok] at hc
            have := hwp k hk
            omega
          · exact hc.2 ((hr.exc k).2 ⟨by omega, by simpa using hk, by simpa using h0⟩)
      by_cases h3 : rightV w e x sh w 0 = true
      · rw [key.1 (hV.1 h3)]
        simp only [h3, if_true]
      · rw [key.2 (fun h => h3 (hV.2 h))]
        simp only [h3]
        rfl
end Go.Abs

namespace Go.Abs
open Go

theorem dead_closed {n : Nat} {mk c x : List Int} (hr : RelM n mk c x) {e : List (List Int)} (hv : ∀ l ∈ e, okE n l = true) : deadM mk e = closedI e x := by
  unfold deadM closedI
  rw [Bool.eq_iff_iff, List.any_eq_true, List.any_eq_true]
  have key : ∀ l ∈ e, deadE mk l = (l.all fun v => decide (v ∈ x)) := fun l hl => by
    have ho := (okE_mem (hv l hl)).1
    rw [Bool.eq_iff_iff, List.all_eq_true]
    simp only [deadE, hasM, Bool.and_eq_true, Bool.not_eq_true', List.any_eq_false, decide_eq_true_eq]
    constructor
    · rintro ⟨h1, h2⟩ v hv
      have := ho v hv
      refine (hr.exc v).2 ⟨this.1, this.2, ?_⟩
      have a := h1 v hv
      have b := h2 v hv
      rcases hr.val v.toNat with h | h | h
      · exact absurd h b
      · exact absurd h a
      · exact h
    · intro h
      refine ⟨fun v hv => ?_, fun v hv => ?_⟩
      · have := ((hr.exc v).1 (h v hv)).2.2; omega
      · have := ((hr.exc v).1 (h v hv)).2.2; omega
  constructor
  · rintro ⟨l, hl, h⟩; exact ⟨l, hl, by rw [← key l hl]; exact h⟩
  · rintro ⟨l, hl, h⟩; exact ⟨l, hl, by rw [key l hl]; exact h⟩

theorem leaf_eq {w : List Int} {e : List (List Int)} {mk c x : List Int} (hval : validI w e = 0) (hr : RelM w.length mk c x) (b : Int) (s : List (Int × Int)) : leafP w e mk b s = leafR w e c x b s := by
  unfold leafP leafR
  rw [dead_closed hr (valid_w hval).2.2, shares_right hval hr s b]

theorem rel_cho {n : Nat} {mk c x : List Int} (hr : RelM n mk c x) {v : Int} (h0 : 0 ≤ v) (hn : v.toNat < n) (hz : mk.getD v.toNat 0 = 0) : RelM n (mk.set v.toNat 1) (c ++ [v]) x := by
  have hl := hr.len
  refine ⟨by simpa using hr.len, fun u => ?_, fun u => ?_, fun u => ?_⟩
  · rw [List.mem_append, List.mem_singleton, hr.cho u, getD_set]
    constructor
    · rintro (⟨a, b, d⟩ | rfl)
      · refine ⟨a, b, ?_⟩
        rw [if_neg (fun h => ?_)]
        · exact d
        · rw [← h.1, hz] at d; omega
      · exact ⟨h0, hn, if_pos ⟨rfl, by omega⟩⟩
    · rintro ⟨a, b, d⟩
      by_cases hc : v.toNat = u.toNat ∧ v.toNat < mk.length
      · exact .inr (by omega)
      · rw [if_neg hc] at d; exact .inl ⟨a, b, d⟩
  · rw [hr.exc u, getD_set]
    constructor
    · rintro ⟨a, b, d⟩
      refine ⟨a, b, ?_⟩
      rw [if_neg (fun h => ?_)]
      · exact d
      · rw [← h.1, hz] at d; omega
    · rintro ⟨a, b, d⟩
      by_cases hc : v.toNat = u.toNat ∧ v.toNat < mk.length
      · rw [if_pos hc] at d; omega
      · rw [if_neg hc] at d; exact ⟨a, b, d⟩
  · rw [getD_set]
    split
    · exact .inr (.inl rfl)
    · exact hr.val u
theorem rel_exc {n : Nat} {mk c x : List Int} (hr : RelM n mk c x) {v : Int} (h0 : 0 ≤ v) (hn : v.toNat < n) (hz : mk.getD v.toNat 0 = 0) : RelM n (mk.set v.toNat 2) c (x ++ [v]) := by
  have hl := hr.len
  refine ⟨by simpa using hr.len, fun u => ?_, fun u => ?_, fun u => ?_⟩
  · rw [hr.cho u, getD_set]
    constructor
    · rintro ⟨a, b, d⟩
      refine ⟨a, b, ?_⟩
      rw [if_neg (fun h => ?_)]
      · exact d
      · rw [← h.1, hz] at d; omega
    · rintro ⟨a, b, d⟩
      by_cases hc : v.toNat = u.toNat ∧ v.toNat < mk.length
      · rw [if_pos hc] at d; omega
      · rw [if_neg hc] at d; exact ⟨a, b, d⟩
  · rw [List.mem_append, List.mem_singleton, hr.exc u, getD_set]
    constructor
    · rintro (⟨a, b, d⟩ | rfl)
      · refine ⟨a, b, ?_⟩
        rw [if_neg (fun h => ?_)]
        · exact d
        · rw [← h.1, hz] at d; omega
      · exact ⟨h0, hn, if_pos ⟨rfl, by omega⟩⟩
    · rintro ⟨a, b, d⟩
      by_cases hc : v.toNat = u.toNat ∧ v.toNat < mk.length
      · exact .inr (by omega)
      · rw [if_neg hc] at d; exact .inl ⟨a, b, d⟩
  · rw [getD_set]
    split
    · exact .inr (.inr rfl)
    · exact hr.val u

theorem chk_part {w : List Int} {e : List (List Int)} (hval : validI w e = 0) : ∀ (f : Nat) (mk c x : List Int) (b : Int) (nd : List Nd), RelM w.length mk c x →
    (∀ k, partI w e f c x b nd = some k → chk w e f mk b nd = (some (nd.drop k), true)) ∧ (partI w e f c x b nd = none → (chk w e f mk b nd).2 = false)
  | 0, mk, c, x, b, nd, hr => ⟨fun k h => (by cases h), fun _ => rfl⟩
  | f + 1, mk, c, x, b, [], hr => ⟨fun k h => (by cases h), fun _ => rfl⟩
  | f + 1, mk, c, x, b, n :: r, hr => by
    simp only [partI, chk]
    by_cases c1 : n.1 = -1
    · rw [if_pos c1, if_pos c1, leaf_eq hval hr]
      by_cases c2 : leafR w e c x b n.2 = true
      · rw [if_pos c2, c2]
        exact ⟨fun k h => (by injection h with h; subst h; rfl), fun h => (by cases h)⟩
      · rw [if_neg c2]
        exact ⟨fun k h => (by cases h), fun _ => by simpa using c2⟩
    · rw [if_neg c1, if_neg c1]
      have hiff : (n.1 < 0 ∨ (mk.length : Int) ≤ n.1 ∨ (0 : Int) < n.2.length ∨ mk.getD n.1.toNat 0 ≠ 0) ↔ ((0 : Int) < n.2.length ∨ n.1 < 0 ∨ (w.length : Int) ≤ n.1 ∨ n.1 ∈ c ∨ n.1 ∈ x) := by
        rw [hr.len, hr.cho, hr.exc]
        constructor
        · rintro (h | h | h | h)
          · exact .inr (.inl h)
          · exact .inr (.inr (.inl h))
          · exact .inl h
          · by_cases h1 : n.1 < 0
            · exact .inr (.inl h1)
            · by_cases h2 : (w.length : Int) ≤ n.1
              · exact .inr (.inr (.inl h2))
              · rcases hr.val n.1.toNat with h3 | h3 | h3
                · exact absurd h3 h
                · exact .inr (.inr (.inr (.inl ⟨by omega, by omega, h3⟩)))
                · exact .inr (.inr (.inr (.inr ⟨by omega, by omega, h3⟩)))
        · rintro (h | h | h | h | h)
          · exact .inr (.inr (.inl h))
          · exact .inl h
          · exact .inr (.inl h)
          · exact .inr (.inr (.inr (by omega)))
          · exact .inr (.inr (.inr (by omega)))
      by_cases c2 : (0 : Int) < n.2.length ∨ n.1 < 0 ∨ (w.length : Int) ≤ n.1 ∨ n.1 ∈ c ∨ n.1 ∈ x
      · rw [if_pos c2, if_pos (hiff.2 c2)]
        exact ⟨fun k h => (by cases h), fun _ => rfl⟩
      · rw [if_neg c2, if_neg (fun h => c2 (hiff.1 h))]
        have h0 : 0 ≤ n.1 := by
          have : ¬ n.1 < 0 := fun h => c2 (.inr (.inl h))
          omega
        have hn : n.1.toNat < w.length := by
          have : ¬ (w.length : Int) ≤ n.1 := fun h => c2 (.inr (.inr (.inl h)))
          omega
        have hz : mk.getD n.1.toNat 0 = 0 := by
          apply Classical.byContradiction
          intro h
          exact c2 (hiff.1 (.inr (.inr (.inr h))))
        have i1 := chk_part hval f (mk.set n.1.toNat 1) (c ++ [n.1]) x (IntKind.i64.wrap (b - w.getD n.1.toNat 0)) r (rel_cho hr h0 hn hz)
        cases h1 : partI w e f (c ++ [n.1]) x (IntKind.i64.wrap (b - w.getD n.1.toNat 0)) r with
        | none =>
          have := i1.2 h1
          refine ⟨fun k h => (by cases h), fun _ => ?_⟩
          cases hq : chk w e f (mk.set n.1.toNat 1) (IntKind.i64.wrap (b - w.getD n.1.toNat 0)) r with
          | mk o ok =>
            rw [hq] at this
            simp only at this
            subst this
            cases o <;> rfl
        | some k1 =>
          rw [i1.1 k1 h1]
          simp only
          have i2 := chk_part hval f (mk.set n.1.toNat 2) c (x ++ [n.1]) b (r.drop k1) (rel_exc hr h0 hn hz)
          cases h2 : partI w e f c (x ++ [n.1]) b (r.drop k1) with
          | none => exact ⟨fun k h => (by cases h), fun _ => i2.2 h2⟩
          | some k2 =>
            refine ⟨fun k h => ?_, fun h => by cases h⟩
            injection h with h
            rw [i2.1 k2 h2, List.drop_drop, ← h, show k1 + 1 + k2 = (k1 + k2) + 1 by omega, List.drop_succ_cons]

theorem rel_start (n : Nat) : RelM n (List.replicate n 0) [] [] := by
  have hz : ∀ v : Nat, (List.replicate n (0 : Int)).getD v 0 = 0 := fun v => by
    rw [List.getD_eq_getElem?_getD, List.getElem?_replicate]; split <;> rfl
  refine ⟨by simp, fun v => ?_, fun v => ?_, fun v => .inl (hz v)⟩
  · rw [hz]; simp
  · rw [hz]; simp

theorem check_eq (w : List Int) (e : List (List Int)) (b : Int) (nd : List Nd) : checkP w e b nd = checkR w e b nd := by
  unfold checkP checkR
  by_cases c1 : validI w e = 0 ∧ inR b = true
  · rw [if_pos c1]
    have h := chk_part c1.1 nd.length (List.replicate w.length 0) [] [] b nd (rel_start _)
    by_cases c2 : (0 : Int) < nd.length
    · rw [if_pos ⟨c1.1, c1.2, c2⟩]
      cases hp : partI w e nd.length [] [] b nd with
      | none =>
        rw [h.2 hp, Bool.false_and]
        symm
        refine decide_eq_false ?_
        show ¬ (-1 : Int) = (nd.length : Int)
        omega
      | some k =>
        have hk := partI_le w e _ _ _ _ _ _ hp
        rw [h.1 k hp, Bool.true_and]
        have h1 : (((some (nd.drop k)).getD [] : List Nd).length : Int) = ((nd.length - k : Nat) : Int) := by rw [Option.getD_some, List.length_drop]
        rw [Bool.eq_iff_iff, decide_eq_true_iff, decide_eq_true_iff]
        show (((some (nd.drop k)).getD [] : List Nd).length : Int) = 0 ↔ (k : Int) = (nd.length : Int)
        omega
    · rw [if_neg (fun h => c2 h.2.2)]
      have : nd = [] := List.length_eq_zero_iff.1 (by omega)
      subst this
      rfl
  · rw [if_neg c1, if_neg (fun h => c1 ⟨h.1, h.2.1⟩)]
end Go.Abs

namespace Go.Abs
open Go
set_option linter.unusedSimpArgs false
set_option maxHeartbeats 2000000
set_option maxRecDepth 8000

theorem sumP_upd (q q' : Nat → Bool) (f : Nat → Int) (v : Nat) (h : ∀ i, i ≠ v → q' i = q i) (hv : q' v = false) : ∀ n, sumP q f n = sumP q' f n + if v < n ∧ q v = true then f v else 0
  | 0 => by simp [sumP]
  | n + 1 => by
    have ih := sumP_upd q q' f v h hv n
    simp only [sumP, ih]
    by_cases e : n = v
    · subst e
      rw [hv]
      by_cases hq : q n = true
      · simp [hq]
      · simp [hq]
    · rw [h n e]
      by_cases hq : v < n ∧ q v = true
      · have h1 : (if v < n ∧ q v = true then f v else 0) = f v := if_pos hq
        have h2 : (if v < n + 1 ∧ q v = true then f v else 0) = f v := if_pos ⟨by omega, hq.2⟩
        rw [h1, h2]; omega
      · have h1 : (if v < n ∧ q v = true then f v else 0) = 0 := if_neg hq
        have h2 : (if v < n + 1 ∧ q v = true then f v else 0) = 0 := if_neg (fun k => hq ⟨by omega, k.2⟩)
        rw [h1, h2]; omega

/-- The weight of the vertices of a set that are open. -/
def opn (mk : List Int) (p : Nat → Bool) : Nat → Bool := fun i => p i && decide (mk.getD i 0 = 0)
def oW (w mk : List Int) (p : Nat → Bool) : Int := sumP (opn mk p) (fun i => w.getD i 0) w.length

theorem oW_set {w mk : List Int} {p : Nat → Bool} {v : Nat} {k : Int} (hk : k ≠ 0) (hl : mk.length = w.length) (hv : v < w.length) (hz : mk.getD v 0 = 0) : oW w mk p = oW w (mk.set v k) p + if p v = true then w.getD v 0 else 0 := by
  unfold oW
  rw [sumP_upd (opn mk p) (opn (mk.set v k) p) _ v (fun i hi => by
    unfold opn
    rw [getD_set, if_neg (fun h => hi h.1.symm)]) (by
    unfold opn
    rw [getD_set, if_pos ⟨rfl, by omega⟩]
    simp [hk])]
  congr 1
  have : (v < w.length ∧ opn mk p v = true) ↔ p v = true := by
    unfold opn
    simp [hv, hz, ← List.getD_eq_getElem?_getD]
  by_cases h : p v = true
  · rw [if_pos (this.2 h), if_pos h]
  · rw [if_neg (fun k => h (this.1 k)), if_neg h]

theorem oW_nonneg {w mk : List Int} {e : List (List Int)} (hval : validI w e = 0) (p : Nat → Bool) : 0 ≤ oW w mk p := by
  refine sumP_nonneg _ _ _ fun i hi _ => ?_
  rw [List.getD_eq_getElem?_getD, List.getElem?_eq_getElem hi]
  have := (valid_w hval).1 _ (List.getElem_mem hi)
  simp only [Option.getD_some]; omega

theorem rightA_sum (e : List (List Int)) (c : List Int) : ∀ (sh : List (Int × Int)) (s t : Int), rightA e c sh s = some t → 0 ≤ s → s + sh.length * 1000000000000 ≤ 9000000000000000000 → t = s + (sh.map (·.2)).sum
  | [], s, t, h, _, _ => by simp only [rightA, Option.some.injEq] at h; simp [h]
  | y :: r, s, t, h, h0, hb => by
    have hok := rightA_ok e c _ s t h y (List.mem_cons_self ..)
    obtain ⟨_, _, h1, h2, h5⟩ := hok
    simp only [List.length_cons] at hb
    simp only [rightA] at h
    split at h
    · cases h
    · have hw : IntKind.i64.wrap (s + y.2) = s + y.2 := wrap64 _ (by omega) (by omega)
      rw [hw] at h
      have := rightA_sum e c r _ t h (by omega) (by omega)
      simp only [List.map_cons, List.sum_cons]; omega

theorem load_S (e : List (List Int)) (v : Nat) : ∀ sh : List (Int × Int), load (sh.map fun y => (e.getD y.1.toNat [], y.2)) v = loadS e v sh
  | [] => rfl
  | y :: r => by rw [List.map_cons, load_cons, load_S e v r]; rfl

theorem shares_sound {w : List Int} {e : List (List Int)} {mk c x : List Int} (hval : validI w e = 0) (hr : RelM w.length mk c x) (sh : List (Int × Int)) (b : Int) (h : rightI w e c x b sh = true) (p : Nat → Bool) (hp : hitP e p) (hx : ∀ v ∈ x, p v.toNat = false) : b ≤ oW w mk p := by
  unfold rightI at h
  split at h
  · cases h
  · rename_i h1
    cases h2 : rightA e c sh 0 with
    | none => rw [h2] at h; cases h
    | some t =>
      rw [h2] at h
      simp only at h
      split at h
      · rename_i h3
        have hb := of_decide_eq_true h
        have hok := rightA_ok e c sh 0 t h2
        have ht := rightA_sum e c sh 0 t h2 (by omega) (by omega)
        have hle : ∀ v : Nat, v < w.length → mk.getD v 0 = 0 → loadS e v sh ≤ w.getD v 0 := fun v hv0 hv1 => by
          have := (rightV_iff w e x sh w 0).1 h3 v (w.getD v 0) (by rw [List.getD_eq_getElem?_getD, List.getElem?_eq_getElem hv0]; rfl)
          rw [Nat.zero_add, loadW_S e c v sh 0 hok (by omega) (by omega), Int.zero_add] at this
          have hnx : ¬ (v : Int) ∈ x := fun hx => by
            have := ((hr.exc v).1 hx).2.2
            simp only [Int.toNat_natCast] at this
            omega
          have h4 : ¬ w.getD v 0 < loadS e v sh := fun h => this ⟨h, hnx⟩
          omega
        have hpk := pack_le (opn mk p) w.length (sh.map fun y => (e.getD y.1.toNat [], y.2)) (fun s hs => by
          obtain ⟨y, hy, rfl⟩ := List.mem_map.1 hs
          obtain ⟨a1, a2, a3, a4, a5⟩ := hok y hy
          have hin : e.getD y.1.toNat [] ∈ e := List.mem_of_getElem? (get_edge a2)
          obtain ⟨v, hv, hpv⟩ := hp _ hin
          have hvo := (okE_mem ((valid_w hval).2.2 _ hin)).1 v hv
          refine ⟨by simp only; omega, v, hv, hvo.1, hvo.2, ?_⟩
          have hz : mk.getD v.toNat 0 = 0 := by
            rcases hr.val v.toNat with k | k | k
            · exact k
            · have : meet (e.getD y.1.toNat []) c = true := List.any_eq_true.2 ⟨v, hv, by simpa using (hr.cho v).2 ⟨hvo.1, hvo.2, k⟩⟩
              rw [this] at a5; cases a5
            · have := hx v ((hr.exc v).2 ⟨hvo.1, hvo.2, k⟩)
              rw [hpv] at this; cases this
          unfold opn
          rw [hpv, hz]; rfl)
        have hmap : (sh.map fun y => (e.getD y.1.toNat [], y.2)).map (·.2) = sh.map (·.2) := by simp
        rw [hmap] at hpk
        have hl2 := sumP_le (opn mk p) (load (sh.map fun y => (e.getD y.1.toNat [], y.2))) (fun i => w.getD i 0) w.length (fun i hi hq => by
          rw [load_S]
          refine hle i hi ?_
          unfold opn at hq
          simp only [Bool.and_eq_true, decide_eq_true_eq] at hq
          exact hq.2)
        unfold oW
        omega
      · cases h

theorem chk_sound {w : List Int} {e : List (List Int)} (hval : validI w e = 0) (lo hi : Int) (hlo : -1000000000000000000 ≤ lo) (hhi : hi ≤ 1000000000000000000) : ∀ (f : Nat) (mk c x : List Int) (b : Int) (nd : List Nd), RelM w.length mk c x → lo + 1000000 * nd.length ≤ b → b ≤ hi →
    (chk w e f mk b nd).2 = true → ∀ p : Nat → Bool, hitP e p → (∀ v ∈ x, p v.toNat = false) → b ≤ oW w mk p
  | 0, _, _, _, _, _, _, _, _, h, _, _, _ => by cases h
  | _ + 1, _, _, _, _, [], _, _, _, h, _, _, _ => by cases h
  | f + 1, mk, c, x, b, n :: r, hr, hb, hb2, h, p, hp, hx => by
    simp only [List.length_cons] at hb
    simp only [chk] at h
    by_cases c1 : n.1 = -1
    · rw [if_pos c1] at h
      simp only at h
      rw [leaf_eq hval hr] at h
      unfold leafR at h
      split at h
      · rw [Bool.or_eq_true] at h
        rcases h with h | h
        · have := of_decide_eq_true h
          have := oW_nonneg hval (mk := mk) p
          omega
        · obtain ⟨l, hl, hall⟩ := List.any_eq_true.1 h
          obtain ⟨v, hv, hpv⟩ := hp l hl
          have hvx := of_decide_eq_true (List.all_eq_true.1 hall v hv)
          have := hx v hvx
          rw [hpv] at this; cases this
      · exact shares_sound hval hr n.2 b h p hp hx
    · rw [if_neg c1] at h
      split at h
      · cases h
      · rename_i c2
        have h0 : 0 ≤ n.1 := by
          have : ¬ n.1 < 0 := fun h => c2 (.inl h)
          omega
        have hn : n.1.toNat < w.length := by
          have : ¬ (mk.length : Int) ≤ n.1 := fun h => c2 (.inr (.inl h))
          have := hr.len
          omega
        have hz : mk.getD n.1.toNat 0 = 0 := by
          apply Classical.byContradiction
          intro h
          exact c2 (.inr (.inr (.inr h)))
        have hwv : 1 ≤ w.getD n.1.toNat 0 ∧ w.getD n.1.toNat 0 ≤ 1000000 := by
          rw [List.getD_eq_getElem?_getD, List.getElem?_eq_getElem hn]; exact (valid_w hval).1 _ (List.getElem_mem hn)
        have hw : IntKind.i64.wrap (b - w.getD n.1.toNat 0) = b - w.getD n.1.toNat 0 := wrap64 _ (by omega) (by omega)
        have e1 := oW_set (p := p) (k := 1) (by omega) hr.len hn hz
        have e2 := oW_set (p := p) (k := 2) (by omega) hr.len hn hz
        cases hq : chk w e f (mk.set n.1.toNat 1) (IntKind.i64.wrap (b - w.getD n.1.toNat 0)) r with
        | mk o ok =>
          rw [hq] at h
          cases ok with
          | false => cases o <;> cases h
          | true =>
            cases o with
            | none =>
              obtain ⟨l, hl⟩ := chk_true w e f _ _ _ (by rw [hq])
              rw [hq] at hl; cases hl
            | some r1 =>
              simp only at h
              obtain ⟨k, k1, k2, k3⟩ := chk_drop w e f _ _ _ _ _ hq
              have hlen : r1.length ≤ r.length := by rw [k3, List.length_drop]; omega
              by_cases hpv : p n.1.toNat = true
              · have := chk_sound hval lo hi hlo hhi f (mk.set n.1.toNat 1) (c ++ [n.1]) x (IntKind.i64.wrap (b - w.getD n.1.toNat 0)) r (rel_cho hr h0 hn hz) (by rw [hw]; omega) (by rw [hw]; omega) (by rw [hq]) p hp hx
                rw [hw] at this
                rw [if_pos hpv] at e1
                omega
              · have hpf : p n.1.toNat = false := by simpa using hpv
                have := chk_sound hval lo hi hlo hhi f (mk.set n.1.toNat 2) c (x ++ [n.1]) b r1 (rel_exc hr h0 hn hz) (by omega) hb2 h p hp (fun v hv => by
                  rcases List.mem_append.1 hv with hv | hv
                  · exact hx v hv
                  · rw [List.mem_singleton.1 hv]; exact hpf)
                rw [if_neg hpv] at e2
                omega

theorem check_sound {w : List Int} {e : List (List Int)} {b : Int} {nd : List Nd} (hn : nd.length ≤ 1048576) (h : checkP w e b nd = true) : b ≤ least w e := by
  unfold checkP at h
  split at h
  · rename_i c1
    rw [Bool.and_eq_true] at h
    obtain ⟨p, hp, he⟩ := least_ex c1.1
    have hb := c1.2
    simp only [inR, Bool.and_eq_true, decide_eq_true_eq] at hb
    have := chk_sound c1.1 (-100000000000000000) 1000000000000000 (by omega) (by omega) nd.length (List.replicate w.length 0) [] [] b nd (rel_start _) (by omega) hb.2 h.1 p hp (fun v hv => by cases hv)
    rw [he, wtS_sum]
    have heq : oW w (List.replicate w.length 0) p = sumP p (fun i => w.getD i 0) w.length := by
      unfold oW
      congr 1
      funext i
      have hz : (List.replicate w.length (0 : Int)).getD i 0 = 0 := by
        rw [List.getD_eq_getElem?_getD, List.getElem?_replicate]; split <;> rfl
      unfold opn
      rw [hz]
      simp
    rw [← heq]; exact this
  · cases h

theorem law394 (ws es : List Nat) (hb : ∀ x ∈ es, x < 65536) (b : Int) (nd : List Nd) (h1 : nd.length ≤ 1048576) (h2 : ∀ n ∈ nd, n.2.length ≤ 1048576) (X : XHeap) : call XT 394 [.p (PV.agg [.rd 1 (ws.map enc8), .rd 1 (es.map enc16)]), vI b, .p (.rd 2 (nd.map fun n => [pI n.1, .rd 2 (n.2.map encSI)]))] X = some (vB true, X) := by
  refine call_pure (F := f394) (args := [PV.agg [.rd 1 (ws.map enc8), .rd 1 (es.map enc16)], pI b, .rd 2 (nd.map fun n => [pI n.1, .rd 2 (n.2.map encSI)])]) T394 rfl rfl ?_
  unfold f394 x394
  by_cases h : ws.length ≤ 8 ∧ es.length ≤ 12
  · obtain ⟨hw, hl⟩ := h
    have hv := of_valid ws es hw hl
    have ho := edgs_ok ws.length es
    have hm : ∀ a ∈ edgs ws.length es, a.length ≤ 1048576 := fun a ha => by have := (ho.2 a ha).2; omega
    have hwl : (ws.map wgt).length = ws.length := by simp
    have k0 := fun X => call403 ws es hw hl hb X
    generalize ws.map wgt = w at hv hwl k0
    generalize edgs ws.length es = e at hv ho hm k0
    have hE : e.map encL1 = e.map fun l => [PV.rd 1 (l.map encI)] := rfl
    rw [hE] at k0
    have k1 := fun X => call411 w e (by omega) (by omega) hm b nd h1 h2 X
    have k2 := fun X => call412 w e (by omega) (by omega) hm b nd h1 h2 X
    have k4 := fun X => call408 w e (by omega) (by omega) hm X
    rw [← check_eq] at k2
    by_cases c1 : (40 : Int) < nd.length
    · simp only [↓sxP, sxQ, xai, xgo, xop, xG, AOp.touched, oldX, nwX, newX, xo, xput, refX, xbin, xint, loadP, loadX, ofC, xcells, xagg, Nat.blt, Value.oneCell', refsO, okGc, renO, rI, coX, Option.isSome, outS, outT, resX, tupX, lend1, lend0, scalX, xsb, pvX, zeroX, spliceG, xapp, xappP, xrd, eqP1, xstr, zpv, Nat.beq, Nat.ble, ↓reduceIte, Nat.reduceAdd, Nat.reduceLeDiff, Nat.reduceBEq, Nat.reduceEqDiff, Nat.reduceLT, Nat.reduceSub, Nat.reduceMul, Int.reduceLT, Int.reduceLE, Int.reduceAdd, Int.reduceSub, Int.reduceNeg, Int.reduceToNat, Int.reduceEq, reduceCtorEq, norm_cons, norm_nil, normB, pOwn, pSel, gcS, reach, addN, getO, live, gcH, P403, k0, maxEl, List.replicate, List.set, P400, awake_any, c1]
    · by_cases c2 : checkP w e b nd = true
      · have c3 := check_sound h1 c2
        simp only [↓sxP, sxQ, xai, xgo, xop, xG, AOp.touched, oldX, nwX, newX, xo, xput, refX, xbin, xint, loadP, loadX, ofC, xcells, xagg, Nat.blt, Value.oneCell', refsO, okGc, renO, rI, coX, Option.isSome, outS, outT, resX, tupX, lend1, lend0, scalX, xsb, pvX, zeroX, spliceG, xapp, xappP, xrd, eqP1, xstr, zpv, Nat.beq, Nat.ble, ↓reduceIte, Nat.reduceAdd, Nat.reduceLeDiff, Nat.reduceBEq, Nat.reduceEqDiff, Nat.reduceLT, Nat.reduceSub, Nat.reduceMul, Int.reduceLT, Int.reduceLE, Int.reduceAdd, Int.reduceSub, Int.reduceNeg, Int.reduceToNat, Int.reduceEq, reduceCtorEq, norm_cons, norm_nil, normB, pOwn, pSel, gcS, reach, addN, getO, live, gcH, P403, k0, maxEl, List.replicate, List.set, P400, awake_any, c1, P411, k1, P412, k2, c2, P408, k4, c3, beq_self_eq_true]
      · have c2' : checkP w e b nd = false := by simpa using c2
        simp only [↓sxP, sxQ, xai, xgo, xop, xG, AOp.touched, oldX, nwX, newX, xo, xput, refX, xbin, xint, loadP, loadX, ofC, xcells, xagg, Nat.blt, Value.oneCell', refsO, okGc, renO, rI, coX, Option.isSome, outS, outT, resX, tupX, lend1, lend0, scalX, xsb, pvX, zeroX, spliceG, xapp, xappP, xrd, eqP1, xstr, zpv, Nat.beq, Nat.ble, ↓reduceIte, Nat.reduceAdd, Nat.reduceLeDiff, Nat.reduceBEq, Nat.reduceEqDiff, Nat.reduceLT, Nat.reduceSub, Nat.reduceMul, Int.reduceLT, Int.reduceLE, Int.reduceAdd, Int.reduceSub, Int.reduceNeg, Int.reduceToNat, Int.reduceEq, reduceCtorEq, norm_cons, norm_nil, normB, pOwn, pSel, gcS, reach, addN, getO, live, gcH, P403, k0, maxEl, List.replicate, List.set, P400, awake_any, c1, P411, k1, P412, k2, c2', P408, k4, beq_self_eq_true]
  · have k0 := fun X => bad403 ws es h X
    simp only [↓sxP, sxQ, xai, xgo, xop, xG, AOp.touched, oldX, nwX, newX, xo, xput, refX, xbin, xint, loadP, loadX, ofC, xcells, xagg, Nat.blt, Value.oneCell', refsO, okGc, renO, rI, coX, Option.isSome, outS, outT, resX, tupX, lend1, lend0, scalX, xsb, pvX, zeroX, spliceG, xapp, xappP, xrd, eqP1, xstr, zpv, Nat.beq, Nat.ble, ↓reduceIte, Nat.reduceAdd, Nat.reduceLeDiff, Nat.reduceBEq, Nat.reduceEqDiff, Nat.reduceLT, Nat.reduceSub, Nat.reduceMul, Int.reduceLT, Int.reduceLE, Int.reduceAdd, Int.reduceSub, Int.reduceNeg, Int.reduceToNat, Int.reduceEq, reduceCtorEq, norm_cons, norm_nil, normB, pOwn, pSel, gcS, reach, addN, getO, live, gcH, P403, k0, maxEl, List.replicate, List.set, P400, awake_any]
end Go.Abs
