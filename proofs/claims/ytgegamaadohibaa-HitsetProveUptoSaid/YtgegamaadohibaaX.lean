/- Abstract code as a function that is run, and its soundness against the model's code. No condition. -/
import Derived.Test.YtgegamaadohibaaA3
import Derived.Carry
import Derived.WalkKit
import Derived.ProofKit
import Derived.OpenShut
namespace Go.Abs
open Go Go.RowKit

/-- A plain value: it names no own object. -/
inductive PV where
  | v (x : Value)
  | emp
  | rd (es : Nat) (l : List (List PV))
  | rp (cs : List PV)
  | agg (cs : List PV)
  | tup (vs : List PV)
  | clo (f : Nat) (caps : List PV)
  deriving Inhabited

/-- Any value of a run. -/
inductive XV where
  | p (x : PV)
  | u
  | ref (a off len : Nat)
  | ptr (a i j : Nat)
  | rdx (es : Nat) (l : List (List XV))
  | agg (cs : List XV)
  | tup (vs : List XV)
  | clo (f : Nat) (caps : List XV)
  deriving Inhabited

mutual
def PV.av : PV → AV
  | .v x => .v x
  | .emp => .emp
  | .rd es l => .rd es (PV.avss l)
  | .rp cs => .rp (PV.avs cs)
  | .agg cs => .agg (PV.avs cs)
  | .tup cs => .tup (PV.avs cs)
  | .clo f cs => .clo f (PV.avs cs)
def PV.avs : List PV → List AV
  | [] => []
  | a :: r => a.av :: PV.avs r
def PV.avss : List (List PV) → List (List AV)
  | [] => []
  | a :: r => PV.avs a :: PV.avss r
end

theorem avs_map : ∀ l : List PV, PV.avs l = l.map PV.av
  | [] => by simp [PV.avs]
  | a :: r => by simp [PV.avs, avs_map r]
theorem avss_map : ∀ l : List (List PV), PV.avss l = l.map (·.map PV.av)
  | [] => by simp [PV.avss]
  | a :: r => by simp [PV.avss, avss_map r, avs_map]

mutual
def XV.av (k : Nat) : XV → AV
  | .p x => x.av
  | .u => .u
  | .ref a off len => .ref (k + a) off len
  | .ptr a i j => .ptr (k + a) i j
  | .rdx es l => .rd es (XV.avss k l)
  | .agg cs => .agg (XV.avs k cs)
  | .tup cs => .tup (XV.avs k cs)
  | .clo f cs => .clo f (XV.avs k cs)
def XV.avs (k : Nat) : List XV → List AV
  | [] => []
  | a :: r => a.av k :: XV.avs k r
def XV.avss (k : Nat) : List (List XV) → List (List AV)
  | [] => []
  | a :: r => XV.avs k a :: XV.avss k r
end

theorem xavs_map (k : Nat) : ∀ l : List XV, XV.avs k l = l.map (XV.av k)
  | [] => by simp [XV.avs]
  | a :: r => by simp [XV.avs, xavs_map k r]
theorem xavss_map (k : Nat) : ∀ l : List (List XV), XV.avss k l = l.map (·.map (XV.av k))
  | [] => by simp [XV.avss]
  | a :: r => by simp [XV.avss, xavss_map k r, xavs_map]

mutual
theorem nr_av : ∀ x : PV, NR x.av
  | .v x => .v x
  | .emp => .emp
  | .rd es l => .rd es _ (fun e he x hx => nr_avss l e he x hx)
  | .rp cs => .rp _ (fun x hx => nr_avs cs x hx)
  | .agg cs => .agg _ (fun x hx => nr_avs cs x hx)
  | .tup cs => .tup _ (fun x hx => nr_avs cs x hx)
  | .clo f cs => .clo f _ (fun x hx => nr_avs cs x hx)
theorem nr_avs : ∀ (l : List PV) (x : AV), x ∈ PV.avs l → NR x
  | [], x, h => by simp [PV.avs] at h
  | a :: r, x, h => by
    simp only [PV.avs, List.mem_cons] at h
    rcases h with rfl | h
    · exact nr_av a
    · exact nr_avs r x h
theorem nr_avss : ∀ (l : List (List PV)) (e : List AV), e ∈ PV.avss l → ∀ x ∈ e, NR x
  | [], e, h => by simp [PV.avss] at h
  | a :: r, e, h => by
    simp only [PV.avss, List.mem_cons] at h
    rcases h with rfl | h
    · exact nr_avs a
    · exact nr_avss r e h
end

/-- An own object: 'pu': plain cells alone. -/
inductive XObj where
  | pu (es : Nat) (el : List (List PV))
  | mx (es : Nat) (el : List (List XV))

def XObj.ao (k : Nat) : XObj → AObj
  | .pu es el => ⟨es, el.map (·.map PV.av)⟩
  | .mx es el => ⟨es, el.map (·.map (XV.av k))⟩

abbrev XEnv := List (Nat × XV)
abbrev XHeap := List (Option XObj)

structure XSt where
  env : XEnv
  heap : XHeap
  base : Nat

def xlook : XEnv → Nat → XV
  | [], _ => .u
  | (n, v) :: r, t => bif Nat.beq n t then v else xlook r t

def envA (k : Nat) (env : XEnv) : Env := env.map fun p => (p.1, p.2.av k)
def heapA (k : Nat) (X : XHeap) : Heap := X.map (·.map (XObj.ao k))
def XSt.a (k : Nat) (s : XSt) : ASt := ⟨envA k s.env, Z k (heapA k s.heap), k + s.base⟩

theorem look_env (k : Nat) : ∀ (env : XEnv) (t : Nat), lookE (envA k env) t = (xlook env t).av k
  | [], t => by simp [envA, lookE, xlook, XV.av]
  | (n, v) :: r, t => by
    have ih := look_env k r t
    unfold envA at ih ⊢
    simp only [List.map_cons, lookE, xlook]
    have e : (n == t) = Nat.beq n t := by
      rw [Bool.eq_iff_iff, beq_iff_eq, Nat.beq_eq]
    rw [e]
    cases Nat.beq n t with
    | true => rfl
    | false => simpa using ih

theorem heapA_get (k : Nat) (X : XHeap) (i : Nat) : (heapA k X)[i]? = (X[i]?).map (·.map (XObj.ao k)) := by simp [heapA]
theorem heapA_len (k : Nat) (X : XHeap) : (heapA k X).length = X.length := by simp [heapA]
theorem heapA_set (k : Nat) (X : XHeap) (i : Nat) (o : Option XObj) : (heapA k X).set i (o.map (XObj.ao k)) = heapA k (X.set i o) := by simp [heapA, List.map_set]
theorem heapA_app (k : Nat) (X Y : XHeap) : heapA k (X ++ Y) = heapA k X ++ heapA k Y := by simp [heapA]

/-- A cell of a constant. -/
def zpv : Value → PV
  | .slice none 0 0 => .emp
  | v => .v v
theorem zpv_av (z : Value) : (zpv z).av = zc z := by
  unfold zpv zc
  split <;> simp [PV.av]

def cellP : AV → Option PV
  | .v x => some (.v x)
  | .emp => some .emp
  | _ => none
def cellsP : List AV → Option (List PV)
  | [] => some []
  | a :: r => match cellP a, cellsP r with
    | some x, some xs => some (x :: xs)
    | _, _ => none

/-- A constant. -/
def ofC : AV → XV
  | .v x => .p (.v x)
  | .emp => .p .emp
  | .clo f [] => .p (.clo f [])
  | .agg cs => match cellsP cs with | some ps => .p (.agg ps) | none => .u
  | .tup cs => match cellsP cs with | some ps => .p (.tup ps) | none => .u
  | _ => .u

def okC : AV → Bool
  | .v _ | .emp | .u | .clo _ [] => true
  | .agg cs | .tup cs => (cellsP cs).isSome
  | _ => false

theorem cellsP_av : ∀ {cs : List AV} {ps : List PV}, cellsP cs = some ps → PV.avs ps = cs
  | [], ps, h => by simp [cellsP] at h; subst h; simp [PV.avs]
  | a :: r, ps, h => by
    simp only [cellsP] at h
    split at h
    · rename_i x xs h1 h2
      injection h with h; subst h
      have := cellsP_av h2
      simp only [PV.avs, this]
      cases a <;> simp [cellP] at h1 <;> subst h1 <;> simp [PV.av]
    · cases h

theorem ofC_av {k : Nat} {a : AV} (h : okC a = true) : (ofC a).av k = a := by
  cases a with
  | clo f cs => cases cs <;> simp [okC] at h; simp [ofC, XV.av, PV.av, PV.avs]
  | agg cs =>
    simp only [okC, Option.isSome_iff_exists] at h
    obtain ⟨ps, h⟩ := h
    simp [ofC, h, XV.av, PV.av, cellsP_av h]
  | tup cs =>
    simp only [okC, Option.isSome_iff_exists] at h
    obtain ⟨ps, h⟩ := h
    simp [ofC, h, XV.av, PV.av, cellsP_av h]
  | _ => first | (simp [ofC, XV.av, PV.av]; done) | (simp [okC] at h)

def xo (env : XEnv) : Opd → XV
  | .t n => xlook env n
  | .c a => ofC a

def okO : Opd → Bool
  | .t _ => true
  | .c a => okC a

theorem xo_av {k : Nat} {env : XEnv} {x : Opd} (h : okO x = true) : opd (envA k env) x = (xo env x).av k := by
  cases x with
  | t n => exact look_env k env n
  | c a => exact (ofC_av h).symm

def allP : List XV → Option (List PV)
  | [] => some []
  | .p x :: r => match allP r with
    | some xs => some (x :: xs)
    | none => none
  | _ :: _ => none

theorem allP_av {k : Nat} : ∀ {cs : List XV} {ps : List PV}, allP cs = some ps → cs = ps.map .p ∧ XV.avs k cs = PV.avs ps
  | [], ps, h => by simp [allP] at h; subst h; simp [XV.avs, PV.avs]
  | a :: r, ps, h => by
    cases a with
    | p x =>
      simp only [allP] at h
      split at h
      · rename_i xs hx
        injection h with h; subst h
        obtain ⟨h1, h2⟩ := allP_av (k := k) hx
        exact ⟨by simp [h1], by simp [XV.avs, PV.avs, h2, XV.av]⟩
      · cases h
    | _ => simp [allP] at h

theorem avs_p (k : Nat) (ps : List PV) : XV.avs k (ps.map .p) = PV.avs ps := by simp [xavs_map, avs_map, XV.av]
theorem map_p_av (k : Nat) (ps : List PV) : (ps.map XV.p).map (XV.av k) = ps.map PV.av := by simp [XV.av]

def xagg (cs : List XV) : XV :=
  match allP cs with
  | some ps => .p (.agg ps)
  | none => .agg cs

theorem xagg_av (k : Nat) (cs : List XV) : (xagg cs).av k = .agg (cs.map (XV.av k)) := by
  unfold xagg
  split
  · rename_i ps h; simp [XV.av, PV.av, ← xavs_map, (allP_av (k := k) h).2]
  · simp [XV.av, xavs_map]

def allPP : List (List XV) → Option (List (List PV))
  | [] => some []
  | c :: r => match allP c, allPP r with
    | some x, some xs => some (x :: xs)
    | _, _ => none

theorem allPP_av {k : Nat} : ∀ {l : List (List XV)} {ps : List (List PV)}, allPP l = some ps → XV.avss k l = PV.avss ps
  | [], ps, h => by simp [allPP] at h; subst h; simp [XV.avss, PV.avss]
  | c :: r, ps, h => by
    simp only [allPP] at h
    split at h
    · rename_i x xs h1 h2
      injection h with h; subst h
      simp [XV.avss, PV.avss, (allP_av (k := k) h1).2, allPP_av (k := k) h2]
    · cases h

def xrd (es : Nat) (l : List (List XV)) : XV :=
  match allPP l with
  | some ps => .p (.rd es ps)
  | none => .rdx es l

theorem xrd_av (k es : Nat) (l : List (List XV)) : (xrd es l).av k = .rd es (l.map (·.map (XV.av k))) := by
  unfold xrd
  split
  · rename_i ps h; simp [XV.av, PV.av, ← xavss_map, allPP_av (k := k) h]
  · simp [XV.av, xavss_map]

def xcells : XV → Option (List XV)
  | .u => none
  | .agg cs => some cs
  | .tup _ => none
  | .p (.agg cs) => some (cs.map .p)
  | .p (.tup _) => none
  | .p (.v x) => bif x.oneCell' then some [.p (.v x)] else none
  | a => some [a]

theorem xcells_av {k : Nat} {a : XV} {cs : List XV} (h : xcells a = some cs) : cellsOf (a.av k) = some (cs.map (XV.av k)) := by
  cases a with
  | p x =>
    cases x with
    | v x =>
      simp only [xcells] at h
      cases hx : x.oneCell' with
      | true => simp [hx] at h; subst h; simp [XV.av, PV.av, cellsOf, hx]
      | false => simp [hx] at h
    | agg cs => simp only [xcells] at h; injection h with h; subst h; simp only [XV.av, PV.av, cellsOf, map_p_av, avs_map]
    | tup cs => simp [xcells] at h
    | _ => simp only [xcells] at h; injection h with h; subst h; simp [XV.av, PV.av, cellsOf]
  | agg cs => simp only [xcells] at h; injection h with h; subst h; simp [XV.av, cellsOf, xavs_map]
  | tup cs => simp [xcells] at h
  | u => simp [xcells] at h
  | _ => simp only [xcells] at h; injection h with h; subst h; simp [XV.av, cellsOf]

end Go.Abs

namespace Go.Abs
open Go Go.RowKit

def xint (op : BinOp) (k : IntKind) (x y : Int) : Option Value :=
  match op with
  | .add => some (.int k (k.wrap (x + y)))
  | .sub => some (.int k (k.wrap (x - y)))
  | .mul => some (.int k (k.wrap (x * y)))
  | .quo => if y = 0 then none else some (.int k (k.wrap (x.tdiv y)))
  | .rem => if y = 0 then none else some (.int k (x.tmod y))
  | .and => some (.int k (bits .and k x y))
  | .or => some (.int k (bits .or k x y))
  | .xor => some (.int k (bits .xor k x y))
  | .andNot => some (.int k (bits .andNot k x y))
  | .shl => if 0 ≤ y then some (.int k (k.wrap (x * 2 ^ (min y.toNat k.bits)))) else none
  | .shr => if 0 ≤ y then some (.int k (x.fdiv (2 ^ (min y.toNat k.bits)))) else none
  | .eql => some (.bool (decide (x = y)))
  | .neq => some (.bool (!decide (x = y)))
  | .lss => some (.bool (decide (x < y)))
  | .leq => some (.bool (decide (x ≤ y)))
  | .gtr => some (.bool (decide (y < x)))
  | .geq => some (.bool (decide (y ≤ x)))

theorem xint_ok {op : BinOp} {k : IntKind} {x y : Int} {v : Value} {K : Value → Prop} (h : xint op k x y = some v) (hk : K v) : intBin op k x y K := by
  cases op <;> simp only [xint] at h
  case quo => split at h; · cases h
              · injection h with h; subst h; exact ⟨by assumption, hk⟩
  case rem => split at h; · cases h
              · injection h with h; subst h; exact ⟨by assumption, hk⟩
  case shl => split at h
              · injection h with h; subst h; exact ⟨by assumption, hk⟩
              · cases h
  case shr => split at h
              · injection h with h; subst h; exact ⟨by assumption, hk⟩
              · cases h
  case eql => injection h with h; subst h; simp only [intBin]; rwa [show (x == y) = decide (x = y) from by rw [Bool.eq_iff_iff]; simp]
  case neq => injection h with h; subst h; simp only [intBin]; rwa [show (x != y) = !decide (x = y) from by rw [Bool.eq_iff_iff]; simp]
  all_goals (injection h with h; subst h; exact hk)

def xstr (op : BinOp) (x y : ByteArray) : Option Value :=
  match op with
  | .add => if ((x.size + y.size : Nat) : Int) ≤ 9223372036854775807 then some (.string (x ++ y)) else none
  | .eql => some (.bool (decide (x = y)))
  | .neq => some (.bool (!decide (x = y)))
  | .lss => some (.bool (Op.bytesLess x.toList y.toList))
  | .leq => some (.bool (Op.bytesLess x.toList y.toList || decide (x = y)))
  | .gtr => some (.bool (!(Op.bytesLess x.toList y.toList || decide (x = y))))
  | .geq => some (.bool (!Op.bytesLess x.toList y.toList))
  | _ => none

theorem ba_loop (bs : ByteArray) : ∀ (m i : Nat) (r : List UInt8), bs.size - i = m → ByteArray.toList.loop bs i r = r.reverse ++ bs.data.toList.drop i
  | 0, i, r, h => by
    unfold ByteArray.toList.loop
    have h2 : ¬ i < bs.size := by omega
    rw [if_neg h2, List.drop_of_length_le (by simp; change bs.data.size ≤ i; have : bs.size = bs.data.size := rfl; omega), List.append_nil]
  | m + 1, i, r, h => by
    unfold ByteArray.toList.loop
    have h2 : i < bs.size := by omega
    have h3 : i < bs.data.toList.length := by simp; exact h2
    rw [if_pos h2, ba_loop bs m (i + 1) _ (by omega), List.drop_eq_getElem_cons h3]
    simp only [List.reverse_cons, List.append_assoc, List.singleton_append]
    congr 2
    simp only [ByteArray.get!]
    cases bs with
    | mk d => simp only [Array.getElem_toList]; rw [getElem!_pos d i (by simpa using h3)]
theorem byteArray_toList (bs : ByteArray) : bs.toList = bs.data.toList := by
  have := ba_loop bs _ 0 [] rfl
  simpa [ByteArray.toList] using this

theorem str_eq (x y : ByteArray) : (x.toList == y.toList) = decide (x = y) := by
  rw [Bool.eq_iff_iff, beq_iff_eq, decide_eq_true_iff]
  constructor
  · intro h
    have h2 : ∀ z : ByteArray, z.toList = z.data.toList := fun z => byteArray_toList z
    rw [h2, h2] at h
    cases x; cases y
    simp only [ByteArray.mk.injEq]
    exact Array.toList_inj.1 h
  · rintro rfl; rfl

theorem xstr_ok {op : BinOp} {x y : ByteArray} {v : Value} {K : Value → Prop} (h : xstr op x y = some v) (hk : K v) : strBin op x y K := by
  cases op <;> simp only [xstr] at h
  case add => split at h
              · injection h with h; subst h; exact ⟨by assumption, hk⟩
              · cases h
  all_goals first
    | (injection h with h; subst h; simp only [strBin, str_eq]; exact hk)
    | cases h

def xbin (op : BinOp) : Value → Value → Option Value
  | .int k x, .int k' y => if k = k' ∨ op = .shl ∨ op = .shr then xint op k x y else none
  | .string x, .string y => xstr op x y
  | _, _ => none

theorem xbin_ok {op : BinOp} {a b v : Value} {K : Value → Prop} (h : xbin op a b = some v) (hk : K v) : binK op (.v a) (.v b) K := by
  unfold xbin at h
  split at h
  · split at h
    · exact ⟨by assumption, xint_ok h hk⟩
    · cases h
  · exact xstr_ok h hk
  · cases h

def eqP1 : Nat → PV → PV → Option Bool
  | 0, .v (.bool a), .v (.bool b) => some (a == b)
  | 1, .v (.int k a), .v (.int k' b) => if k = k' then some (decide (a = b)) else none
  | 2, .v (.string a), .v (.string b) => some (decide (a = b))
  | _, _, _ => none

def eqP : List Nat → List PV → List PV → Option Bool
  | [], [], [] => some true
  | k :: ks, a :: as, b :: bs => match eqP1 k a b, eqP ks as bs with
    | some x, some y => some (x && y)
    | _, _ => none
  | _, _, _ => none

theorem eqP1_ok {k : Nat} {a b : PV} {r : Bool} (h : eqP1 k a b = some r) : eqAV k a.av b.av = some r := by
  unfold eqP1 at h
  split at h
  · simp [PV.av, eqAV]; simpa using h
  · split at h
    · rename_i hk; subst hk
      injection h with h; subst h
      simp only [PV.av, eqAV, if_true, Option.some.injEq]
      rw [Bool.eq_iff_iff]; simp
    · cases h
  · injection h with h; subst h
    simp only [PV.av, eqAV, str_eq]
  · cases h

theorem eqP_ok : ∀ {ks : List Nat} {as bs : List PV} {r : Bool}, eqP ks as bs = some r → eqL ks (PV.avs as) (PV.avs bs) = some r
  | [], [], [], r, h => by simpa [eqP, eqL, PV.avs] using h
  | k :: ks, a :: as, b :: bs, r, h => by
    simp only [eqP] at h
    split at h
    · rename_i x y h1 h2
      simp only [PV.avs, eqL, eqP1_ok h1, eqP_ok h2]; exact h
    · cases h
  | [], [], _ :: _, _, h => by simp [eqP] at h
  | [], _ :: _, _, _, h => by simp [eqP] at h
  | _ :: _, [], _, _, h => by simp [eqP] at h
  | _ :: _, _ :: _, [], _, h => by simp [eqP] at h

def loadP (g : Bool) (n : Nat) (cs : List PV) : Option PV :=
  match g with
  | true => if n ≤ cs.length then some (.agg (cs.take n)) else none
  | false => cs[0]?
def loadX (g : Bool) (n : Nat) (cs : List XV) : Option XV :=
  match g with
  | true => if n ≤ cs.length then some (xagg (cs.take n)) else none
  | false => cs[0]?

theorem loadP_ok {g : Bool} {n : Nat} {cs : List PV} {a : PV} {K : AV → Prop} (h : loadP g n cs = some a) (hk : K a.av) : loadK g n (PV.avs cs) K := by
  cases g with
  | true =>
    simp only [loadP] at h
    split at h
    · injection h with h; subst h
      simp only [PV.av, avs_map, List.map_take] at hk
      exact ⟨by simpa [avs_map] using by assumption, by simpa [avs_map] using hk⟩
    · cases h
  | false => exact ⟨a.av, by simp only [loadP] at h; simp [avs_map, h], hk⟩
theorem loadX_ok {k : Nat} {g : Bool} {n : Nat} {cs : List XV} {a : XV} {K : AV → Prop} (h : loadX g n cs = some a) (hk : K (a.av k)) : loadK g n (cs.map (XV.av k)) K := by
  cases g with
  | true =>
    simp only [loadX] at h
    split at h
    · injection h with h; subst h
      rw [xagg_av, List.map_take] at hk
      exact ⟨by simpa using by assumption, hk⟩
    · cases h
  | false => exact ⟨a.av k, by simp only [loadX] at h; simp [h], hk⟩

def spliceG {α : Type} (l : List α) (j : Nat) (cs : List α) : List α := l.take j ++ cs ++ l.drop (j + cs.length)
theorem splice_map {α : Type} (f : α → AV) (l : List α) (j : Nat) (cs : List α) : (spliceG l j cs).map f = splice (l.map f) j (cs.map f) := by
  simp [spliceG, splice, List.map_take, List.map_drop]

def xfill (l : List XV) (env : XEnv) : List (Nat × Nat × Opd) → Option (List XV)
  | [] => some l
  | (off, n, x) :: r => match xcells (xo env x) with
    | some cs => if cs.length = n ∧ off + n ≤ l.length then xfill (spliceG l off cs) env r else none
    | none => none

def xfillE (es : Nat) (l : List (List XV)) (env : XEnv) : List (Nat × Opd) → Option (List (List XV))
  | [] => some l
  | (i, x) :: r => match xcells (xo env x) with
    | some cs => if cs.length = es ∧ i < l.length then xfillE es (l.set i cs) env r else none
    | none => none

def okParts : List (Nat × Nat × Opd) → Bool
  | [] => true
  | (_, _, x) :: r => okO x && okParts r
def okPartsE : List (Nat × Opd) → Bool
  | [] => true
  | (_, x) :: r => okO x && okPartsE r

theorem xfill_ok {k : Nat} {env : XEnv} {K : List AV → Prop} : ∀ {ps : List (Nat × Nat × Opd)} {l l' : List XV}, okParts ps = true → xfill l env ps = some l' → K (l'.map (XV.av k)) → fillK (l.map (XV.av k)) (envA k env) ps K
  | [], l, l', _, h, hk => by simp [xfill] at h; subst h; exact hk
  | (off, n, x) :: r, l, l', ho, h, hk => by
    simp only [okParts, Bool.and_eq_true] at ho
    simp only [xfill] at h
    split at h
    · rename_i cs hc
      split at h
      · rename_i hcond
        simp only [fillK, opK, xo_av ho.1]
        refine ⟨_, xcells_av hc, by simpa using hcond.1, by simpa using hcond.2, ?_⟩
        have := xfill_ok (k := k) ho.2 h hk
        rwa [splice_map] at this
      · cases h
    · cases h

theorem xfillE_ok {k es : Nat} {env : XEnv} {K : List (List AV) → Prop} : ∀ {ps : List (Nat × Opd)} {l l' : List (List XV)}, okPartsE ps = true → xfillE es l env ps = some l' → K (l'.map (·.map (XV.av k))) → fillE es (l.map (·.map (XV.av k))) (envA k env) ps K
  | [], l, l', _, h, hk => by simp [xfillE] at h; subst h; exact hk
  | (i, x) :: r, l, l', ho, h, hk => by
    simp only [okPartsE, Bool.and_eq_true] at ho
    simp only [xfillE] at h
    split at h
    · rename_i cs hc
      split at h
      · rename_i hcond
        simp only [fillE, opK, xo_av ho.1]
        refine ⟨_, xcells_av hc, by simpa using hcond.1, by simpa using hcond.2, ?_⟩
        have := xfillE_ok (k := k) ho.2 h hk
        rwa [List.map_set] at this
      · cases h
    · cases h

/-- A slice's bound. -/
def xsb (env : XEnv) (o : Option Opd) (d : Nat) : Option Nat :=
  match o with
  | none => some d
  | some x => match xo env x with
    | .p (.v (.int _ n)) => if 0 ≤ n then some n.toNat else none
    | _ => none
def okOo : Option Opd → Bool
  | none => true
  | some x => okO x

theorem xsb_ok {k : Nat} {env : XEnv} {o : Option Opd} {d n : Nat} {K : Nat → Prop} (ho : okOo o = true) (h : xsb env o d = some n) (hk : K n) : slB (envA k env) o d K := by
  cases o with
  | none => simp [xsb] at h; subst h; exact hk
  | some x =>
    simp only [xsb] at h
    split at h
    · rename_i kk m hx
      split at h
      · rename_i hm
        injection h with h; subst h
        simp only [slB, opK, xo_av (k := k) (env := env) (show okO x = true from ho), hx, XV.av, PV.av]
        exact ⟨_, _, rfl, hm, hk⟩
      · cases h
    · cases h

def xapp (X : XHeap) (es : Nat) (s : XV) (add : List (List XV)) : Option (XV × XHeap) :=
  match s with
  | .ref a off len => match X[a]? with
    | some (some (.pu es' el)) => if off = 0 ∧ len = el.length ∧ es' = es ∧ el.length + add.length ≤ maxEl ∧ add.all (fun e => Nat.beq e.length es) = true then
        match allPP add with
        | some ps => some (.ref X.length 0 (el.length + add.length), X.set a none ++ [some (.pu es (el ++ ps))])
        | none => some (.ref X.length 0 (el.length + add.length), X.set a none ++ [some (.mx es (el.map (·.map .p) ++ add))])
      else none
    | some (some (.mx es' el)) => if off = 0 ∧ len = el.length ∧ es' = es ∧ el.length + add.length ≤ maxEl ∧ add.all (fun e => Nat.beq e.length es) = true then
        some (.ref X.length 0 (el.length + add.length), X.set a none ++ [some (.mx es (el ++ add))])
      else none
    | _ => none
  | .p .emp => if add.length ≤ maxEl ∧ add.all (fun e => Nat.beq e.length es) = true then
      match allPP add with
      | some ps => some (.ref X.length 0 add.length, X ++ [some (.pu es ps)])
      | none => some (.ref X.length 0 add.length, X ++ [some (.mx es add)])
    else none
  | _ => none

/-- A slice of plain elements is appended. -/
def xappP (X : XHeap) (es : Nat) (s : XV) (add : List (List PV)) : Option (XV × XHeap) :=
  match s with
  | .ref a off len => match X[a]? with
    | some (some (.pu es' el)) => if off = 0 ∧ len = el.length ∧ es' = es ∧ el.length + add.length ≤ maxEl ∧ (∀ e ∈ add, e.length = es) then
        some (.ref X.length 0 (el.length + add.length), X.set a none ++ [some (.pu es (el ++ add))])
      else none
    | some (some (.mx es' el)) => if off = 0 ∧ len = el.length ∧ es' = es ∧ el.length + add.length ≤ maxEl ∧ (∀ e ∈ add, e.length = es) then
        some (.ref X.length 0 (el.length + add.length), X.set a none ++ [some (.mx es (el ++ add.map (·.map .p)))])
      else none
    | _ => none
  | .p .emp => if add.length ≤ maxEl ∧ (∀ e ∈ add, e.length = es) then some (.ref X.length 0 add.length, X ++ [some (.pu es add)]) else none
  | _ => none

def mmX (mx : Bool) (k : IntKind) : Int → List XV → Option XV
  | m, [] => some (.p (.v (.int k m)))
  | m, .p (.v (.int _ n)) :: r => mmX mx k (bif mx then max m n else min m n) r
  | _, _ => none

def zeroX : XV → Bool
  | .p (.v (.int _ n)) => decide (n = 0)
  | _ => false

def pvX : POp → List XV → Option XV
  | .mm mx, .p (.v (.int k m)) :: r => mmX mx k m r
  | .isn ng, [.p (.rd _ (_ :: _))] => some (.p (.v (.bool ng)))
  | .isn ng, [.p (.v (.slice A _ _))] => some (.p (.v (.bool (bif ng then !A.isNone else A.isNone))))
  | .emz, [a, lo, hi, mx] => if zeroX lo = true ∧ zeroX hi = true ∧ zeroX mx = true then match a with
      | .p (.rd _ _) | .p .emp | .p (.v (.slice _ _ _)) => some (.p .emp)
      | _ => none
    else none
  | _, _ => none

theorem mmX_ok {kk : Nat} {mx : Bool} {k : IntKind} : ∀ {r : List XV} {m : Int} {v : XV}, mmX mx k m r = some v → mmF mx k m (r.map (XV.av kk)) = some (v.av kk)
  | [], m, v, h => by simp only [mmX] at h; injection h with h; subst h; rfl
  | a :: r, m, v, h => by
    unfold mmX at h
    split at h
    · rename_i he; cases he
    · rename_i _ _ n r' he
      injection he with e1 e2; subst e1; subst e2
      simp only [List.map_cons, XV.av, PV.av, mmF]
      exact mmX_ok h
    · cases h

theorem zeroX_ok {kk : Nat} {a : XV} (h : zeroX a = true) : zeroA (a.av kk) = true := by
  unfold zeroX at h
  split at h
  · simp only [XV.av, PV.av, zeroA]; exact h
  · cases h

theorem pvX_ok {kk : Nat} {op : POp} {l : List XV} {v : XV} (h : pvX op l = some v) : pvF op (l.map (XV.av kk)) = some (v.av kk) := by
  unfold pvX at h
  split at h
  · simp only [List.map_cons, XV.av, PV.av, pvF]; exact mmX_ok h
  · injection h with h; subst h
    simp only [List.map_cons, List.map_nil, XV.av, PV.av, PV.avss, pvF]
  · injection h with h; subst h
    simp only [List.map_cons, List.map_nil, XV.av, PV.av, pvF]
  · split at h
    · rename_i hc
      simp only [List.map_cons, List.map_nil, pvF]
      rw [if_pos ⟨zeroX_ok hc.1, zeroX_ok hc.2.1, zeroX_ok hc.2.2⟩]
      split at h <;> first | (injection h with h; subst h; simp only [XV.av, PV.av]; done) | cases h
    · cases h
  · cases h

/-- All operations but calls. -/
def xG (op : AOp) (env : XEnv) (X : XHeap) : Option (XV × XHeap) :=
  match op with
  | .pv op xs => match pvX op (xs.map (xo env)) with
    | some v => some (v, X)
    | none => none
  | .mv x => some (xo env x, X)
  | .pick c a b => match xo env c with
    | .p (.v (.bool t)) => some (bif t then xo env a else xo env b, X)
    | _ => none
  | .box x => match xcells (xo env x) with
    | some cs => if 0 < cs.length ∧ cs.length ≤ maxEl then some (.ptr X.length 0 0, X ++ [some (.mx cs.length [cs])]) else none
    | none => none
  | .alloc z => some (.ptr X.length 0 0, X ++ [some (.mx z.length [z.map fun v => .p (zpv v)])])
  | .build z parts => match xfill (z.map fun v => .p (zpv v)) env parts with
    | some cs => some (xagg cs, X)
    | none => none
  | .bsl es z n parts => match xfillE es (List.replicate n (z.map fun v => .p (zpv v))) env parts with
    | some [] => some (.p .emp, X)
    | some l => some (xrd es l, X)
    | none => none
  | .load g n x => match xo env x with
    | .p (.rp cs) => match loadP g n cs with | some a => some (.p a, X) | none => none
    | .ptr a i j => match X[a]? with
      | some (some (.pu _ el)) => match el[i]? with
        | some e => match loadP g n (e.drop j) with | some a => some (.p a, X) | none => none
        | none => none
      | some (some (.mx _ el)) => match el[i]? with
        | some e => match loadX g n (e.drop j) with | some a => some (a, X) | none => none
        | none => none
      | _ => none
    | _ => none
  | .loadR g n x => match xo env x with
    | .p (.rp cs) => match loadP g n cs with | some a => some (.p a, X) | none => none
    | _ => none
  | .store n x y => match xo env x, xcells (xo env y) with
    | .ptr a i j, some cs => match X[a]? with
      | some (some (.pu es el)) => match el[i]? with
        | some e => if cs.length = n ∧ j + n ≤ e.length then
            match allP cs with
            | some ps => some (.u, X.set a (some (.pu es (el.set i (spliceG e j ps)))))
            | none => some (.u, X.set a (some (.mx es ((el.map (·.map .p)).set i (spliceG (e.map .p) j cs)))))
          else none
        | none => none
      | some (some (.mx es el)) => match el[i]? with
        | some e => if cs.length = n ∧ j + n ≤ e.length then some (.u, X.set a (some (.mx es (el.set i (spliceG e j cs))))) else none
        | none => none
      | _ => none
    | _, _ => none
  | .nilc x => match xo env x with
    | .p (.rp cs) => some (.p (.rp cs), X)
    | .ptr a i j => some (.ptr a i j, X)
    | .p (.clo f cs) => some (.p (.clo f cs), X)
    | .clo f cs => some (.clo f cs, X)
    | _ => none
  | .bin op x y => match xo env x, xo env y with
    | .p (.v a), .p (.v b) => match xbin op a b with | some r => some (.p (.v r), X) | none => none
    | _, _ => none
  | .beq ng x y => match xo env x, xo env y with
    | .p (.v (.bool s)), .p (.v (.bool t)) => some (.p (.v (.bool (bif ng then !(s == t) else s == t))), X)
    | _, _ => none
  | .eqa ng ks x y => match xo env x, xo env y with
    | .p (.agg cs), .p (.agg ds) => match eqP ks cs ds with | some r => some (.p (.v (.bool (bif ng then !r else r))), X) | none => none
    | _, _ => none
  | .not x => match xo env x with
    | .p (.v (.bool b)) => some (.p (.v (.bool !b)), X)
    | _ => none
  | .neg x => match xo env x with
    | .p (.v (.int k n)) => some (.p (.v (.int k (k.wrap (0 - n)))), X)
    | _ => none
  | .conv k x => match xo env x with
    | .p (.v (.int _ n)) => some (.p (.v (.int k (k.wrap n))), X)
    | _ => none
  | .cvs x => match xo env x with
    | .p (.v (.string s)) => some (.p (.v (.string s)), X)
    | _ => none
  | .fad off x => match xo env x with
    | .p (.rp cs) => some (.p (.rp (cs.drop off)), X)
    | .ptr a i j => some (.ptr a i (j + off), X)
    | _ => none
  | .fld g off n x => match xo env x with
    | .p (.agg cs) => if off ≤ cs.length then match loadP g n (cs.drop off) with | some a => some (.p a, X) | none => none else none
    | .agg cs => if off ≤ cs.length then match loadX g n (cs.drop off) with | some a => some (a, X) | none => none else none
    | _ => none
  | .iad es x i => match xo env x, xo env i with
    | .p (.rd es' l), .p (.v (.int _ n)) => if es' = es ∧ 0 ≤ n then match l[n.toNat]? with | some e => some (.p (.rp e), X) | none => none else none
    | .ref a off len, .p (.v (.int _ n)) => match X[a]? with
      | some (some (.pu es' el)) => if es' = es ∧ off + len ≤ el.length ∧ 0 ≤ n ∧ n < len then some (.ptr a (off + n.toNat) 0, X) else none
      | some (some (.mx es' el)) => if es' = es ∧ off + len ≤ el.length ∧ 0 ≤ n ∧ n < len then some (.ptr a (off + n.toNat) 0, X) else none
      | _ => none
    | _, _ => none
  | .iada es len x i => match xo env x, xo env i with
    | .p (.rp cs), .p (.v (.int _ n)) => if 0 ≤ n ∧ n < (len : Int) then some (.p (.rp (cs.drop (n.toNat * es))), X) else none
    | .ptr a i j, .p (.v (.int _ n)) => if 0 ≤ n ∧ n < (len : Int) then some (.ptr a i (j + n.toNat * es), X) else none
    | _, _ => none
  | .idx x i => match xo env x, xo env i with
    | .p (.v (.string s)), .p (.v (.int _ n)) => if 0 ≤ n then match s[n.toNat]? with | some b => some (.p (.v (.int .u8 b.toNat)), X) | none => none else none
    | _, _ => none
  | .slcS x lo hi => match xo env x with
    | .p (.v (.string s)) => match xsb env lo 0, xsb env hi s.size with
      | some l, some h => if l ≤ h ∧ h ≤ s.size then some (.p (.v (.string (s.extract l h))), X) else none
      | _, _ => none
    | _ => none
  | .slcR es0 x lo hi => match xo env x with
    | .p (.rd es l) => match xsb env lo 0, xsb env hi l.length with
      | some i, some h => if es = es0 ∧ i ≤ h ∧ h ≤ l.length then some (.p (.rd es ((l.take h).drop i)), X) else none
      | _, _ => none
    | .ref a off len => match xsb env lo 0, xsb env hi len with
      | some i, some h => if i = 0 ∧ h ≤ len then some (.ref a off h, X) else none
      | _, _ => none
    | .p .emp => match xsb env lo 0, xsb env hi 0 with
      | some i, some h => if i = 0 ∧ h = 0 then some (.p .emp, X) else none
      | _, _ => none
    | _ => none
  | .ext x i => match xo env x with
    | .p (.tup l) => match l[i]? with | some b => some (.p b, X) | none => none
    | .tup l => match l[i]? with | some b => some (b, X) | none => none
    | _ => none
  | .lenS x => match xo env x with
    | .p (.v (.string s)) => some (.p (.v (.int .i64 (s.size : Nat))), X)
    | _ => none
  | .len x => match xo env x with
    | .p (.rd _ l) => some (.p (.v (.int .i64 (l.length : Nat))), X)
    | .rdx _ l => some (.p (.v (.int .i64 (l.length : Nat))), X)
    | .ref _ _ len => some (.p (.v (.int .i64 (len : Nat))), X)
    | .p .emp => some (.p (.v (.int .i64 0)), X)
    | _ => none
  | .app es s x => match xo env x with
    | .p (.rd es' l) => if es' = es then xappP X es (xo env s) l else none
    | .rdx es' l => if es' = es then xapp X es (xo env s) l else none
    | .p .emp => xappP X es (xo env s) []
    | _ => none
  | .mksl es z n c => match xo env n, xo env c with
    | .p (.v (.int _ n)), .p (.v (.int _ c)) => if 0 ≤ n ∧ n ≤ c ∧ c ≤ (maxEl : Nat) then some (.ref X.length 0 n.toNat, X ++ [some (.pu es (List.replicate n.toNat (z.map zpv)))]) else none
    | _, _ => none
  | .mkf f caps => match allP (caps.map (xo env)) with
    | some ps => some (.p (.clo f ps), X)
    | none => some (.clo f (caps.map (xo env)), X)
  | .call _ _ => none
  | .dyn _ _ => none
  | .dynP _ _ => none

def okOp : AOp → Bool
  | .mv x | .box x | .load _ _ x | .loadR _ _ x | .nilc x | .not x | .neg x | .conv _ x | .cvs x | .fad _ x | .fld _ _ _ x | .ext x _ | .len x | .lenS x => okO x
  | .pick c a b => okO c && okO a && okO b
  | .alloc _ => true
  | .build _ ps => okParts ps
  | .bsl _ _ _ ps => okPartsE ps
  | .store _ x y | .bin _ x y | .beq _ x y | .eqa _ _ x y | .iad _ x y | .iada _ _ x y | .idx x y | .app _ x y | .mksl _ _ x y => okO x && okO y
  | .slcS x lo hi | .slcR _ x lo hi => okO x && okOo lo && okOo hi
  | .call _ args => args.all okO
  | .dyn x args | .dynP x args => okO x && args.all okO
  | .mkf _ args => args.all okO
  | .pv _ args => args.all okO

end Go.Abs

namespace Go.Abs
set_option linter.unusedSimpArgs false
open Go Go.RowKit

section
variable {k : Nat} {env : XEnv} {X X' : XHeap} {v : XV}

theorem objK_x {a : Nat} {o : XObj} (h : X[a]? = some (some o)) {K : AObj → Prop} (hk : K (o.ao k)) : objK (hf (Z k (heapA k X))) (k + a) K := by
  rw [z_obj]
  exact ⟨_, by simp [hf, heapA_get, h], hk⟩

theorem z_heap_len : (Z k (heapA k X)).length = k + X.length := by simp [z_len, heapA_len]
theorem z_heap_push (o : XObj) : Z k (heapA k X) ++ [some (o.ao k)] = Z k (heapA k (X ++ [some o])) := by
  rw [z_push, heapA_app]; rfl
theorem z_heap_set (a : Nat) (o : XObj) : (Z k (heapA k X)).set (k + a) (some (o.ao k)) = Z k (heapA k (X.set a (some o))) := by
  rw [z_set, ← heapA_set]; rfl
theorem z_heap_setn (a : Nat) : (Z k (heapA k X)).set (k + a) none = Z k (heapA k (X.set a none)) := by
  rw [z_set, ← heapA_set]; rfl

theorem zmap_av (z : List Value) : (z.map fun v => XV.p (zpv v)).map (XV.av k) = z.map zc := by
  simp [XV.av, zpv_av]

theorem ao_pu (es : Nat) (el : List (List PV)) : (XObj.pu es el).ao k = ⟨es, el.map (·.map PV.av)⟩ := rfl
theorem ao_mx (es : Nat) (el : List (List XV)) : (XObj.mx es el).ao k = ⟨es, el.map (·.map (XV.av k))⟩ := rfl
theorem pp_av (el : List (List PV)) : (el.map (·.map XV.p)).map (·.map (XV.av k)) = el.map (·.map PV.av) := by
  simp [List.map_map, Function.comp_def, XV.av]

theorem appK_x {es : Nat} {s : XV} {add : List (List XV)} {K : AV → List Upd → Prop} (h : xapp X es s add = some (v, X'))
    (hk : ∀ us, applyUs (Z k (heapA k X)) us = Z k (heapA k X') → K (v.av k) us) : appK es (s.av k) (add.map (·.map (XV.av k))) (hf (Z k (heapA k X))) (k + X.length) K := by
  have hall : ∀ {add : List (List XV)}, add.all (fun e => Nat.beq e.length es) = true → ∀ e ∈ add.map (·.map (XV.av k)), e.length = es := by
    intro add h e he
    obtain ⟨x, hx, rfl⟩ := List.mem_map.1 he
    simpa using List.all_eq_true.1 h x hx
  have hpp : ∀ {ps : List (List PV)}, allPP add = some ps → add.map (·.map (XV.av k)) = ps.map (·.map PV.av) := by
    intro ps hp
    rw [← xavss_map, allPP_av hp, avss_map]
  unfold xapp at h
  split at h
  · rename_i a off len
    simp only [XV.av, appK]
    split at h
    · rename_i es' el ho
      split at h
      · rename_i hc
        obtain ⟨h1, h2, h3, h4, h5⟩ := hc
        refine objK_x ho ⟨h1, by simpa [ao_pu] using h2, h3, by simpa [ao_pu] using h4, hall h5, ?_⟩
        split at h
        · rename_i ps hp
          injection h with h; injection h with e1 e2; subst e1; subst e2
          have := hk [.set (k + a) none, .push (some (XObj.ao k (.pu es (el ++ ps))))] (by simp only [applyUs, applyU]; rw [z_heap_setn, z_heap_push])
          have el' : add.length = ps.length := by have := congrArg List.length (hpp hp); simpa using this
          rw [el'] at this
          simpa [ao_pu, hpp hp, XV.av] using this
        · injection h with h; injection h with e1 e2; subst e1; subst e2
          have := hk [.set (k + a) none, .push (some (XObj.ao k (.mx es (el.map (·.map .p) ++ add))))] (by simp only [applyUs, applyU]; rw [z_heap_setn, z_heap_push])
          rw [ao_mx, List.map_append, pp_av] at this
          simpa [ao_pu, XV.av] using this
      · cases h
    · rename_i es' el ho
      split at h
      · rename_i hc
        obtain ⟨h1, h2, h3, h4, h5⟩ := hc
        refine objK_x ho ⟨h1, by simpa [ao_mx] using h2, h3, by simpa [ao_mx] using h4, hall h5, ?_⟩
        injection h with h; injection h with e1 e2; subst e1; subst e2
        have := hk [.set (k + a) none, .push (some (XObj.ao k (.mx es (el ++ add))))] (by simp only [applyUs, applyU]; rw [z_heap_setn, z_heap_push])
        simpa [ao_mx, XV.av] using this
      · cases h
    · cases h
  · simp only [XV.av, PV.av, appK]
    split at h
    · rename_i hc
      refine ⟨by simpa using hc.1, hall hc.2, ?_⟩
      split at h
      · rename_i ps hp
        injection h with h; injection h with e1 e2; subst e1; subst e2
        have := hk [.push (some (XObj.ao k (.pu es ps)))] (by simp only [applyUs, applyU]; rw [z_heap_push])
        have el' : add.length = ps.length := by have := congrArg List.length (hpp hp); simpa using this
        rw [el'] at this
        simpa [ao_pu, hpp hp, XV.av] using this
      · injection h with h; injection h with e1 e2; subst e1; subst e2
        have := hk [.push (some (XObj.ao k (.mx es add)))] (by simp only [applyUs, applyU]; rw [z_heap_push])
        simpa [ao_mx, XV.av] using this
    · cases h
  · cases h

theorem appK_xp {es : Nat} {s : XV} {add : List (List PV)} {K : AV → List Upd → Prop} (h : xappP X es s add = some (v, X'))
    (hk : ∀ us, applyUs (Z k (heapA k X)) us = Z k (heapA k X') → K (v.av k) us) : appK es (s.av k) (add.map (·.map PV.av)) (hf (Z k (heapA k X))) (k + X.length) K := by
  have hall : (∀ e ∈ add, e.length = es) → ∀ e ∈ add.map (·.map PV.av), e.length = es := by
    intro h e he
    obtain ⟨x, hx, rfl⟩ := List.mem_map.1 he
    simpa using h x hx
  unfold xappP at h
  split at h
  · rename_i a off len
    simp only [XV.av, appK]
    split at h
    · rename_i es' el ho
      split at h
      · rename_i hc
        obtain ⟨h1, h2, h3, h4, h5⟩ := hc
        refine objK_x ho ⟨h1, by simpa [ao_pu] using h2, h3, by simpa [ao_pu] using h4, hall h5, ?_⟩
        injection h with h; injection h with e1 e2; subst e1; subst e2
        have := hk [.set (k + a) none, .push (some (XObj.ao k (.pu es (el ++ add))))] (by simp only [applyUs, applyU]; rw [z_heap_setn, z_heap_push])
        simpa [ao_pu, XV.av] using this
      · cases h
    · rename_i es' el ho
      split at h
      · rename_i hc
        obtain ⟨h1, h2, h3, h4, h5⟩ := hc
        refine objK_x ho ⟨h1, by simpa [ao_mx] using h2, h3, by simpa [ao_mx] using h4, hall h5, ?_⟩
        injection h with h; injection h with e1 e2; subst e1; subst e2
        have := hk [.set (k + a) none, .push (some (XObj.ao k (.mx es (el ++ add.map (·.map .p)))))] (by simp only [applyUs, applyU]; rw [z_heap_setn, z_heap_push])
        rw [ao_mx, List.map_append, pp_av] at this
        simpa [ao_mx, XV.av] using this
      · cases h
    · cases h
  · simp only [XV.av, PV.av, appK]
    split at h
    · rename_i hc
      refine ⟨by simpa using hc.1, hall hc.2, ?_⟩
      injection h with h; injection h with e1 e2; subst e1; subst e2
      have := hk [.push (some (XObj.ao k (.pu es add)))] (by simp only [applyUs, applyU]; rw [z_heap_push])
      simpa [ao_pu, XV.av] using this
    · cases h
  · cases h

theorem xG_ok {op : AOp} {K : AV → List Upd → Prop} (ho : okOp op = true) (h : xG op env X = some (v, X'))
    (hk : ∀ us, applyUs (Z k (heapA k X)) us = Z k (heapA k X') → K (v.av k) us) : evG op (envA k env) (hf (Z k (heapA k X))) (k + X.length) K := by
  have same : X' = X → K (v.av k) [] := fun e => hk [] (by simp [applyUs, e])
  cases op with
  | pv p xs =>
    have e : xs.map (opd (envA k env)) = (xs.map (xo env)).map (XV.av k) := by
      rw [List.map_map]
      refine List.map_congr_left (fun x hx => ?_)
      exact xo_av (List.all_eq_true.1 (show xs.all okO = true from ho) x hx)
    simp only [xG] at h
    split at h
    · rename_i r hr
      injection h with h; injection h with e1 e2; subst e1; subst e2
      exact ⟨r.av k, by rw [e]; exact pvX_ok hr, same rfl⟩
    · cases h
  | mv x =>
    simp only [xG] at h; injection h with h; injection h with e1 e2; subst e1; subst e2
    simp only [evG, opK, xo_av (k := k) (env := env) (show okO x = true from ho)]; exact same rfl
  | pick c a b =>
    simp only [okOp, Bool.and_eq_true] at ho
    simp only [xG] at h
    split at h
    · rename_i t hc
      injection h with h; injection h with e1 e2; subst e1; subst e2
      simp only [evG, opK, xo_av (k := k) (env := env) ho.1.1, xo_av (k := k) (env := env) ho.1.2, xo_av (k := k) (env := env) ho.2, hc, XV.av, PV.av]
      refine ⟨t, rfl, fun ht => ?_, fun ht => ?_⟩
      · subst ht; exact same rfl
      · subst ht; exact same rfl
    · cases h
  | box x =>
    simp only [xG] at h
    split at h
    · rename_i cs hc
      split at h
      · rename_i hl
        injection h with h; injection h with e1 e2; subst e1; subst e2
        simp only [evG, opK, xo_av (k := k) (env := env) (show okO x = true from ho)]
        refine ⟨_, xcells_av hc, by simpa using hl.1, by simpa using hl.2, ?_⟩
        have := hk [.push (some (XObj.ao k (.mx cs.length [cs])))] (by simp only [applyUs, applyU]; rw [z_heap_push])
        simpa [ao_mx, XV.av] using this
      · cases h
    · cases h
  | alloc z =>
    simp only [xG] at h; injection h with h; injection h with e1 e2; subst e1; subst e2
    have := hk [.push (some (XObj.ao k (.mx z.length [z.map fun v => .p (zpv v)])))] (by simp only [applyUs, applyU]; rw [z_heap_push])
    rw [ao_mx, List.map_singleton, zmap_av] at this
    exact this
  | build z parts =>
    simp only [xG] at h
    split at h
    · rename_i cs hc
      injection h with h; injection h with e1 e2; subst e1; subst e2
      have := xfill_ok (k := k) (K := fun cs => K (.agg cs) []) (show okParts parts = true from ho) hc (by rw [← xagg_av]; exact same rfl)
      rw [zmap_av] at this
      exact this
    · cases h
  | bsl es z n parts =>
    simp only [xG] at h
    have key : ∀ l, xfillE es (List.replicate n (z.map fun v => .p (zpv v))) env parts = some l → K (match l.map (·.map (XV.av k)) with | [] => .emp | _ => .rd es (l.map (·.map (XV.av k)))) [] →
        evG (.bsl es z n parts) (envA k env) (hf (Z k (heapA k X))) (k + X.length) K := by
      intro l hl hK
      have := xfillE_ok (k := k) (K := fun l => K (match l with | [] => .emp | _ => .rd es l) []) (show okPartsE parts = true from ho) hl (by
        revert hK; cases l.map (·.map (XV.av k)) <;> exact id)
      rw [List.map_replicate, zmap_av] at this
      exact this
    split at h
    · rename_i hl
      injection h with h; injection h with e1 e2; subst e1; subst e2
      exact key _ hl (same rfl)
    · rename_i l hne hl
      injection h with h; injection h with e1 e2; subst e1; subst e2
      refine key _ hl ?_
      have := same rfl
      rw [xrd_av] at this
      cases l with
      | nil => exact absurd rfl hne
      | cons a r => simpa using this
    · cases h
  | load g n x =>
    simp only [xG] at h
    split at h
    · rename_i cs hx
      split at h
      · rename_i a hl
        injection h with h; injection h with e1 e2; subst e1; subst e2
        simp only [evG, opK, xo_av (k := k) (env := env) (show okO x = true from ho), hx, XV.av, PV.av]
        exact loadP_ok hl (same rfl)
      · cases h
    · rename_i a i j hx
      simp only [evG, opK, xo_av (k := k) (env := env) (show okO x = true from ho), hx, XV.av]
      split at h
      · rename_i es el hobj
        split at h
        · rename_i e he
          split at h
          · rename_i a hl
            injection h with h; injection h with e1 e2; subst e1; subst e2
            refine objK_x hobj ⟨e.map PV.av, by simp [ao_pu, he], ?_⟩
            have := loadP_ok hl (K := fun a => K a []) (same rfl)
            rwa [avs_map, List.map_drop] at this
          · cases h
        · cases h
      · rename_i es el hobj
        split at h
        · rename_i e he
          split at h
          · rename_i a hl
            injection h with h; injection h with e1 e2; subst e1; subst e2
            refine objK_x hobj ⟨e.map (XV.av k), by simp [ao_mx, he], ?_⟩
            have := loadX_ok (k := k) hl (K := fun a => K a []) (same rfl)
            rwa [List.map_drop] at this
          · cases h
        · cases h
      · cases h
    · cases h
  | loadR g n x =>
    simp only [xG] at h
    split at h
    · rename_i cs hx
      split at h
      · rename_i a hl
        injection h with h; injection h with e1 e2; subst e1; subst e2
        simp only [evG, opK, xo_av (k := k) (env := env) (show okO x = true from ho), hx, XV.av, PV.av]
        exact loadP_ok hl (same rfl)
      · cases h
    · cases h
  | store n x y =>
    simp only [okOp, Bool.and_eq_true] at ho
    simp only [xG] at h
    split at h
    · rename_i a i j cs hx hy
      simp only [evG, opK, xo_av (k := k) (env := env) ho.1, xo_av (k := k) (env := env) ho.2, hx, XV.av]
      split at h
      · rename_i es el hobj
        split at h
        · rename_i e he
          split at h
          · rename_i hc
            have hc2 : j + n ≤ (e.map PV.av).length := by simpa using hc.2
            have hc1 : (cs.map (XV.av k)).length = n := by simpa using hc.1
            split at h
            · rename_i ps hp
              injection h with h; injection h with e1 e2; subst e1; subst e2
              refine objK_x hobj ⟨e.map PV.av, by simp [ao_pu, he], cs.map (XV.av k), xcells_av hy, hc1, hc2, ?_⟩
              have := hk [.set (k + a) (some (XObj.ao k (.pu es (el.set i (spliceG e j ps)))))] (by simp only [applyUs, applyU]; rw [z_heap_set])
              rw [ao_pu, List.map_set, splice_map, ← avs_map ps, ← (allP_av (k := k) hp).2, xavs_map] at this
              exact this
            · injection h with h; injection h with e1 e2; subst e1; subst e2
              refine objK_x hobj ⟨e.map PV.av, by simp [ao_pu, he], cs.map (XV.av k), xcells_av hy, hc1, hc2, ?_⟩
              have := hk [.set (k + a) (some (XObj.ao k (.mx es ((el.map (·.map .p)).set i (spliceG (e.map .p) j cs)))))] (by simp only [applyUs, applyU]; rw [z_heap_set])
              rw [ao_mx, List.map_set, splice_map, pp_av, map_p_av] at this
              exact this
          · cases h
        · cases h
      · rename_i es el hobj
        split at h
        · rename_i e he
          split at h
          · rename_i hc
            injection h with h; injection h with e1 e2; subst e1; subst e2
            refine objK_x hobj ⟨e.map (XV.av k), by simp [ao_mx, he], cs.map (XV.av k), xcells_av hy, by simpa using hc.1, by simpa using hc.2, ?_⟩
            have := hk [.set (k + a) (some (XObj.ao k (.mx es (el.set i (spliceG e j cs)))))] (by simp only [applyUs, applyU]; rw [z_heap_set])
            rw [ao_mx, List.map_set, splice_map] at this
            exact this
          · cases h
        · cases h
      · cases h
    · cases h
  | nilc x =>
    simp only [xG] at h
    simp only [evG, opK, xo_av (k := k) (env := env) (show okO x = true from ho)]
    split at h <;> first
      | (rename_i hx; injection h with h; injection h with e1 e2; subst e1; subst e2; rw [hx]; simp only [XV.av, PV.av]; exact same rfl)
      | cases h
  | bin bop x y =>
    simp only [okOp, Bool.and_eq_true] at ho
    simp only [xG] at h
    split at h
    · rename_i a b hx hy
      split at h
      · rename_i r hr
        injection h with h; injection h with e1 e2; subst e1; subst e2
        simp only [evG, opK, xo_av (k := k) (env := env) ho.1, xo_av (k := k) (env := env) ho.2, hx, hy, XV.av, PV.av]
        exact xbin_ok hr (same rfl)
      · cases h
    · cases h
  | beq ng x y =>
    simp only [okOp, Bool.and_eq_true] at ho
    simp only [xG] at h
    split at h
    · rename_i s t hx hy
      injection h with h; injection h with e1 e2; subst e1; subst e2
      simp only [evG, opK, xo_av (k := k) (env := env) ho.1, xo_av (k := k) (env := env) ho.2, hx, hy, XV.av, PV.av]
      exact ⟨s, rfl, t, rfl, same rfl⟩
    · cases h
  | eqa ng ks x y =>
    simp only [okOp, Bool.and_eq_true] at ho
    simp only [xG] at h
    split at h
    · rename_i cs ds hx hy
      split at h
      · rename_i r hr
        injection h with h; injection h with e1 e2; subst e1; subst e2
        simp only [evG, opK, xo_av (k := k) (env := env) ho.1, xo_av (k := k) (env := env) ho.2, hx, hy, XV.av, PV.av]
        exact ⟨_, _, r, rfl, rfl, eqP_ok hr, same rfl⟩
      · cases h
    · cases h
  | not x =>
    simp only [xG] at h
    split at h
    · rename_i b hx
      injection h with h; injection h with e1 e2; subst e1; subst e2
      simp only [evG, opK, xo_av (k := k) (env := env) (show okO x = true from ho), hx, XV.av, PV.av]
      exact ⟨b, rfl, same rfl⟩
    · cases h
  | neg x =>
    simp only [xG] at h
    split at h
    · rename_i kk n hx
      injection h with h; injection h with e1 e2; subst e1; subst e2
      simp only [evG, opK, xo_av (k := k) (env := env) (show okO x = true from ho), hx, XV.av, PV.av]
      exact ⟨kk, n, rfl, same rfl⟩
    · cases h
  | conv kd x =>
    simp only [xG] at h
    split at h
    · rename_i kk n hx
      injection h with h; injection h with e1 e2; subst e1; subst e2
      simp only [evG, opK, xo_av (k := k) (env := env) (show okO x = true from ho), hx, XV.av, PV.av]
      exact ⟨kk, n, rfl, same rfl⟩
    · cases h
  | cvs x =>
    simp only [xG] at h
    split at h
    · rename_i s hx
      injection h with h; injection h with e1 e2; subst e1; subst e2
      simp only [evG, opK, xo_av (k := k) (env := env) (show okO x = true from ho), hx, XV.av, PV.av]
      exact ⟨s, rfl, same rfl⟩
    · cases h
  | fad off x =>
    simp only [xG] at h
    split at h
    · rename_i cs hx
      injection h with h; injection h with e1 e2; subst e1; subst e2
      simp only [evG, opK, xo_av (k := k) (env := env) (show okO x = true from ho), hx, XV.av, PV.av]
      have := same rfl
      simpa [XV.av, PV.av, avs_map, List.map_drop] using this
    · rename_i a i j hx
      injection h with h; injection h with e1 e2; subst e1; subst e2
      simp only [evG, opK, xo_av (k := k) (env := env) (show okO x = true from ho), hx, XV.av, PV.av]
      exact same rfl
    · cases h
  | fld g off n x =>
    simp only [xG] at h
    split at h
    · rename_i cs hx
      split at h
      · rename_i hle
        split at h
        · rename_i a hl
          injection h with h; injection h with e1 e2; subst e1; subst e2
          simp only [evG, opK, xo_av (k := k) (env := env) (show okO x = true from ho), hx, XV.av, PV.av]
          refine ⟨_, rfl, by simpa [avs_map] using hle, ?_⟩
          have := loadP_ok hl (K := fun a => K a []) (same rfl)
          rwa [avs_map, List.map_drop, ← avs_map] at this
        · cases h
      · cases h
    · rename_i cs hx
      split at h
      · rename_i hle
        split at h
        · rename_i a hl
          injection h with h; injection h with e1 e2; subst e1; subst e2
          simp only [evG, opK, xo_av (k := k) (env := env) (show okO x = true from ho), hx, XV.av, xavs_map]
          refine ⟨_, rfl, by simpa using hle, ?_⟩
          have := loadX_ok (k := k) hl (K := fun a => K a []) (same rfl)
          rwa [List.map_drop] at this
        · cases h
      · cases h
    · cases h
  | iad es x i =>
    simp only [okOp, Bool.and_eq_true] at ho
    simp only [xG] at h
    split at h
    · rename_i es' l kk n hx hi
      split at h
      · rename_i hc
        split at h
        · rename_i e he
          injection h with h; injection h with e1 e2; subst e1; subst e2
          simp only [evG, opK, xo_av (k := k) (env := env) ho.1, xo_av (k := k) (env := env) ho.2, hx, hi, XV.av, PV.av]
          refine ⟨kk, n, rfl, hc.1, hc.2, PV.avs e, by simp [avss_map, he, avs_map], same rfl⟩
        · cases h
      · cases h
    · rename_i a off len kk n hx hi
      simp only [evG, opK, xo_av (k := k) (env := env) ho.1, xo_av (k := k) (env := env) ho.2, hx, hi, XV.av, PV.av]
      refine ⟨kk, n, rfl, ?_⟩
      split at h
      · rename_i es' el hobj
        split at h
        · rename_i hc
          injection h with h; injection h with e1 e2; subst e1; subst e2
          exact objK_x hobj ⟨hc.1, by simpa [ao_pu] using hc.2.1, hc.2.2.1, hc.2.2.2, same rfl⟩
        · cases h
      · rename_i es' el hobj
        split at h
        · rename_i hc
          injection h with h; injection h with e1 e2; subst e1; subst e2
          exact objK_x hobj ⟨hc.1, by simpa [ao_mx] using hc.2.1, hc.2.2.1, hc.2.2.2, same rfl⟩
        · cases h
      · cases h
    · cases h
  | iada es len x i =>
    simp only [okOp, Bool.and_eq_true] at ho
    simp only [xG] at h
    split at h
    · rename_i cs kk n hx hi
      split at h
      · rename_i hc
        injection h with h; injection h with e1 e2; subst e1; subst e2
        simp only [evG, opK, xo_av (k := k) (env := env) ho.1, xo_av (k := k) (env := env) ho.2, hx, hi, XV.av, PV.av]
        refine ⟨kk, n, rfl, hc.1, hc.2, ?_⟩
        have := same rfl
        simpa [XV.av, PV.av, avs_map, List.map_drop] using this
      · cases h
    · rename_i a i' j kk n hx hi
      split at h
      · rename_i hc
        injection h with h; injection h with e1 e2; subst e1; subst e2
        simp only [evG, opK, xo_av (k := k) (env := env) ho.1, xo_av (k := k) (env := env) ho.2, hx, hi, XV.av, PV.av]
        exact ⟨kk, n, rfl, hc.1, hc.2, same rfl⟩
      · cases h
    · cases h
  | idx x i =>
    simp only [okOp, Bool.and_eq_true] at ho
    simp only [xG] at h
    split at h
    · rename_i s kk n hx hi
      split at h
      · rename_i hc
        split at h
        · rename_i b hb
          injection h with h; injection h with e1 e2; subst e1; subst e2
          simp only [evG, opK, xo_av (k := k) (env := env) ho.1, xo_av (k := k) (env := env) ho.2, hx, hi, XV.av, PV.av]
          exact ⟨s, rfl, kk, n, rfl, hc, b, hb, same rfl⟩
        · cases h
      · cases h
    · cases h
  | slcS x lo hi =>
    simp only [okOp, Bool.and_eq_true] at ho
    simp only [xG] at h
    split at h
    · rename_i s hx
      split at h
      · rename_i l hh hl1 hl2
        split at h
        · rename_i hc
          injection h with h; injection h with e1 e2; subst e1; subst e2
          simp only [evG, opK, xo_av (k := k) (env := env) ho.1.1, hx, XV.av, PV.av]
          exact ⟨s, rfl, xsb_ok ho.1.2 hl1 (xsb_ok ho.2 hl2 ⟨hc.1, hc.2, same rfl⟩)⟩
        · cases h
      · cases h
    · cases h
  | slcR es0 x lo hi =>
    simp only [okOp, Bool.and_eq_true] at ho
    simp only [xG] at h
    split at h
    · rename_i es l hx
      split at h
      · rename_i i hh hl1 hl2
        split at h
        · rename_i hc
          injection h with h; injection h with e1 e2; subst e1; subst e2
          simp only [evG, opK, xo_av (k := k) (env := env) ho.1.1, hx, XV.av, PV.av]
          refine ⟨hc.1, xsb_ok ho.1.2 hl1 ?_⟩
          have h2 : (PV.avss l).length = l.length := by simp [avss_map]
          rw [h2]
          refine xsb_ok ho.2 hl2 ⟨hc.2.1, hc.2.2, ?_⟩
          have := same rfl
          simpa [XV.av, PV.av, avss_map, List.map_drop, List.map_take] using this
        · cases h
      · cases h
    · rename_i a off len hx
      split at h
      · rename_i i hh hl1 hl2
        split at h
        · rename_i hc
          injection h with h; injection h with e1 e2; subst e1; subst e2
          simp only [evG, opK, xo_av (k := k) (env := env) ho.1.1, hx, XV.av, PV.av]
          exact xsb_ok ho.1.2 hl1 (xsb_ok ho.2 hl2 ⟨hc.1, hc.2, same rfl⟩)
        · cases h
      · cases h
    · rename_i hx
      split at h
      · rename_i i hh hl1 hl2
        split at h
        · rename_i hc
          injection h with h; injection h with e1 e2; subst e1; subst e2
          simp only [evG, opK, xo_av (k := k) (env := env) ho.1.1, hx, XV.av, PV.av]
          exact xsb_ok ho.1.2 hl1 (xsb_ok ho.2 hl2 ⟨hc.1, hc.2, same rfl⟩)
        · cases h
      · cases h
    · cases h
  | ext x i =>
    simp only [xG] at h
    split at h
    · rename_i l hx
      split at h
      · rename_i b hb
        injection h with h; injection h with e1 e2; subst e1; subst e2
        simp only [evG, opK, xo_av (k := k) (env := env) (show okO x = true from ho), hx, XV.av, PV.av]
        exact ⟨_, rfl, b.av, by simp [avs_map, hb], same rfl⟩
      · cases h
    · rename_i l hx
      split at h
      · rename_i b hb
        injection h with h; injection h with e1 e2; subst e1; subst e2
        simp only [evG, opK, xo_av (k := k) (env := env) (show okO x = true from ho), hx, XV.av]
        exact ⟨_, rfl, b.av k, by simp [xavs_map, hb], same rfl⟩
      · cases h
    · cases h
  | lenS x =>
    simp only [xG] at h
    split at h
    · rename_i s hx
      injection h with h; injection h with e1 e2; subst e1; subst e2
      simp only [evG, opK, xo_av (k := k) (env := env) (show okO x = true from ho), hx, XV.av, PV.av]
      exact ⟨s, rfl, same rfl⟩
    · cases h
  | len x =>
    simp only [xG] at h
    simp only [evG, opK, xo_av (k := k) (env := env) (show okO x = true from ho)]
    split at h
    · rename_i es l hx
      injection h with h; injection h with e1 e2; subst e1; subst e2
      rw [hx]; simp only [XV.av, PV.av]
      have h2 : (PV.avss l).length = l.length := by simp [avss_map]
      rw [h2]; exact same rfl
    · rename_i es l hx
      injection h with h; injection h with e1 e2; subst e1; subst e2
      rw [hx]; simp only [XV.av]
      have h2 : (XV.avss k l).length = l.length := by simp [xavss_map]
      rw [h2]; exact same rfl
    · rename_i hx
      injection h with h; injection h with e1 e2; subst e1; subst e2
      rw [hx]; simp only [XV.av]; exact same rfl
    · rename_i hx
      injection h with h; injection h with e1 e2; subst e1; subst e2
      rw [hx]; simp only [XV.av, PV.av]; exact same rfl
    · cases h
  | app es s x =>
    simp only [okOp, Bool.and_eq_true] at ho
    simp only [xG] at h
    simp only [evG, opK, xo_av (k := k) (env := env) ho.1, xo_av (k := k) (env := env) ho.2]
    split at h
    · rename_i es' l hx
      split at h
      · rename_i he
        rw [hx]; simp only [XV.av, PV.av, avss_map]
        exact ⟨he, appK_xp h hk⟩
      · cases h
    · rename_i es' l hx
      split at h
      · rename_i he
        rw [hx]; simp only [XV.av, xavss_map]
        exact ⟨he, appK_x h hk⟩
      · cases h
    · rename_i hx
      rw [hx]; simp only [XV.av, PV.av]
      exact appK_xp (add := []) h hk
    · cases h
  | mksl es z n c =>
    simp only [okOp, Bool.and_eq_true] at ho
    simp only [xG] at h
    split at h
    · rename_i kn n' kc c' hn hc
      split at h
      · rename_i hb
        injection h with h; injection h with e1 e2; subst e1; subst e2
        simp only [evG, opK, xo_av (k := k) (env := env) ho.1, xo_av (k := k) (env := env) ho.2, hn, hc, XV.av, PV.av]
        refine ⟨kn, n', rfl, kc, c', rfl, hb.1, hb.2.1, hb.2.2, ?_⟩
        have := hk [.push (some (XObj.ao k (.pu es (List.replicate n'.toNat (z.map zpv)))))] (by simp only [applyUs, applyU]; rw [z_heap_push])
        rw [ao_pu, List.map_replicate, List.map_map] at this
        have e : z.map (PV.av ∘ zpv) = z.map zc := by simp [Function.comp_def, zpv_av]
        rw [e] at this
        exact this
      · cases h
    · cases h
  | mkf f caps =>
    have e : caps.map (opd (envA k env)) = (caps.map (xo env)).map (XV.av k) := by
      rw [List.map_map]
      refine List.map_congr_left (fun x hx => ?_)
      exact xo_av (List.all_eq_true.1 (show caps.all okO = true from ho) x hx)
    simp only [xG] at h
    show K (.clo f (caps.map (opd (envA k env)))) []
    rw [e, ← xavs_map]
    split at h
    · rename_i ps hp
      injection h with h; injection h with e1 e2; subst e1; subst e2
      have := same rfl
      rw [(allP_av (k := k) hp).2]; exact this
    · injection h with h; injection h with e1 e2; subst e1; subst e2
      exact same rfl
  | call f args => cases h
  | dyn x args => cases h
  | dynP x args => cases h

end
end Go.Abs

namespace Go.Abs
set_option linter.unusedSimpArgs false
open Go Go.RowKit

/-- The form of a value: 'sl': a slice; 'ag': a struct or a tuple. -/
inductive Sh where
  | k
  | sl (es : Nat) (cells : List Sh)
  | ag (cells : List Sh)
  deriving Inhabited

mutual
def co : Sh → PV → PV
  | .k, p => p
  | .sl es cs, p => match p with
    | .emp => .rd es []
    | .rd es' l => match cs with
      | [] => .rd es' l
      | _ :: _ => .rd es' (l.map fun e => coL cs e)
    | p => p
  | .ag ss, p => match p with
    | .agg cs => .agg (coL ss cs)
    | .tup cs => .tup (coL ss cs)
    | p => p
def coL : List Sh → List PV → List PV
  | [], ps => ps
  | s :: ss, ps => match ps with
    | p :: ps => co s p :: coL ss ps
    | [] => []
end

theorem coe_list {cs cs' : List PV} (hl : cs.length = cs'.length) (h : ∀ (j : Nat) (x x' : PV), cs[j]? = some x → cs'[j]? = some x' → Coe x.av x'.av) :
    (PV.avs cs).length = (PV.avs cs').length ∧ ∀ (j : Nat) (x x' : AV), (PV.avs cs)[j]? = some x → (PV.avs cs')[j]? = some x' → Coe x x' := by
  refine ⟨by simp [avs_map, hl], fun j x x' h1 h2 => ?_⟩
  simp only [avs_map, List.getElem?_map, Option.map_eq_some_iff] at h1 h2
  obtain ⟨y, h1, rfl⟩ := h1
  obtain ⟨y', h2, rfl⟩ := h2
  exact h j y y' h1 h2

mutual
theorem co_coe : ∀ (s : Sh) (p : PV), Coe p.av (co s p).av
  | .k, p => by simp only [co]; exact .refl _
  | .sl es cs, p => by
    simp only [co]
    split
    · simp only [PV.av, PV.avss]; exact .empRd es
    · rename_i es' l
      split
      · exact .refl _
      · rename_i c r
        simp only [PV.av, avss_map, List.map_map]
        refine .rd es' _ _ (by simp) (fun i e e' h1 h2 => ?_) (fun i e e' j x x' h1 h2 h3 h4 => ?_)
        · simp only [List.getElem?_map, Option.map_eq_some_iff] at h1 h2
          obtain ⟨y, h1, rfl⟩ := h1
          obtain ⟨y', h2, rfl⟩ := h2
          rw [h1] at h2; injection h2 with h2; subst h2
          simp [(coL_coe (c :: r) y).1]
        · simp only [List.getElem?_map, Option.map_eq_some_iff] at h1 h2
          obtain ⟨y, h1, rfl⟩ := h1
          obtain ⟨y', h2, rfl⟩ := h2
          rw [h1] at h2; injection h2 with h2; subst h2
          simp only [Function.comp, List.getElem?_map, Option.map_eq_some_iff] at h3 h4
          obtain ⟨z, h3, rfl⟩ := h3
          obtain ⟨z', h4, rfl⟩ := h4
          exact (coL_coe (c :: r) y).2 j z z' h3 h4
    · exact .refl _
  | .ag ss, p => by
    simp only [co]
    split
    · rename_i cs
      have h := coL_coe ss cs
      have h2 := coe_list h.1.symm h.2
      simp only [PV.av]; exact .agg _ _ h2.1 h2.2
    · rename_i cs
      have h := coL_coe ss cs
      have h2 := coe_list h.1.symm h.2
      simp only [PV.av]; exact .tup _ _ h2.1 h2.2
    · exact .refl _
theorem coL_coe : ∀ (ss : List Sh) (ps : List PV), (coL ss ps).length = ps.length ∧ ∀ (j : Nat) (x x' : PV), ps[j]? = some x → (coL ss ps)[j]? = some x' → Coe x.av x'.av
  | [], ps => by
    simp only [coL]
    refine ⟨trivial, fun j x x' h1 h2 => ?_⟩
    rw [h1] at h2; injection h2 with h2; subst h2; exact .refl _
  | s :: ss, ps => by
    simp only [coL]
    cases ps with
    | nil => exact ⟨rfl, fun j x x' h1 => by simp at h1⟩
    | cons p ps =>
      have h := coL_coe ss ps
      refine ⟨by simp [h.1], fun j x x' h1 h2 => ?_⟩
      cases j with
      | zero => simp at h1 h2; subst h1; subst h2; exact co_coe s p
      | succ j => simp at h1 h2; exact h.2 j x x' h1 h2
end

/-- The same for a value of a run. -/
def coX (s : Sh) : XV → XV
  | .p x => .p (co s x)
  | a => a

theorem coX_coe (k : Nat) (s : Sh) (a : XV) : Coe (a.av k) ((coX s a).av k) := by
  cases a <;> simp only [coX, XV.av] <;> first | exact co_coe _ _ | exact .refl _

def coXL : List Sh → List XV → List XV
  | s :: ss, a :: as => coX s a :: coXL ss as
  | _, as => as

theorem coXL_coe (k : Nat) : ∀ (ss : List Sh) (as : List XV), All2 Coe (as.map (XV.av k)) ((coXL ss as).map (XV.av k))
  | [], as => by simp only [coXL]; exact all2_refl _
  | _ :: _, [] => by simp [coXL, All2]
  | s :: ss, a :: as => by
    simp only [coXL, List.map_cons, All2]
    exact ⟨coX_coe k s a, coXL_coe k ss as⟩

/-! Freezing -/

def mapF (f : XV → Option (PV × List Nat)) : List XV → Option (List PV × List Nat)
  | [] => some ([], [])
  | a :: r => match f a with
    | some (x, F) => match mapF f r with
      | some (xs, G) => some (x :: xs, F ++ G)
      | none => none
    | none => none
def mapFF (f : XV → Option (PV × List Nat)) : List (List XV) → Option (List (List PV) × List Nat)
  | [] => some ([], [])
  | a :: r => match mapF f a with
    | some (x, F) => match mapFF f r with
      | some (xs, G) => some (x :: xs, F ++ G)
      | none => none
    | none => none

def frzV : Nat → XHeap → XV → Option (PV × List Nat)
  | d, X, v => match v with
    | .p x => some (x, [])
    | .ref a off len => match X[a]? with
      | some (some (.pu es el)) => if off + len ≤ el.length then some (.rd es ((el.drop off).take len), [a]) else none
      | some (some (.mx es el)) => match d with
        | 0 => none
        | d + 1 => if off + len ≤ el.length then match mapFF (frzV d X) ((el.drop off).take len) with
            | some (l, F) => some (.rd es l, a :: F)
            | none => none
          else none
      | _ => none
    | .rdx es l => match d with
      | 0 => none
      | d + 1 => match mapFF (frzV d X) l with
        | some (l, F) => some (.rd es l, F)
        | none => none
    | .agg cs => match d with
      | 0 => none
      | d + 1 => match mapF (frzV d X) cs with
        | some (cs, F) => some (.agg cs, F)
        | none => none
    | .tup cs => match d with
      | 0 => none
      | d + 1 => match mapF (frzV d X) cs with
        | some (cs, F) => some (.tup cs, F)
        | none => none
    | .clo f cs => match d with
      | 0 => none
      | d + 1 => match mapF (frzV d X) cs with
        | some (cs, F) => some (.clo f cs, F)
        | none => none
    | _ => none

section
variable {ρ : Nat → Nat} {Fz : Nat → Prop} {H' : HF} {k : Nat} {X : XHeap}

def FrzOK (ρ : Nat → Nat) (Fz : Nat → Prop) (H' : HF) (k : Nat) (X : XHeap) (f : XV → Option (PV × List Nat)) : Prop :=
  ∀ v p F, f v = some (p, F) → (∀ a ∈ F, Fz (k + a)) → Cz ρ Fz (hf (Z k (heapA k X))) H' (v.av k) p.av

theorem mapF_ok {f : XV → Option (PV × List Nat)} (hf' : FrzOK ρ Fz H' k X f) : ∀ {l : List XV} {ps : List PV} {F : List Nat}, mapF f l = some (ps, F) → (∀ a ∈ F, Fz (k + a)) →
    l.length = ps.length ∧ ∀ (j : Nat) (x : XV) (y : PV), l[j]? = some x → ps[j]? = some y → Cz ρ Fz (hf (Z k (heapA k X))) H' (x.av k) y.av
  | [], ps, F, h, _ => by
    simp only [mapF] at h; injection h with h; injection h with h _; subst h
    exact ⟨rfl, fun j x y h1 => by simp at h1⟩
  | a :: r, ps, F, h, hF => by
    simp only [mapF] at h
    split at h
    · rename_i x F1 h1
      split at h
      · rename_i xs G h2
        injection h with h; injection h with e1 e2; subst e1; subst e2
        obtain ⟨k1, k2⟩ := mapF_ok hf' h2 (fun a ha => hF a (List.mem_append_right _ ha))
        refine ⟨by simp [k1], fun j u0 y hu hy => ?_⟩
        cases j with
        | zero => simp at hu hy; subst hu; subst hy; exact hf' _ _ _ h1 (fun a ha => hF a (List.mem_append_left _ ha))
        | succ j => simp at hu hy; exact k2 j u0 y hu hy
      · cases h
    · cases h

theorem mapFF_ok {f : XV → Option (PV × List Nat)} (hf' : FrzOK ρ Fz H' k X f) : ∀ {l : List (List XV)} {ps : List (List PV)} {F : List Nat}, mapFF f l = some (ps, F) → (∀ a ∈ F, Fz (k + a)) →
    l.length = ps.length ∧ ∀ (i : Nat) (e : List XV) (e' : List PV), l[i]? = some e → ps[i]? = some e' → e.length = e'.length ∧
      ∀ (j : Nat) (x : XV) (y : PV), e[j]? = some x → e'[j]? = some y → Cz ρ Fz (hf (Z k (heapA k X))) H' (x.av k) y.av
  | [], ps, F, h, _ => by
    simp only [mapFF] at h; injection h with h; injection h with h _; subst h
    exact ⟨rfl, fun j x y h1 => by simp at h1⟩
  | a :: r, ps, F, h, hF => by
    simp only [mapFF] at h
    split at h
    · rename_i x F1 h1
      split at h
      · rename_i xs G h2
        injection h with h; injection h with e1 e2; subst e1; subst e2
        obtain ⟨k1, k2⟩ := mapFF_ok hf' h2 (fun a ha => hF a (List.mem_append_right _ ha))
        refine ⟨by simp [k1], fun j u0 y hu hy => ?_⟩
        cases j with
        | zero => simp at hu hy; subst hu; subst hy; exact mapF_ok hf' h1 (fun a ha => hF a (List.mem_append_left _ ha))
        | succ j => simp at hu hy; exact k2 j u0 y hu hy
      · cases h
    · cases h

theorem cz_cells {cs : List XV} {ps : List PV} (h : cs.length = ps.length ∧ ∀ (j : Nat) (x : XV) (y : PV), cs[j]? = some x → ps[j]? = some y → Cz ρ Fz (hf (Z k (heapA k X))) H' (x.av k) y.av) :
    (XV.avs k cs).length = (PV.avs ps).length ∧ ∀ (j : Nat) (x x' : AV), (XV.avs k cs)[j]? = some x → (PV.avs ps)[j]? = some x' → Cz ρ Fz (hf (Z k (heapA k X))) H' x x' := by
  refine ⟨by simp [avs_map, xavs_map, h.1], fun j x x' h1 h2 => ?_⟩
  simp only [avs_map, xavs_map, List.getElem?_map, Option.map_eq_some_iff] at h1 h2
  obtain ⟨y, h1, rfl⟩ := h1
  obtain ⟨y', h2, rfl⟩ := h2
  exact h.2 j y y' h1 h2

theorem cz_pv (p : PV) {H : HF} : Cz ρ Fz H H' p.av p.av := cz_coe (nr_av p)

theorem sub_get {α : Type} {el : List α} {off len i : Nat} {e : α} (h : ((el.drop off).take len)[i]? = some e) : el[off + i]? = some e := by
  rw [List.getElem?_take] at h
  split at h
  · rwa [List.getElem?_drop] at h
  · cases h
theorem sub_get' {α : Type} {el : List α} {off len i : Nat} {e : α} (h : el[off + i]? = some e) (hi : i < len) : ((el.drop off).take len)[i]? = some e := by
  rw [List.getElem?_take, if_pos hi, List.getElem?_drop]; exact h

theorem frzV_ok : ∀ (d : Nat), FrzOK ρ Fz H' k X (frzV d X) := by
  intro d
  induction d with
  | zero =>
    intro v p F h hF
    unfold frzV at h
    cases v with
    | p x => simp only at h; injection h with h; injection h with h _; subst h; exact cz_pv x
    | ref a off len =>
      simp only at h
      split at h
      · rename_i es el ho
        split at h
        · rename_i hle
          injection h with h; injection h with e1 e2; subst e1; subst e2
          simp only [XV.av, PV.av, avss_map]
          refine .frz (k + a) off len ⟨es, el.map (·.map PV.av)⟩ _ (hF a (by simp)) (by simp only [hf, z_get, heapA_get, ho]; rfl) (by simpa using hle) (by simp; omega) (fun i e e' h1 h2 => ?_) (fun i e e' j x x' h1 h2 h3 h4 => ?_)
          all_goals
            simp only [List.getElem?_map, Option.map_eq_some_iff] at h1 h2
            obtain ⟨y, h1, rfl⟩ := h1
            obtain ⟨y', h2, rfl⟩ := h2
            rw [sub_get h2] at h1; injection h1 with h1; subst h1
          · rfl
          · rw [h3] at h4; injection h4 with h4; subst h4
            simp only [List.getElem?_map, Option.map_eq_some_iff] at h3
            obtain ⟨z, _, rfl⟩ := h3
            exact cz_pv z
        · cases h
      · cases h
      · cases h
    | _ => cases h
  | succ d ih =>
    intro v p F h hF
    unfold frzV at h
    cases v with
    | p x => simp only at h; injection h with h; injection h with h _; subst h; exact cz_pv x
    | ref a off len =>
      simp only at h
      split at h
      · rename_i es el ho
        split at h
        · rename_i hle
          injection h with h; injection h with e1 e2; subst e1; subst e2
          simp only [XV.av, PV.av, avss_map]
          refine .frz (k + a) off len ⟨es, el.map (·.map PV.av)⟩ _ (hF a (by simp)) (by simp only [hf, z_get, heapA_get, ho]; rfl) (by simpa using hle) (by simp; omega) (fun i e e' h1 h2 => ?_) (fun i e e' j x x' h1 h2 h3 h4 => ?_)
          all_goals
            simp only [List.getElem?_map, Option.map_eq_some_iff] at h1 h2
            obtain ⟨y, h1, rfl⟩ := h1
            obtain ⟨y', h2, rfl⟩ := h2
            rw [sub_get h2] at h1; injection h1 with h1; subst h1
          · rfl
          · rw [h3] at h4; injection h4 with h4; subst h4
            simp only [List.getElem?_map, Option.map_eq_some_iff] at h3
            obtain ⟨z, _, rfl⟩ := h3
            exact cz_pv z
        · cases h
      · rename_i es el ho
        split at h
        · rename_i hle
          split at h
          · rename_i l G hm
            injection h with h; injection h with e1 e2; subst e1; subst e2
            obtain ⟨k1, k2⟩ := mapFF_ok ih hm (fun b hb => hF b (List.mem_cons_of_mem _ hb))
            simp only [XV.av, PV.av, avss_map]
            have hlen : len = l.length := by rw [← k1]; simp; omega
            refine .frz (k + a) off len ⟨es, el.map (·.map (XV.av k))⟩ _ (hF a (by simp)) (by simp only [hf, z_get, heapA_get, ho]; rfl) (by simpa using hle) (by simp [hlen]) (fun i e e' h1 h2 => ?_) (fun i e e' j x x' h1 h2 h3 h4 => ?_)
            all_goals
              simp only [List.getElem?_map, Option.map_eq_some_iff] at h1 h2
              obtain ⟨y, h1, rfl⟩ := h1
              obtain ⟨y', h2, rfl⟩ := h2
              have hi : i < len := by rw [hlen]; exact (List.getElem?_eq_some_iff.1 h2).1
            · simpa using (k2 i y y' (sub_get' h1 hi) h2).1
            · simp only [List.getElem?_map, Option.map_eq_some_iff] at h3 h4
              obtain ⟨z, h3, rfl⟩ := h3
              obtain ⟨z', h4, rfl⟩ := h4
              exact (k2 i y y' (sub_get' h1 hi) h2).2 j z z' h3 h4
          · cases h
        · cases h
      · cases h
    | rdx es l =>
      simp only at h
      split at h
      · rename_i l' G hm
        injection h with h; injection h with e1 e2; subst e1; subst e2
        obtain ⟨k1, k2⟩ := mapFF_ok ih hm hF
        simp only [XV.av, PV.av, avss_map, xavss_map]
        refine .rd es _ _ (by simp [k1]) (fun i e e' h1 h2 => ?_) (fun i e e' j x x' h1 h2 h3 h4 => ?_)
        all_goals
          simp only [List.getElem?_map, Option.map_eq_some_iff] at h1 h2
          obtain ⟨y, h1, rfl⟩ := h1
          obtain ⟨y', h2, rfl⟩ := h2
        · simpa using (k2 i y y' h1 h2).1
        · simp only [List.getElem?_map, Option.map_eq_some_iff] at h3 h4
          obtain ⟨z, h3, rfl⟩ := h3
          obtain ⟨z', h4, rfl⟩ := h4
          exact (k2 i y y' h1 h2).2 j z z' h3 h4
      · cases h
    | agg cs =>
      simp only at h
      split at h
      · rename_i cs' G hm
        injection h with h; injection h with e1 e2; subst e1; subst e2
        have := cz_cells (mapF_ok ih hm hF)
        exact .agg _ _ this.1 this.2
      · cases h
    | tup cs =>
      simp only at h
      split at h
      · rename_i cs' G hm
        injection h with h; injection h with e1 e2; subst e1; subst e2
        have := cz_cells (mapF_ok ih hm hF)
        exact .tup _ _ this.1 this.2
      · cases h
    | clo f cs =>
      simp only at h
      split at h
      · rename_i cs' G hm
        injection h with h; injection h with e1 e2; subst e1; subst e2
        have := cz_cells (mapF_ok ih hm hF)
        exact .clo f _ _ this.1 this.2
      · cases h
    | _ => cases h

end
end Go.Abs

namespace Go.Abs
set_option linter.unusedSimpArgs false
open Go Go.RowKit

mutual
def ren (r : Nat → Option Nat) : XV → XV
  | .p x => .p x
  | .u => .u
  | .ref a off len => match r a with | some i => .ref i off len | none => .u
  | .ptr a i j => match r a with | some b => .ptr b i j | none => .u
  | .rdx es l => .rdx es (renLL r l)
  | .agg cs => .agg (renL r cs)
  | .tup cs => .tup (renL r cs)
  | .clo f cs => .clo f (renL r cs)
def renL (r : Nat → Option Nat) : List XV → List XV
  | [] => []
  | a :: l => ren r a :: renL r l
def renLL (r : Nat → Option Nat) : List (List XV) → List (List XV)
  | [] => []
  | a :: l => renL r a :: renLL r l
end

theorem renL_map (r : Nat → Option Nat) : ∀ l : List XV, renL r l = l.map (ren r)
  | [] => rfl
  | a :: l => by simp [renL, renL_map r l]
theorem renLL_map (r : Nat → Option Nat) : ∀ l : List (List XV), renLL r l = l.map (·.map (ren r))
  | [] => rfl
  | a :: l => by simp [renLL, renLL_map r l, renL_map]

def renO (r : Nat → Option Nat) : XObj → XObj
  | .pu es el => .pu es el
  | .mx es el => .mx es (renLL r el)

mutual
def refsV : XV → List Nat
  | .ref a _ _ => [a]
  | .ptr a _ _ => [a]
  | .rdx _ l => refsLL l
  | .agg cs | .tup cs | .clo _ cs => refsL cs
  | _ => []
def refsL : List XV → List Nat
  | [] => []
  | a :: l => refsV a ++ refsL l
def refsLL : List (List XV) → List Nat
  | [] => []
  | a :: l => refsL a ++ refsLL l
end

def refsO : Option XObj → List Nat
  | some (.mx _ el) => refsLL el
  | _ => []

def getO (X : XHeap) (a : Nat) : Option XObj :=
  match X[a]? with
  | some o => o
  | none => none

def live (X : XHeap) (a : Nat) : Bool := (getO X a).isSome

/-- More ids, each once, those of live objects of one's own alone. -/
def addN (X : XHeap) (b : Nat) : List Nat → List Nat → List Nat
  | m, [] => m
  | m, a :: r => bif Nat.ble b a && live X a && !(m.any (Nat.beq a)) then addN X b (m ++ [a]) r else addN X b m r

def reach (X : XHeap) (b : Nat) : Nat → List Nat → List Nat
  | 0, m => m
  | d + 1, m => match addN X b m (m.flatMap fun a => refsO (getO X a)) with
    | m' => bif Nat.beq m'.length m.length then m else reach X b d m'

def idxN : List Nat → Nat → Nat → Option Nat
  | [], _, _ => none
  | x :: r, a, i => bif Nat.beq x a then some i else idxN r a (i + 1)

theorem idxN_spec : ∀ {m : List Nat} {a i j : Nat}, idxN m a i = some j → i ≤ j ∧ m[j - i]? = some a
  | [], a, i, j, h => by cases h
  | x :: r, a, i, j, h => by
    simp only [idxN] at h
    cases hx : Nat.beq x a with
    | true =>
      rw [hx, cond_true] at h; injection h with h; subst h
      exact ⟨Nat.le_refl _, by simp; exact Nat.eq_of_beq_eq_true hx⟩
    | false =>
      rw [hx, cond_false] at h
      obtain ⟨h1, h2⟩ := idxN_spec h
      refine ⟨by omega, ?_⟩
      rw [show j - i = (j - (i + 1)) + 1 by omega, List.getElem?_cons_succ]; exact h2

def rI (X : XHeap) (b : Nat) (m : List Nat) (a : Nat) : Option Nat :=
  bif Nat.blt a b then (bif live X a then some a else none) else match idxN m a 0 with | some i => some (b + i) | none => none

def nodupB : List Nat → Bool
  | [] => true
  | a :: r => !(r.any (Nat.beq a)) && nodupB r

theorem nodupB_spec : ∀ {l : List Nat}, nodupB l = true → l.Nodup
  | [], _ => List.nodup_nil
  | a :: r, h => by
    simp only [nodupB, Bool.and_eq_true, Bool.not_eq_true'] at h
    refine List.nodup_cons.2 ⟨fun hm => ?_, nodupB_spec h.2⟩
    have := List.any_eq_false.1 h.1 a hm
    simp at this

/-- The heap with its objects in new order. -/
def gcH (X : XHeap) (b : Nat) (m : List Nat) : XHeap :=
  (X.take b).map (·.map (renO (rI X b m))) ++ m.map fun a => (getO X a).map (renO (rI X b m))

def okGc (X : XHeap) (b : Nat) (m F : List Nat) : Bool :=
  Nat.ble b X.length && nodupB m && m.all (fun a => Nat.ble b a && live X a && !(F.any (Nat.beq a))) && F.all (fun a => Nat.ble b a)

def rhoX (k b : Nat) (m : List Nat) (x : Nat) : Nat := if x < k + b then x else k + m.getD (x - (k + b)) 0

section
variable {k b : Nat} {X : XHeap} {m F : List Nat}

theorem gcH_low (hb : b ≤ X.length) {i : Nat} (hi : i < b) : (gcH X b m)[i]? = (X[i]?).map (·.map (renO (rI X b m))) := by
  unfold gcH
  rw [List.getElem?_append_left (by simp; omega), List.getElem?_map, List.getElem?_take, if_pos hi]
theorem gcH_high (hb : b ≤ X.length) (j : Nat) : (gcH X b m)[b + j]? = (m[j]?).map fun a => (getO X a).map (renO (rI X b m)) := by
  unfold gcH
  rw [List.getElem?_append_right (by simp; omega), List.getElem?_map]
  have : b + j - (List.map (fun x => Option.map (renO (rI X b m)) x) (List.take b X)).length = j := by simp; omega
  rw [this]

theorem getO_some {a : Nat} {o : XObj} (h : getO X a = some o) : X[a]? = some (some o) := by
  unfold getO at h
  split at h
  · rename_i o' e; rw [h] at e; exact e
  · cases h

theorem getO_of {a : Nat} {o : XObj} (h : X[a]? = some (some o)) : getO X a = some o := by simp [getO, h]

theorem okGc_spec (h : okGc X b m F = true) : b ≤ X.length ∧ m.Nodup ∧ (∀ a ∈ m, b ≤ a ∧ live X a = true ∧ a ∉ F) ∧ ∀ a ∈ F, b ≤ a := by
  simp only [okGc, Bool.and_eq_true, List.all_eq_true, Nat.ble_eq, Bool.not_eq_true'] at h
  obtain ⟨⟨⟨h1, h2⟩, h3⟩, h4⟩ := h
  refine ⟨h1, nodupB_spec h2, fun a ha => ⟨(h3 a ha).1.1, (h3 a ha).1.2, fun hF => ?_⟩, fun a ha => h4 a ha⟩
  have := List.any_eq_false.1 (h3 a ha).2 a hF
  simp at this

/-- What the new ids stand for. -/
theorem rI_spec (h : okGc X b m F = true) {a i : Nat} (hr : rI X b m a = some i) : rhoX k b m (k + i) = k + a ∧ ∃ o, hf (Z k (heapA k (gcH X b m))) (k + i) = some (some o) := by
  obtain ⟨h1, h2, h3, h4⟩ := okGc_spec h
  unfold rI at hr
  cases hlt : Nat.blt a b with
  | true =>
    rw [hlt, cond_true] at hr
    have hlt' : a < b := by simpa using hlt
    cases hl : live X a with
    | false => rw [hl, cond_false] at hr; cases hr
    | true =>
      rw [hl, cond_true] at hr; injection hr with hr; subst hr
      obtain ⟨o, ho⟩ := Option.isSome_iff_exists.1 hl
      refine ⟨by unfold rhoX; rw [if_pos (by omega)], (renO (rI X b m) o).ao k, ?_⟩
      simp only [hf, z_get, heapA_get, gcH_low h1 hlt', getO_some ho, Option.map]
  | false =>
    rw [hlt, cond_false] at hr
    split at hr
    · rename_i j hj
      injection hr with hr; subst hr
      obtain ⟨_, hj2⟩ := idxN_spec hj
      simp only [Nat.sub_zero] at hj2
      obtain ⟨_, hl, _⟩ := h3 a (List.mem_of_getElem? hj2)
      obtain ⟨o, ho⟩ := Option.isSome_iff_exists.1 hl
      refine ⟨?_, (renO (rI X b m) o).ao k, ?_⟩
      · unfold rhoX; rw [if_neg (by omega), show k + (b + j) - (k + b) = j by omega]; simp [List.getD, hj2]
      · simp only [hf, z_get, heapA_get, gcH_high h1, hj2, Option.map, ho]
    · cases hr

theorem ren_all2 {f : XV → XV} {cs : List XV} {R : AV → AV → Prop} (h : ∀ x ∈ cs, R (x.av k) ((f x).av k)) :
    (XV.avs k cs).length = (XV.avs k (cs.map f)).length ∧ ∀ (j : Nat) (x x' : AV), (XV.avs k cs)[j]? = some x → (XV.avs k (cs.map f))[j]? = some x' → R x x' := by
  refine ⟨by simp [xavs_map], fun j x x' h1 h2 => ?_⟩
  simp only [xavs_map, List.map_map, List.getElem?_map, Option.map_eq_some_iff, Function.comp] at h1 h2
  obtain ⟨y, h1, rfl⟩ := h1
  obtain ⟨y', h2, rfl⟩ := h2
  rw [h1] at h2; injection h2 with h2; subst h2
  exact h y (List.mem_of_getElem? h1)

mutual
theorem ren_cz {ρ : Nat → Nat} {Fz : Nat → Prop} {H H' : HF} {r : Nat → Option Nat} (hr : ∀ a i, r a = some i → ρ (k + i) = k + a ∧ ∃ o, H' (k + i) = some (some o)) : ∀ v : XV, Cz ρ Fz H H' (v.av k) ((ren r v).av k)
  | .p x => by simp only [ren, XV.av]; exact cz_pv x
  | .u => by simp only [ren, XV.av]; exact .u _
  | .ref a off len => by
    simp only [ren, XV.av]
    cases h : r a with
    | none => exact .u _
    | some i =>
      obtain ⟨h1, o, h2⟩ := hr a i h
      simp only [XV.av]; rw [← h1]; exact .ref _ off len o h2
  | .ptr a i j => by
    simp only [ren, XV.av]
    cases h : r a with
    | none => exact .u _
    | some i' =>
      obtain ⟨h1, o, h2⟩ := hr a i' h
      simp only [XV.av]; rw [← h1]; exact .ptr _ i j o h2
  | .rdx es l => by
    simp only [ren, XV.av, xavss_map, renLL_map, List.map_map]
    refine .rd es _ _ (by simp) (fun i e e' h1 h2 => ?_) (fun i e e' j x x' h1 h2 h3 h4 => ?_)
    all_goals
      simp only [List.getElem?_map, Option.map_eq_some_iff, Function.comp] at h1 h2
      obtain ⟨y, h1, rfl⟩ := h1
      obtain ⟨y', h2, rfl⟩ := h2
      rw [h1] at h2; injection h2 with h2; subst h2
    · simp
    · simp only [List.getElem?_map, Option.map_eq_some_iff, Function.comp] at h3 h4
      obtain ⟨z, h3, rfl⟩ := h3
      obtain ⟨z', ⟨z'', h4, rfl⟩, rfl⟩ := h4
      rw [h3] at h4; injection h4 with h4; subst h4
      exact renLL_cz hr l y (List.mem_of_getElem? h1) z (List.mem_of_getElem? h3)
  | .agg cs => by
    simp only [ren, XV.av, renL_map]
    have := ren_all2 (R := Cz ρ Fz H H') (renL_cz hr cs)
    exact .agg _ _ this.1 this.2
  | .tup cs => by
    simp only [ren, XV.av, renL_map]
    have := ren_all2 (R := Cz ρ Fz H H') (renL_cz hr cs)
    exact .tup _ _ this.1 this.2
  | .clo f cs => by
    simp only [ren, XV.av, renL_map]
    have := ren_all2 (R := Cz ρ Fz H H') (renL_cz hr cs)
    exact .clo f _ _ this.1 this.2
theorem renL_cz {ρ : Nat → Nat} {Fz : Nat → Prop} {H H' : HF} {r : Nat → Option Nat} (hr : ∀ a i, r a = some i → ρ (k + i) = k + a ∧ ∃ o, H' (k + i) = some (some o)) :
    ∀ (l : List XV) (x : XV), x ∈ l → Cz ρ Fz H H' (x.av k) ((ren r x).av k)
  | [], x, h => by simp at h
  | a :: l, x, h => by
    rcases List.mem_cons.1 h with h | h
    · rw [h]; exact ren_cz hr a
    · exact renL_cz hr l x h
theorem renLL_cz {ρ : Nat → Nat} {Fz : Nat → Prop} {H H' : HF} {r : Nat → Option Nat} (hr : ∀ a i, r a = some i → ρ (k + i) = k + a ∧ ∃ o, H' (k + i) = some (some o)) :
    ∀ (l : List (List XV)) (e : List XV), e ∈ l → ∀ x ∈ e, Cz ρ Fz H H' (x.av k) ((ren r x).av k)
  | [], e, h => by simp at h
  | a :: l, e, h => by
    rcases List.mem_cons.1 h with h | h
    · rw [h]; exact renL_cz hr a
    · exact renLL_cz hr l e h
end

theorem renO_cz {ρ : Nat → Nat} {Fz : Nat → Prop} {H H' : HF} {r : Nat → Option Nat} (hr : ∀ a i, r a = some i → ρ (k + i) = k + a ∧ ∃ o, H' (k + i) = some (some o)) (o : XObj) :
    ((renO r o).ao k).es = (o.ao k).es ∧ ((renO r o).ao k).el.length = (o.ao k).el.length ∧
    ∀ (i : Nat) (e e' : List AV), (o.ao k).el[i]? = some e → ((renO r o).ao k).el[i]? = some e' → e.length = e'.length ∧ ∀ (j : Nat) (x x' : AV), e[j]? = some x → e'[j]? = some x' → Cz ρ Fz H H' x x' := by
  cases o with
  | pu es el =>
    refine ⟨rfl, rfl, fun i e e' h1 h2 => ?_⟩
    simp only [renO] at h2
    rw [h1] at h2; injection h2 with h2; subst h2
    refine ⟨rfl, fun j x x' h3 h4 => ?_⟩
    rw [h3] at h4; injection h4 with h4; subst h4
    simp only [ao_pu, List.getElem?_map, Option.map_eq_some_iff] at h1
    obtain ⟨y, _, rfl⟩ := h1
    simp only [List.getElem?_map, Option.map_eq_some_iff] at h3
    obtain ⟨z, _, rfl⟩ := h3
    exact cz_pv z
  | mx es el =>
    refine ⟨rfl, by simp [renO, ao_mx, renLL_map], fun i e e' h1 h2 => ?_⟩
    simp only [renO, ao_mx, renLL_map, List.map_map, List.getElem?_map, Option.map_eq_some_iff, Function.comp] at h1 h2
    obtain ⟨y, h1, rfl⟩ := h1
    obtain ⟨y', h2, rfl⟩ := h2
    rw [h1] at h2; injection h2 with h2; subst h2
    refine ⟨by simp, fun j x x' h3 h4 => ?_⟩
    simp only [List.getElem?_map, Option.map_eq_some_iff, Function.comp] at h3 h4
    obtain ⟨z, h3, rfl⟩ := h3
    obtain ⟨z', h4, rfl⟩ := h4
    rw [h3] at h4; injection h4 with h4; subst h4
    exact ren_cz hr z

theorem hcz_gc (h : okGc X b m F = true) : HCz (rhoX k b m) (fun x => ∃ a ∈ F, x = k + a) (hf (Z k (heapA k X))) (hf (Z k (heapA k (gcH X b m)))) (k + b) := by
  obtain ⟨h1, h2, h3, h4⟩ := okGc_spec h
  -- each live new object is some old one
  have key : ∀ x o', hf (Z k (heapA k (gcH X b m))) x = some (some o') → ∃ i a o, x = k + i ∧ X[a]? = some (some o) ∧ rhoX k b m x = k + a ∧ o' = (renO (rI X b m) o).ao k ∧ a ∉ F ∧ ((i < b ∧ a = i) ∨ ∃ j, i = b + j ∧ m[j]? = some a) := by
    intro x o' hx
    by_cases hlt : x < k
    · simp [hf, z_low k _ x hlt] at hx
    · obtain ⟨i, rfl⟩ : ∃ i, x = k + i := ⟨x - k, by omega⟩
      simp only [hf, z_get, heapA_get] at hx
      by_cases hi : i < b
      · rw [gcH_low h1 hi] at hx
        cases hX : X[i]? with
        | none => simp [hX] at hx
        | some oo =>
          cases oo with
          | none => simp [hX] at hx
          | some o =>
            simp [hX] at hx
            exact ⟨i, i, o, rfl, hX, by unfold rhoX; rw [if_pos (by omega)], hx.symm, fun hF => by have := h4 i hF; omega, .inl ⟨hi, rfl⟩⟩
      · obtain ⟨j, rfl⟩ : ∃ j, i = b + j := ⟨i - b, by omega⟩
        rw [gcH_high h1] at hx
        cases hm : m[j]? with
        | none => simp [hm] at hx
        | some a =>
          obtain ⟨_, hl, hF⟩ := h3 a (List.mem_of_getElem? hm)
          obtain ⟨o, ho⟩ := Option.isSome_iff_exists.1 hl
          simp [hm, ho] at hx
          refine ⟨b + j, a, o, rfl, getO_some ho, ?_, hx.symm, hF, .inr ⟨j, rfl, hm⟩⟩
          unfold rhoX; rw [if_neg (by omega), show k + (b + j) - (k + b) = j by omega]; simp [List.getD, hm]
  refine ⟨fun x y o o' hx hy hxy => ?_, fun a ha => ?_, fun x o' hx => ?_⟩
  · obtain ⟨i, a, _, rfl, _, e1, _, _, h5⟩ := key x o hx
    obtain ⟨i', a', _, rfl, _, e2, _, _, h6⟩ := key y o' hy
    rw [e1, e2] at hxy
    have haa : a = a' := by omega
    subst haa
    rcases h5 with ⟨h5, rfl⟩ | ⟨j, rfl, h5⟩ <;> rcases h6 with ⟨h6, h7⟩ | ⟨j', rfl, h6⟩
    · rw [h7]
    · have := (h3 a (List.mem_of_getElem? h6)).1; omega
    · have := (h3 a (List.mem_of_getElem? h5)).1; omega
    · have g1 := List.getElem?_eq_some_iff.1 h5
      have g2 := List.getElem?_eq_some_iff.1 h6
      have := (List.getElem_inj (h₀ := g1.1) (h₁ := g2.1) h2).1 (by rw [g1.2, g2.2])
      rw [this]
  · refine ⟨by unfold rhoX; rw [if_pos ha], fun _ => ?_⟩
    by_cases hlt : a < k
    · simp [hf, z_low k _ a hlt]
    · obtain ⟨i, rfl⟩ : ∃ i, a = k + i := ⟨a - k, by omega⟩
      have hi : i < b := by omega
      simp only [hf, z_get, heapA_get, gcH_low h1 hi]
      have : i < X.length := by omega
      simp [this]
  · obtain ⟨i, a, o, rfl, hX, e1, rfl, hF, _⟩ := key x o' hx
    rw [e1]
    refine ⟨fun ⟨a', ha', e⟩ => hF (by rw [show a = a' by omega]; exact ha'), o.ao k, by simp only [hf, z_get, heapA_get, hX]; rfl, ?_⟩
    have := renO_cz (k := k) (H := hf (Z k (heapA k X))) (Fz := fun x => ∃ a ∈ F, x = k + a) (fun a i h' => rI_spec (k := k) h h') o
    exact this

end

/-- What becomes of a slot. -/
inductive Nk where
  | k
  | own (es : Nat) (cells : List Sh)
  | fz (s : Sh)
  | co (s : Sh)

/-- Slices without elements and capacity become own objects. -/
def pOwn : List (Nat × Nk) → XEnv → XHeap → XEnv × XHeap
  | [], env, X => (env, X)
  | (t, .own es _) :: r, env, X => match xlook env t with
    | .p .emp => bif Nat.blt 0 es then pOwn r ((t, .ref X.length 0 0) :: env) (X ++ [some (.pu es [])]) else pOwn r env X
    | _ => pOwn r env X
  | _ :: r, env, X => pOwn r env X

def pSel (X : XHeap) (env : XEnv) : List (Nat × Nk) → Option (XEnv × List Nat)
  | [] => some ([], [])
  | (t, n) :: r => match pSel X env r with
    | some (e, F) => match n with
      | .fz _ => match frzV 6 X (xlook env t) with
        | some (p, G) => some ((t, .p p) :: e, G ++ F)
        | none => none
      | _ => some ((t, xlook env t) :: e, F)
    | none => none

def renE (r : Nat → Option Nat) : XEnv → XEnv
  | [] => []
  | (t, v) :: e => (t, ren r v) :: renE r e

def refsE : XEnv → List Nat
  | [] => []
  | (_, v) :: e => refsV v ++ refsE e

/-- The slots in the form that is asked for; a slice's elements, too. -/
def pCo : List (Nat × Nk) → XEnv → XEnv
  | (_, .fz s) :: r, (t, v) :: e => (t, coX s v) :: pCo r e
  | (_, .co s) :: r, (t, v) :: e => (t, coX s v) :: pCo r e
  | _ :: r, p :: e => p :: pCo r e
  | _, e => e

def pEl (env : XEnv) : List (Nat × Nk) → XHeap → XHeap
  | [], X => X
  | (t, .own _ (c :: cs)) :: r, X => match xlook env t with
    | .ref a _ _ => match X[a]? with
      | some (some (.pu es el)) => pEl env r (X.set a (some (.pu es (el.map fun e => coL (c :: cs) e))))
      | _ => pEl env r X
    | _ => pEl env r X
  | _ :: r, X => pEl env r X

def gcS (env : XEnv) (X : XHeap) (b : Nat) : List Nat :=
  reach X b 4 (addN X b [] (refsE env ++ ((X.take b).flatMap refsO)))

def norm (ann : List (Nat × Nk)) (s : XSt) : Option XSt :=
  match pOwn ann s.env s.heap with
  | (env, X) => match pSel X env ann with
    | some (e, F) => match gcS e X s.base with
      | m => bif okGc X s.base m F then
          match pCo ann (renE (rI X s.base m) e) with
          | e' => some ⟨e', pEl e' ann (gcH X s.base m), s.base⟩
        else none
    | none => none

section
variable {k : Nat}

theorem wk_own : ∀ (ann : List (Nat × Nk)) (env : XEnv) (X : XHeap) (b : Nat), Wk (XSt.a k ⟨env, X, b⟩) (XSt.a k ⟨(pOwn ann env X).1, (pOwn ann env X).2, b⟩)
  | [], env, X, b => .refl _
  | (t, n) :: r, env, X, b => by
    cases n with
    | own es cs =>
      simp only [pOwn]
      split
      · rename_i hx
        cases hes : Nat.blt 0 es with
        | false => exact wk_own r env X b
        | true =>
          rw [cond_true]
          refine Wk.trans ?_ (wk_own r _ _ b)
          have h1 : lookE (envA k env) t = .emp := by rw [look_env, hx]; rfl
          have := wk_new (env := envA k env) (H := Z k (heapA k X)) (b := k + b) (t := t) (es := es) h1 (by simpa using hes)
          rw [z_heap_len, show some ({ es := es, el := [] } : AObj) = some ((XObj.pu es []).ao k) from rfl, z_heap_push] at this
          exact this
      · exact wk_own r env X b
    | k => exact wk_own r env X b
    | fz s => exact wk_own r env X b
    | co s => exact wk_own r env X b

theorem pSel_ok {ρ : Nat → Nat} {Fz : Nat → Prop} {H' : HF} {X : XHeap} {env : XEnv} {r : Nat → Option Nat} (hr : ∀ a i, r a = some i → ρ (k + i) = k + a ∧ ∃ o, H' (k + i) = some (some o)) :
    ∀ {ann : List (Nat × Nk)} {e : XEnv} {F : List Nat}, pSel X env ann = some (e, F) → (∀ a ∈ F, Fz (k + a)) → ∀ t, Cz ρ Fz (hf (Z k (heapA k X))) H' (lookE (envA k env) t) (lookE (envA k (renE r e)) t)
  | [], e, F, h, _ => by
    simp only [pSel] at h; injection h with h; injection h with h1 _; subst h1
    intro t; exact .u _
  | (s, n) :: ann, e, F, h, hF => by
    simp only [pSel] at h
    split at h
    · rename_i e1 F1 h1
      have step : ∀ (v : XV) (F2 : List Nat), (∀ a ∈ F1, a ∈ F2) → (∀ a ∈ F2, Fz (k + a)) → Cz ρ Fz (hf (Z k (heapA k X))) H' ((xlook env s).av k) ((ren r v).av k) →
          ∀ t, Cz ρ Fz (hf (Z k (heapA k X))) H' (lookE (envA k env) t) (lookE (envA k (renE r ((s, v) :: e1))) t) := by
        intro v F2 hF1 hF2 hv t
        rw [look_env, look_env]
        simp only [renE, xlook]
        cases hst : Nat.beq s t with
        | true =>
          rw [cond_true]
          have : s = t := Nat.eq_of_beq_eq_true hst
          subst this; exact hv
        | false =>
          rw [cond_false, ← look_env, ← look_env]
          exact pSel_ok hr h1 (fun a ha => hF2 a (hF1 a ha)) t
      cases n with
      | fz s' =>
        simp only at h
        split at h
        · rename_i p G hp
          injection h with h; injection h with e2 e3; subst e2; subst e3
          refine step (.p p) (G ++ F1) (fun a ha => List.mem_append_right _ ha) hF ?_
          exact frzV_ok 6 _ _ _ hp (fun a ha => hF a (List.mem_append_left _ ha))
        · cases h
      | k => simp only at h; injection h with h; injection h with e2 e3; subst e2; subst e3; exact step _ F1 (fun a ha => ha) hF (ren_cz hr _)
      | own _ _ => simp only at h; injection h with h; injection h with e2 e3; subst e2; subst e3; exact step _ F1 (fun a ha => ha) hF (ren_cz hr _)
      | co _ => simp only at h; injection h with h; injection h with e2 e3; subst e2; subst e3; exact step _ F1 (fun a ha => ha) hF (ren_cz hr _)
    · cases h

theorem pCo_ok : ∀ (ann : List (Nat × Nk)) (e : XEnv) (t : Nat), Coe (lookE (envA k e) t) (lookE (envA k (pCo ann e)) t)
  | [], e, t => by simp only [pCo]; exact .refl _
  | _ :: _, [], t => by simp only [pCo]; exact .refl _
  | (s, n) :: ann, (u', v) :: e, t => by
    have ih := pCo_ok ann e t
    rw [look_env, look_env] at ih ⊢
    cases n <;> simp only [pCo, xlook] <;> cases Nat.beq u' t <;> simp only [cond_true, cond_false] <;> first | exact ih | exact coX_coe _ _ _ | exact .refl _

/-- An object's elements known less well. -/
theorem wk_obj {env : Env} {H : Heap} {b a : Nat} {o o' : AObj} (ho : H[a]? = some (some o)) (hes : o'.es = o.es) (hl : o'.el.length = o.el.length)
    (hc : ∀ (i : Nat) (e e' : List AV), o.el[i]? = some e → o'.el[i]? = some e' → e.length = e'.length ∧ ∀ (j : Nat) (x x' : AV), e[j]? = some x → e'[j]? = some x' → Coe x x') :
    Wk ⟨env, H, b⟩ ⟨env, H.set a (some o'), b⟩ := by
  intro fm n w0 L0 ac w hs
  obtain ⟨h1, h2, h3, L, h4, h5, h6, h7⟩ := hs
  refine ⟨h1, h2, h3, L, h4, h5, ?_, h7⟩
  have hlt := (List.getElem?_eq_some_iff.1 ho).1
  have hget : ∀ c, hf (H.set a (some o')) c = if c = a then some (some o') else hf H c := by
    intro c
    by_cases e : c = a
    · subst e; rw [if_pos rfl]; simp [hf, hlt]
    · rw [if_neg e]; simp [hf, List.getElem?_set, Ne.symm e]
  refine ⟨fun c q hq => ?_, fun c hc' => ?_, fun c => ?_, h6.inj, h6.hid⟩
  · rw [hget] at hq
    by_cases e : c = a
    · subst e
      rw [if_pos rfl] at hq; injection hq with hq; injection hq with hq; subst hq
      have hob := h6.obj c o ho
      revert hob
      cases hL : L c with
      | fresh => exact id
      | dead => exact id
      | hid g => exact id
      | nil => rintro ⟨k1, k2⟩; exact ⟨List.length_eq_zero_iff.1 (by rw [hl, k1]; rfl), by rw [hes]; exact k2⟩
      | cells g es cap =>
        rintro ⟨k0, k1, k2, k3, k4, cur, ty, k5, k6, k7⟩
        refine ⟨by rw [hes]; exact k0, k1, by rw [hl]; exact k2, k3, fun e' he' => ?_, cur, ty, k5, k6, fun i e' j x' hi hj => ?_⟩
        · obtain ⟨i, hi, he⟩ := List.mem_iff_getElem.1 he'
          have hi' : o'.el[i]? = some e' := by rw [List.getElem?_eq_getElem hi, he]
          obtain ⟨e, hie⟩ := get_pair hl.symm hi'
          rw [← (hc i e e' hie hi').1]; exact k4 e (List.mem_of_getElem? hie)
        · obtain ⟨e, hie⟩ := get_pair hl.symm hi
          obtain ⟨x, hx⟩ := get_pair (hc i e e' hie hi).1 hj
          exact ⟨(k7 i e j x hie hx).1, vr_coe ((hc i e e' hie hi).2 j x x' hx hj) (k7 i e j x hie hx).2⟩
    · rw [if_neg e] at hq; exact h6.obj c q hq
  · obtain ⟨q, hq⟩ := h6.live c hc'
    rw [hget]
    by_cases e : c = a
    · rw [if_pos e]; exact ⟨o', rfl⟩
    · rw [if_neg e]; exact ⟨q, hq⟩
  · rw [hget, h6.fresh c]
    by_cases e : c = a
    · subst e; rw [if_pos rfl]
      have : hf H c = some (some o) := ho
      rw [this]; simp
    · rw [if_neg e]

theorem wk_el (env : XEnv) : ∀ (ann : List (Nat × Nk)) (X : XHeap) (b : Nat) (env' : XEnv), Wk (XSt.a k ⟨env', X, b⟩) (XSt.a k ⟨env', pEl env ann X, b⟩)
  | [], X, b, env' => .refl _
  | (t, n) :: r, X, b, env' => by
    cases n with
    | own es cs =>
      cases cs with
      | nil => simp only [pEl]; exact wk_el env r X b env'
      | cons c cs =>
        simp only [pEl]
        split
        · rename_i a off len hx
          split
          · rename_i es' el ho
            refine Wk.trans ?_ (wk_el env r _ b env')
            have := wk_obj (env := envA k env') (H := Z k (heapA k X)) (b := k + b) (a := k + a) (o := (XObj.pu es' el).ao k) (o' := (XObj.pu es' (el.map fun e => coL (c :: cs) e)).ao k)
              (by rw [z_get, heapA_get, ho]; rfl) rfl (by simp [ao_pu]) (fun i e e' h1 h2 => ?_)
            · rw [z_heap_set] at this; exact this
            · simp only [ao_pu, List.map_map, List.getElem?_map, Option.map_eq_some_iff, Function.comp] at h1 h2
              obtain ⟨y, h1, rfl⟩ := h1
              obtain ⟨y', h2, rfl⟩ := h2
              rw [h1] at h2; injection h2 with h2; subst h2
              have hc := coL_coe (c :: cs) y
              refine ⟨by simp [hc.1], fun j x x' h3 h4 => ?_⟩
              simp only [List.getElem?_map, Option.map_eq_some_iff] at h3 h4
              obtain ⟨z, h3, rfl⟩ := h3
              obtain ⟨z', h4, rfl⟩ := h4
              exact hc.2 j z z' h3 h4
          · exact wk_el env r X b env'
        · exact wk_el env r X b env'
    | k => exact wk_el env r X b env'
    | fz s => exact wk_el env r X b env'
    | co s => exact wk_el env r X b env'

/-- The fixed form says no more than the state did. -/
theorem norm_wk {ann : List (Nat × Nk)} {s s' : XSt} (h : norm ann s = some s') : Wk (s.a k) (s'.a k) := by
  obtain ⟨env, X, b⟩ := s
  unfold norm at h
  simp only at h
  have h0 := wk_own (k := k) ann env X b
  generalize (pOwn ann env X) = q at h h0
  obtain ⟨env1, X1⟩ := q
  simp only at h h0
  split at h
  · rename_i e F hsel
    cases hg : okGc X1 b (gcS e X1 b) F with
    | false => rw [hg, cond_false] at h; cases h
    | true =>
      rw [hg, cond_true] at h
      injection h with h; subst h
      refine Wk.trans h0 (Wk.trans (b := XSt.a k ⟨renE (rI X1 b (gcS e X1 b)) e, gcH X1 b (gcS e X1 b), b⟩) ?_ (Wk.trans (b := XSt.a k ⟨pCo ann (renE (rI X1 b (gcS e X1 b)) e), gcH X1 b (gcS e X1 b), b⟩) ?_ (wk_el _ ann _ b _)))
      · exact wk_cz (rhoX k b (gcS e X1 b)) (fun x => ∃ a ∈ F, x = k + a) (hcz_gc hg) rfl (fun t => pSel_ok (fun a i h' => rI_spec (k := k) hg h') hsel (fun a ha => ⟨a, ha, rfl⟩) t)
      · intro fm n w0 L0 ac w hs
        obtain ⟨h1, h2, h3, L, h4, h5, h6, h7⟩ := hs
        exact ⟨h1, h2, h3, L, h4, h5, h6, fun t => vr_coe (pCo_ok ann _ t) (h7 t)⟩
  · cases h

end
end Go.Abs

namespace Go.Abs
set_option linter.unusedSimpArgs false
open Go Go.RowKit

structure XI where
  dst : Option Nat
  op : AOp
  guard : Option (Nat × Bool)
  old : Bool
  nw : Bool
  co : List Sh

def XI.ai (i : XI) : AI := ⟨i.dst, i.op, i.guard, i.old, i.nw⟩

inductive XCode where
  | skip
  | reg (ops : List XI)
  | seq (a b : XCode)
  | cond (c : Opd) (a b : XCode)
  | blk (id : Nat) (b : XCode)
  | loop (ann : List (Nat × Nk)) (b : XCode)
  | exit (id : Nat)
  | ret
  | bad
  | norm (ann : List (Nat × Nk)) (b : XCode)

def er : XCode → ACode
  | .skip => .skip
  | .reg ops => .reg (ops.map XI.ai)
  | .seq a b => .seq (er a) (er b)
  | .cond c a b => .cond c (er a) (er b)
  | .blk id b => .blk id (er b)
  | .loop _ b => .loop (er b)
  | .exit id => .exit id
  | .ret => .ret
  | .bad => .bad
  | .norm _ b => er b

def okX : XCode → Bool
  | .reg ops => ops.all fun i => okOp i.op
  | .seq a b => okX a && okX b
  | .cond c a b => okO c && okX a && okX b
  | .blk _ b | .loop _ b | .norm _ b => okX b
  | _ => true

/-- A function: does it touch no object of others; its slots; where its results lie; their form; its code. -/
structure XFn where
  pf : Bool
  slots : Nat
  res : List RV
  sh : Sh
  code : XCode

inductive XDef where
  | fn (F : XFn)
  | prim (f : List PV → Option PV)
  | primN (f : List XV → XHeap → Option (XV × XHeap))

abbrev XTab := Nat → Option XDef

def XDef.pf : XDef → Bool
  | .fn F => F.pf
  | .prim _ => true
  | .primN _ => false

def pfT (T : XTab) (g : Nat) : Bool :=
  match T g with
  | some D => D.pf
  | none => true

abbrev Rec := XCode → XSt → Option (Ex × XSt)

def resX (s : XSt) : RV → Option XV
  | .t n => some (xlook s.env n)
  | .c n g sz => match xG (.load g sz (.t n)) s.env s.heap with
    | some (v, _) => some v
    | none => none

def resXs (s : XSt) : List RV → Option (List XV)
  | [] => some []
  | r :: rs => match resX s r with
    | some v => match resXs s rs with
      | some vs => some (v :: vs)
      | none => none
    | none => none

def tupX : List XV → XV
  | [v] => v
  | vs => match allP vs with
    | some ps => .p (.tup ps)
    | none => .tup vs

def entryX : Nat → List XV → XEnv
  | _, [] => []
  | i, a :: r => (i, a) :: entryX (i + 1) r

/-- What a run leaves, as a plain value. -/
def outS (F : XFn) (s : XSt) : Option PV :=
  bif Nat.beq s.base 0 then match resXs s F.res with
    | some vs => match frzV 6 s.heap (tupX vs) with
      | some (p, _) => some (co F.sh p)
      | none => none
    | none => none
  else none

def outP (F : XFn) : Option (Ex × XSt) → Option PV
  | some (.nor, s) => outS F s
  | some (.ret, s) => outS F s
  | _ => none

def outT (F : XFn) (X : XHeap) (s : XSt) : Option (XV × XHeap) :=
  bif Nat.ble X.length s.heap.length then match resXs s F.res with
    | some vs => some (tupX vs, s.heap)
    | none => none
  else none

def outN (F : XFn) (X : XHeap) : Option (Ex × XSt) → Option (XV × XHeap)
  | some (.nor, s) => outT F X s
  | some (.ret, s) => outT F X s
  | _ => none

/-- A call. -/
def callX (rec : Rec) (T : XTab) (g : Nat) (args : List XV) (X : XHeap) : Option (XV × XHeap) :=
  match T g with
  | some (.fn F) => bif Nat.ble args.length F.slots then
      bif F.pf then
        match allP args with
        | some _ => match outP F (rec F.code ⟨entryX 0 args, [], 0⟩) with
          | some p => some (.p p, X)
          | none => none
        | none => none
      else outN F X (rec F.code ⟨entryX 0 args, X, X.length⟩)
    else none
  | some (.prim f) => match allP args with
    | some ps => match f ps with
      | some p => some (.p p, X)
      | none => none
    | none => none
  | some (.primN f) => match f args X with
    | some (v, X') => bif Nat.ble X.length X'.length then some (v, X') else none
    | none => none
  | none => none

/-- A slice of an own object is lent. -/
def lend0 (X : XHeap) : XV → Option XV
  | .ref a off len => match getO X a with
    | some (.pu es el) => bif Nat.ble (off + len) el.length then some (.p (.rd es ((el.drop off).take len))) else none
    | _ => none
  | _ => none
def lendC (X : XHeap) : List XV → List XV × Bool
  | [] => ([], false)
  | v :: r => match lendC X r with
    | (as, t) => match lend0 X v with
      | some x => (x :: as, true)
      | none => (v :: as, t)
/-- The same, or a struct with such slices. -/
def lend1 (X : XHeap) : XV → Option XV
  | .ref a off len => lend0 X (.ref a off len)
  | .agg cs => match lendC X cs with
    | (ds, true) => some (xagg ds)
    | _ => none
  | _ => none
def lendL (X : XHeap) : List XV → List XV × Bool
  | [] => ([], false)
  | v :: r => match lendL X r with
    | (as, t) => match lend1 X v with
      | some x => (x :: as, true)
      | none => (v :: as, t)

def scalX : XV → Bool
  | .p (.v _) => true
  | .p (.tup l) => l.all fun p => match p with | .v _ => true | _ => false
  | _ => false

def xcall (rec : Rec) (T : XTab) (g : Nat) (sh : List Sh) (args : List XV) (X : XHeap) : Option (XV × XHeap) :=
  bif pfT T g then
    match lendL X args with
    | (as, lent) => match callX rec T g (coXL sh as) X with
      | some (r, X') => bif !lent || scalX r then some (r, X') else none
      | none => none
  else callX rec T g (coXL sh args) X

/-- A call of a function value. -/
def xdyn (rec : Rec) (T : XTab) (g : Nat) (sh : List Sh) (args : List XV) (X : XHeap) : Option (XV × XHeap) := xcall rec T g sh args X

def xop (rec : Rec) (T : XTab) (i : XI) (env : XEnv) (X : XHeap) : Option (XV × XHeap) :=
  match i.op with
  | .call g args => xcall rec T g i.co (args.map (xo env)) X
  | .dyn x args => match xo env x with
    | .p (.clo f cs) => xdyn rec T f i.co (args.map (xo env) ++ cs.map .p) X
    | .clo f cs => xdyn rec T f i.co (args.map (xo env) ++ cs) X
    | _ => none
  | .dynP x args => match xo env x with
    | .p (.clo f cs) => bif pfT T f then xdyn rec T f i.co (args.map (xo env) ++ cs.map .p) X else none
    | .clo f cs => bif pfT T f then xdyn rec T f i.co (args.map (xo env) ++ cs) X else none
    | _ => none
  | op => xG op env X

def oldX (n0 : Nat) : XV → Bool
  | .ptr a _ _ => Nat.blt a n0
  | .ref a _ _ => Nat.blt a n0
  | .clo _ cs => cs.all fun c => match c with | .ref a _ _ => Nat.blt a n0 | .agg ds => ds.all (fun d => match d with | .ref a _ _ => Nat.blt a n0 | _ => true) | _ => true
  | .agg cs => cs.all fun c => match c with | .ref a _ _ => Nat.blt a n0 | _ => true
  | _ => true

def newX (n0 : Nat) : XV → Bool
  | .ref a _ _ => Nat.ble n0 a
  | .ptr a _ _ => Nat.ble n0 a
  | .clo _ _ => false
  | .p (.clo _ _) => false
  | .agg _ => false
  | .p (.agg _) => false
  | _ => true

def nwX (n0 : Nat) (env : XEnv) : AOp → Bool
  | .app _ s _ => newX n0 (xo env s)
  | .store _ x _ => newX n0 (xo env x)
  | _ => false

def okMark (n0 : Nat) (i : XI) (env : XEnv) : Bool :=
  (!i.old || i.op.touched.all fun x => oldX n0 (xo env x)) && (!i.nw || nwX n0 env i.op)

def xput (env : XEnv) (d : Option Nat) (v : XV) : XEnv :=
  match d with
  | some d => (d, v) :: env
  | none => env

/-- One operation, and on. -/
def xgo {α : Type} (rec : Rec) (T : XTab) (n0 : Nat) (i : XI) (env : XEnv) (X : XHeap) (b : Nat) (K : XSt → Option α) : Option α :=
  bif okMark n0 i env then
    match xop rec T i env X with
    | some (v, X') => K ⟨xput env i.dst v, X', b⟩
    | none => none
  else none

def xai {α : Type} (rec : Rec) (T : XTab) (n0 : Nat) (i : XI) (s : XSt) (K : XSt → Option α) : Option α :=
  match i.guard with
  | none => xgo rec T n0 i s.env s.heap s.base K
  | some (g, w) => match xlook s.env g with
    | .p (.v (.bool t)) => match w with
      | true => bif t then xgo rec T n0 i ((g, .p (.v (.bool true))) :: s.env) s.heap s.base K else K ⟨xput ((g, .p (.v (.bool false))) :: s.env) i.dst (.p (.v (.tuple ⟨[]⟩))), s.heap, s.base⟩
      | false => bif t then K ⟨xput ((g, .p (.v (.bool true))) :: s.env) i.dst (.p (.v (.tuple ⟨[]⟩))), s.heap, s.base⟩ else xgo rec T n0 i ((g, .p (.v (.bool false))) :: s.env) s.heap s.base K
    | .p (.v (.tuple ⟨[]⟩)) => K ⟨xput s.env i.dst (.p (.v (.tuple ⟨[]⟩))), s.heap, s.base⟩
    | _ => none

def xops {α : Type} (rec : Rec) (T : XTab) (n0 : Nat) : List XI → XSt → (XSt → Option α) → Option α
  | [], s, K => K s
  | i :: r, s, K => xai rec T n0 i s fun s' => xops rec T n0 r s' K

/-- A slot of which is known what it is. -/
def refX (s : XSt) : Opd → Bool → XSt
  | .t g, b => ⟨(g, .p (.v (.bool b))) :: s.env, s.heap, s.base⟩
  | .c _, _ => s

def blkX (id : Nat) : Option (Ex × XSt) → Option (Ex × XSt)
  | some (.exit id', s) => bif Nat.beq id' id then some (.nor, s) else some (.exit id', s)
  | o => o

def thenX (o : Option (Ex × XSt)) (f : XSt → Option (Ex × XSt)) : Option (Ex × XSt) :=
  match o with
  | some (.nor, s) => f s
  | o => o

def stepX (T : XTab) (rec : Rec) : Rec := fun c s =>
  match c with
  | .skip => some (.nor, s)
  | .reg ops => xops rec T s.heap.length ops s fun s' => some (.nor, s')
  | .seq a b => thenX (rec a s) (rec b)
  | .cond c a b => match xo s.env c with
    | .p (.v (.bool t)) => bif t then rec a (refX s c true) else rec b (refX s c false)
    | _ => none
  | .blk id b => blkX id (rec b s)
  | .loop ann b => match norm ann s with
    | some s1 => thenX (rec b s1) (rec (.loop ann b))
    | none => none
  | .exit id => some (.exit id, s)
  | .ret => some (.ret, s)
  | .bad => none
  | .norm ann b => match norm ann s with
    | some s1 => rec b s1
    | none => none

def runF (T : XTab) : Nat → Rec
  | 0 => fun _ _ => none
  | m + 1 => stepX T (runF T m)

/-- What calls are held to: by runs of less fuel. -/
def ctxX (T : XTab) (N : Nat) : Ctx where
  C g := bif pfT T g then
      pureC fun args r => ∃ m, m < N ∧ ∃ pargs p, args = PV.avs pargs ∧ r = p.av ∧ callX (runF T m) T g (pargs.map .p) [] = some (.p p, [])
    else fun args H r H' => ∃ m, m < N ∧ ∃ k xargs X v X', args = XV.avs k xargs ∧ H = Z k (heapA k X) ∧ callX (runF T m) T g xargs X = some (v, X') ∧ r = v.av k ∧ H' = Z k (heapA k X')
  pf := pfT T

section
variable {T : XTab} {k : Nat}

theorem callX_pure {rec : Rec} {g : Nat} (h : pfT T g = true) {args : List XV} {X X' : XHeap} {v : XV} (hc : callX rec T g args X = some (v, X')) :
    X' = X ∧ ∃ (ps : List PV) (p : PV), args = ps.map XV.p ∧ v = .p p ∧ callX rec T g args [] = some (.p p, []) := by
  unfold pfT at h
  unfold callX at hc ⊢
  split at hc
  · rename_i F hT
    simp only [hT, XDef.pf] at h
    cases hl : Nat.ble args.length F.slots with
    | false => rw [hl, cond_false] at hc; cases hc
    | true =>
      rw [hl, h, cond_true, cond_true] at hc
      rw [cond_true, h, cond_true]
      split at hc
      · rename_i ps hp
        split at hc
        · rename_i p ho
          injection hc with hc; injection hc with e1 e2
          exact ⟨e2.symm, ps, p, (allP_av (k := 0) hp).1, e1.symm, rfl⟩
        · cases hc
      · cases hc
  · rename_i f hT
    split at hc
    · rename_i ps hp
      split at hc
      · rename_i p ho
        injection hc with hc; injection hc with e1 e2
        exact ⟨e2.symm, ps, p, (allP_av (k := 0) hp).1, e1.symm, rfl⟩
      · cases hc
    · cases hc
  · rename_i f hT
    simp [hT, XDef.pf] at h
  · cases hc

theorem callX_grow {rec : Rec} {g : Nat} (h : pfT T g = false) {args : List XV} {X X' : XHeap} {v : XV} (hc : callX rec T g args X = some (v, X')) : X.length ≤ X'.length := by
  unfold pfT at h
  unfold callX at hc
  split at hc
  · rename_i F hT
    simp only [hT, XDef.pf] at h
    cases hl : Nat.ble args.length F.slots with
    | false => rw [hl, cond_false] at hc; cases hc
    | true =>
      rw [hl, h, cond_true, cond_false] at hc
      have key : ∀ s, outT F X s = some (v, X') → X.length ≤ X'.length := by
        intro s hc
        unfold outT at hc
        cases hl2 : Nat.ble X.length s.heap.length with
        | false => rw [hl2, cond_false] at hc; cases hc
        | true =>
          rw [hl2, cond_true] at hc
          split at hc
          · injection hc with hc; injection hc with e1 e2; subst e2; simpa using hl2
          · cases hc
      unfold outN at hc
      split at hc
      · exact key _ hc
      · exact key _ hc
      · cases hc
  · rename_i f hT
    simp [hT, XDef.pf] at h
  · split at hc
    · rename_i v' Y hf
      cases hl2 : Nat.ble X.length Y.length with
      | false => rw [hl2, cond_false] at hc; cases hc
      | true =>
        rw [hl2, cond_true] at hc
        injection hc with hc; injection hc with e1 e2; subst e2; simpa using hl2
    · cases hc
  · cases hc

theorem lend0_ok {X : XHeap} {a x : XV} (h : lend0 X a = some x) : Bor1 (hf (Z k (heapA k X))) (a.av k) (x.av k) := by
  cases a with
  | ref a' off len =>
    simp only [lend0] at h
    split at h
    · rename_i es el ho
      cases hl : Nat.ble (off + len) el.length with
      | false => rw [hl, cond_false] at h; cases h
      | true =>
        rw [hl, cond_true] at h
        injection h with h; subst h
        refine .inr ⟨k + a', off, len, (XObj.pu es el).ao k, rfl, by simp only [hf, z_get, heapA_get, getO_some ho]; rfl, by simpa [ao_pu] using hl, ?_⟩
        simp [XV.av, PV.av, avss_map, ao_pu, List.map_take, List.map_drop]
    · cases h
  | _ => cases h

theorem lendC_ok {X : XHeap} : ∀ {args as : List XV} {t : Bool}, lendC X args = (as, t) → All2 (Bor1 (hf (Z k (heapA k X)))) (args.map (XV.av k)) (as.map (XV.av k))
  | [], as, t, h => by
    simp only [lendC] at h; injection h with h1 h2; subst h1
    exact trivial
  | a :: r, as, t, h => by
    cases hr : lendC X r with
    | mk as' t' =>
      have ih1 := lendC_ok hr
      simp only [lendC, hr] at h
      split at h
      · rename_i x hx
        injection h with h1 h2; subst h1; subst h2
        exact ⟨lend0_ok hx, ih1⟩
      · injection h with h1 h2; subst h1; subst h2
        exact ⟨.inl rfl, ih1⟩

theorem lend1_ok {X : XHeap} {a x : XV} (h : lend1 X a = some x) : Bor (hf (Z k (heapA k X))) (a.av k) (x.av k) := by
  cases a with
  | ref a' off len => exact .inl (lend0_ok h)
  | agg cs =>
    simp only [lend1] at h
    split at h
    · rename_i ds hd
      injection h with h; subst h
      refine .inr ⟨cs.map (XV.av k), ds.map (XV.av k), by simp [XV.av, xavs_map], xagg_av k ds, lendC_ok hd⟩
    · cases h
  | _ => cases h

theorem lendL_ok {X : XHeap} : ∀ {args as : List XV} {t : Bool}, lendL X args = (as, t) → All2 (Bor (hf (Z k (heapA k X)))) (args.map (XV.av k)) (as.map (XV.av k)) ∧ (t = false → as = args)
  | [], as, t, h => by
    simp only [lendL] at h; injection h with h1 h2; subst h1; subst h2
    exact ⟨trivial, fun _ => rfl⟩
  | a :: r, as, t, h => by
    cases hr : lendL X r with
    | mk as' t' =>
      obtain ⟨ih1, ih2⟩ := lendL_ok hr
      simp only [lendL, hr] at h
      split at h
      · rename_i x hx
        injection h with h1 h2; subst h1; subst h2
        exact ⟨⟨lend1_ok hx, ih1⟩, fun ht => by cases ht⟩
      · injection h with h1 h2; subst h1; subst h2
        exact ⟨⟨.inl (.inl rfl), ih1⟩, fun ht => by rw [ih2 ht]⟩

theorem scalX_ok {r : XV} (h : scalX r = true) : Scal (r.av k) := by
  cases r with
  | p x =>
    cases x with
    | v x => exact .v x
    | tup l =>
      simp only [XV.av, PV.av, avs_map]
      refine .tup _ (fun a ha => ?_)
      obtain ⟨p, hp, rfl⟩ := List.mem_map.1 ha
      have := List.all_eq_true.1 h p hp
      cases p with
      | v x => exact ⟨x, rfl⟩
      | _ => simp at this
    | _ => simp [scalX] at h
  | _ => simp [scalX] at h

theorem xcall_ok {m N : Nat} (hm : m < N) {g : Nat} {sh : List Sh} {args : List XV} {X X' : XHeap} {v : XV} (h : xcall (runF T m) T g sh args X = some (v, X')) {K : AV → Heap → Prop}
    (hk : K (v.av k) (Z k (heapA k X'))) : callK (ctxX T N) g (args.map (XV.av k)) (Z k (heapA k X)) K := by
  unfold xcall at h
  cases hp : pfT T g with
  | true =>
    rw [hp, cond_true] at h
    left
    refine ⟨hp, ?_⟩
    cases hl : lendL X args with
    | mk as lent =>
      rw [hl] at h
      simp only at h
      split at h
      · rename_i r Y hc
        cases hs : (!lent || scalX r) with
        | false => rw [hs, cond_false] at h; cases h
        | true =>
          rw [hs, cond_true] at h
          injection h with h; injection h with e1 e2; subst e1; subst e2
          obtain ⟨hX, ps, p, ha, hv, hc2⟩ := callX_pure hp hc
          subst hX
          obtain ⟨l1, l2⟩ := lendL_ok (k := k) hl
          refine ⟨as.map (XV.av k), (coXL sh as).map (XV.av k), r.av k, l1, ?_, coXL_coe k sh as, ?_, hk⟩
          · cases lent with
            | false => left; rw [l2 rfl]
            | true => right; exact scalX_ok (by simpa using hs)
          · show (ctxX T N).C g _ [] _ []
            simp only [ctxX, hp, cond_true]
            rw [ha, hv, ← xavs_map, avs_p]
            refine ⟨0, rfl, rfl, fun a ha => nr_avs ps a ha, nr_av p, m, hm, ps, p, rfl, rfl, ?_⟩
            rw [← ha]; exact hc2
      · cases h
  | false =>
    rw [hp, cond_false] at h
    right
    refine ⟨hp, (coXL sh args).map (XV.av k), v.av k, Z k (heapA k X'), coXL_coe k sh args, ?_, ?_, hk⟩
    · simp only [ctxX, hp, cond_false]
      exact ⟨m, hm, k, _, X, v, X', (xavs_map k _).symm, rfl, h, rfl, rfl⟩
    · rw [z_heap_len, z_heap_len]; have := callX_grow hp h; omega

theorem xop_ok {m N : Nat} (hm : m < N) {i : XI} (ho : okOp i.op = true) {env : XEnv} {X X' : XHeap} {v : XV} (h : xop (runF T m) T i env X = some (v, X')) {K : AV → Heap → Prop}
    (hk : K (v.av k) (Z k (heapA k X'))) : evOp (ctxX T N) i.op (envA k env) (Z k (heapA k X)) K := by
  have hmap : ∀ args : List Opd, args.all okO = true → args.map (opd (envA k env)) = (args.map (xo env)).map (XV.av k) := by
    intro args ha
    rw [List.map_map]
    exact List.map_congr_left (fun x hx => xo_av (List.all_eq_true.1 ha x hx))
  have gen : ∀ op : AOp, okOp op = true → xG op env X = some (v, X') → evG op (envA k env) (hf (Z k (heapA k X))) (Z k (heapA k X)).length (fun v us => K v (applyUs (Z k (heapA k X)) us)) := by
    intro op ho h
    rw [z_heap_len]
    exact xG_ok ho h (fun us hus => by rw [hus]; exact hk)
  unfold xop at h
  split at h
  · rename_i g args hop
    rw [hop] at ho ⊢
    simp only [evOp]
    rw [hmap args ho]
    exact xcall_ok hm h hk
  · rename_i x args hop
    rw [hop] at ho ⊢
    simp only [okOp, Bool.and_eq_true] at ho
    simp only [evOp, opK, xo_av (k := k) (env := env) ho.1]
    split at h
    · rename_i f cs hx
      rw [hx]
      refine ⟨f, PV.avs cs, rfl, ?_⟩
      have := xcall_ok (k := k) hm h hk
      rw [List.map_append, ← hmap args ho.2, ← xavs_map, avs_p] at this
      exact this
    · rename_i f cs hx
      rw [hx]
      refine ⟨f, XV.avs k cs, rfl, ?_⟩
      have := xcall_ok (k := k) hm h hk
      rw [List.map_append, ← hmap args ho.2, ← xavs_map] at this
      exact this
    · cases h
  · rename_i x args hop
    rw [hop] at ho ⊢
    simp only [okOp, Bool.and_eq_true] at ho
    simp only [evOp, opK, xo_av (k := k) (env := env) ho.1]
    split at h
    · rename_i f cs hx
      cases hp : pfT T f with
      | false => rw [hp, cond_false] at h; cases h
      | true =>
        rw [hp, cond_true] at h
        rw [hx]
        refine ⟨f, PV.avs cs, rfl, hp, ?_⟩
        have := xcall_ok (k := k) hm h hk
        rw [List.map_append, ← hmap args ho.2, ← xavs_map, avs_p] at this
        exact this
    · rename_i f cs hx
      cases hp : pfT T f with
      | false => rw [hp, cond_false] at h; cases h
      | true =>
        rw [hp, cond_true] at h
        rw [hx]
        refine ⟨f, XV.avs k cs, rfl, hp, ?_⟩
        have := xcall_ok (k := k) hm h hk
        rw [List.map_append, ← hmap args ho.2, ← xavs_map] at this
        exact this
    · cases h
  · rename_i h1 h2 h3
    have := gen i.op ho h
    cases hop : i.op <;> rw [hop] at this <;> first | exact this | exact absurd hop (h1 _ _) | exact absurd hop (h2 _ _) | exact absurd hop (h3 _ _)

theorem ref_old {n0 : Nat} {cs : List XV} (h : (cs.all fun c => match c with | .ref a _ _ => Nat.blt a n0 | _ => true) = true) {i off len : Nat} (hm : AV.ref i off len ∈ XV.avs k cs) : i < k + n0 := by
  rw [xavs_map] at hm
  obtain ⟨c, hc, e⟩ := List.mem_map.1 hm
  have := List.all_eq_true.1 h c hc
  cases c with
  | ref a off' len' =>
    simp only [XV.av] at e; injection e with e1 e2 e3
    have : a < n0 := by simpa using this
    omega
  | p x => have := nr_av x; simp only [XV.av] at e; rw [e] at this; cases this
  | _ => simp only [XV.av] at e; cases e

theorem nr_nm1 {i : Nat} {a : AV} (h : NR a) (hn : nm1 i a) : False := by
  cases h <;> try exact hn.elim
  rename_i cs hc
  obtain ⟨off, len, hm⟩ := hn
  have := hc _ hm
  cases this

theorem oldX_ok {n0 : Nat} {v : XV} (h : oldX n0 v = true) : oldAV (k + n0) (v.av k) := by
  cases v with
  | p x => cases x with
    | clo f cs =>
      intro i c hc hm
      exact (nr_nm1 (nr_avs cs c hc) hm).elim
    | agg cs =>
      intro i off len hm
      have := nr_avs cs _ hm
      cases this
    | _ => trivial
  | ref a off len => simp only [oldX] at h; simp only [XV.av, oldAV]; have : a < n0 := by simpa using h
                     omega
  | ptr a i j => simp only [oldX] at h; simp only [XV.av, oldAV]; have : a < n0 := by simpa using h
                 omega
  | clo f cs =>
    intro i c hc hm
    rw [xavs_map] at hc
    obtain ⟨x, hx, e⟩ := List.mem_map.1 hc
    have := List.all_eq_true.1 h x hx
    subst e
    cases x with
    | ref a off' len' =>
      have hm' : i = k + a := hm
      have : a < n0 := by simpa using this
      omega
    | agg ds =>
      obtain ⟨off, len, hm⟩ := hm
      exact ref_old this hm
    | p x => exact (nr_nm1 (nr_av x) hm).elim
    | _ => exact hm.elim
  | agg cs => intro i off len hm; exact ref_old h hm
  | _ => trivial

theorem newX_ok {n0 : Nat} {v : XV} (h : newX n0 v = true) : newAV (k + n0) (v.av k) := by
  cases v with
  | p x => cases x with
    | clo f cs => simp [newX] at h
    | agg cs => simp [newX] at h
    | _ => trivial
  | ref a off len => simp only [newX] at h; simp only [XV.av, newAV]; have : n0 ≤ a := by simpa using h
                     omega
  | ptr a i j => simp only [newX] at h; simp only [XV.av, newAV]; have : n0 ≤ a := by simpa using h
                 omega
  | clo f cs => simp [newX] at h
  | agg cs => simp [newX] at h
  | _ => trivial

def okTouched (op : AOp) : Bool := op.touched.all okO

theorem touched_ok {op : AOp} (h : okOp op = true) : ∀ x ∈ op.touched, okO x = true := by
  cases op <;> simp only [AOp.touched, okOp, Bool.and_eq_true] at h ⊢ <;> intro x hx
  case load => simp at hx; subst hx; exact h
  case store => simp at hx; subst hx; exact h.1
  case iad => simp at hx; subst hx; exact h.1
  case app => simp at hx; subst hx; exact h.1
  case call => exact List.all_eq_true.1 h x hx
  case dynP =>
    rcases List.mem_cons.1 hx with rfl | hx
    · exact h.1
    · exact List.all_eq_true.1 h.2 x hx
  all_goals simp at hx

theorem allOld_ok {n0 : Nat} {env : XEnv} : ∀ (l : List Opd), (∀ x ∈ l, okO x = true) → (∀ x ∈ l, oldX n0 (xo env x) = true) → allOld (k + n0) (envA k env) l
  | [], _, _ => trivial
  | x :: r, h1, h2 => by
    refine ⟨?_, allOld_ok r (fun y hy => h1 y (List.mem_cons_of_mem _ hy)) (fun y hy => h2 y (List.mem_cons_of_mem _ hy))⟩
    show oldAV _ (opd (envA k env) x)
    rw [xo_av (h1 x (List.mem_cons_self ..))]
    exact oldX_ok (h2 x (List.mem_cons_self ..))

theorem nwX_ok {n0 : Nat} {env : XEnv} {op : AOp} (ho : okOp op = true) (h : nwX n0 env op = true) : nwC (k + n0) (envA k env) op := by
  cases op with
  | app es s x =>
    simp only [okOp, Bool.and_eq_true] at ho
    show newAV _ (opd (envA k env) s)
    rw [xo_av ho.1]; exact newX_ok h
  | store n x y =>
    simp only [okOp, Bool.and_eq_true] at ho
    show newAV _ (opd (envA k env) x)
    rw [xo_av ho.1]; exact newX_ok h
  | _ => cases h

theorem envA_put (env : XEnv) (d : Option Nat) (v : XV) : envA k (xput env d v) = put (envA k env) d (v.av k) := by
  cases d <;> rfl

theorem xgo_ok {α : Type} {m N : Nat} (hm : m < N) {n0 : Nat} {i : XI} (ho : okOp i.op = true) {env : XEnv} {X : XHeap} {b : Nat} {K : XSt → Option α} {o : α} (h : xgo (runF T m) T n0 i env X b K = some o) {K' : ASt → Prop}
    (hk : ∀ v X', K ⟨xput env i.dst v, X', b⟩ = some o → K' ⟨put (envA k env) i.dst (v.av k), Z k (heapA k X'), k + b⟩) :
    evOpF (ctxX T N) (k + n0) i.old i.nw i.op (envA k env) (Z k (heapA k X)) (fun v H => K' ⟨put (envA k env) i.dst v, H, k + b⟩) := by
  unfold xgo at h
  cases hmk : okMark n0 i env with
  | false => rw [hmk, cond_false] at h; cases h
  | true =>
    rw [hmk, cond_true] at h
    simp only [okMark, Bool.and_eq_true, Bool.or_eq_true, Bool.not_eq_true'] at hmk
    split at h
    · rename_i v X' hx
      refine ⟨fun hold => ?_, fun hnw => ?_, xop_ok hm ho hx (hk v X' h)⟩
      · rcases hmk.1 with h1 | h1
        · rw [h1] at hold; cases hold
        · exact allOld_ok _ (touched_ok ho) (fun x hx => List.all_eq_true.1 h1 x hx)
      · rcases hmk.2 with h1 | h1
        · rw [h1] at hnw; cases hnw
        · exact nwX_ok ho h1
    · cases h

theorem xops_ok {α : Type} {m N : Nat} (hm : m < N) {n0 : Nat} : ∀ {ops : List XI}, (ops.all fun i => okOp i.op) = true → ∀ {s : XSt} {K : XSt → Option α} {o : α}, xops (runF T m) T n0 ops s K = some o → ∀ {K' : ASt → Prop},
    (∀ s', K s' = some o → K' (s'.a k)) → evOps (ctxX T N) (k + n0) (ops.map XI.ai) K' (s.a k)
  | [], _, s, K, o, h, K', hk => hk s h
  | i :: r, ho, s, K, o, h, K', hk => by
    simp only [List.all_cons, Bool.and_eq_true] at ho
    simp only [List.map_cons, evOps, xops] at h ⊢
    have rec' : ∀ s', xops (runF T m) T n0 r s' K = some o → evOps (ctxX T N) (k + n0) (r.map XI.ai) K' (s'.a k) := fun s' h' => xops_ok hm ho.2 h' hk
    have go : ∀ env, xgo (runF T m) T n0 i env s.heap s.base (fun s' => xops (runF T m) T n0 r s' K) = some o →
        evOpF (ctxX T N) (k + n0) i.old i.nw i.op (envA k env) (Z k (heapA k s.heap)) (fun v H => evOps (ctxX T N) (k + n0) (r.map XI.ai) K' ⟨put (envA k env) i.dst v, H, k + s.base⟩) := by
      intro env h
      refine xgo_ok (K' := fun t => evOps (ctxX T N) (k + n0) (r.map XI.ai) K' t) hm ho.1 h (fun v X' h' => ?_)
      have := rec' _ h'
      simp only [XSt.a, envA_put] at this
      exact this
    unfold xai at h
    unfold evAI
    have e1 : (XI.ai i).guard = i.guard := rfl
    rw [e1]
    split at h
    · rename_i hg
      rw [hg]
      exact go _ h
    · rename_i g w hg
      rw [hg]
      split at h
      · rename_i t hx
        have hv : opd (s.a k).env (.t g) = .v (.bool t) := by
          show lookE (envA k s.env) g = _
          rw [look_env, hx]; rfl
        cases w with
        | true =>
          simp only [opK]
          refine .inl ⟨t, hv, fun ht => ?_, fun ht => ?_⟩
          · subst ht; exact go _ h
          · subst ht
            have := rec' _ h
            simp only [XSt.a, envA_put] at this
            exact this
        | false =>
          simp only [opK]
          refine .inl ⟨t, hv, fun ht => ?_, fun ht => ?_⟩
          · subst ht
            have := rec' _ h
            simp only [XSt.a, envA_put] at this
            exact this
          · subst ht; exact go _ h
      · rename_i hx
        have hv : opd (s.a k).env (.t g) = .v undef := by
          show lookE (envA k s.env) g = _
          rw [look_env, hx]; rfl
        have := rec' _ h
        simp only [XSt.a, envA_put] at this
        cases w <;> exact .inr ⟨hv, this⟩
      · cases h

end
end Go.Abs

namespace Go.Abs
set_option linter.unusedSimpArgs false
open Go Go.RowKit

section
variable {T : XTab} {k : Nat}

theorem sat_ref {s : XSt} {c : Opd} {b : Bool} : (refX s c b).a k = refine1 (s.a k) c b := by
  cases c <;> rfl

theorem thenX_some {o : Option (Ex × XSt)} {f : XSt → Option (Ex × XSt)} {r : Ex × XSt} (h : thenX o f = some r) : ∃ e s, o = some (e, s) ∧ ((e = .nor ∧ f s = some r) ∨ (e ≠ .nor ∧ r = (e, s))) := by
  cases o with
  | none => cases h
  | some q =>
    obtain ⟨e, s⟩ := q
    refine ⟨e, s, rfl, ?_⟩
    cases e with
    | nor => exact .inl ⟨rfl, h⟩
    | exit id => exact .inr ⟨by simp, by simp only [thenX] at h; injection h with h; exact h.symm⟩
    | ret => exact .inr ⟨by simp, by simp only [thenX] at h; injection h with h; exact h.symm⟩

def QX (k : Nat) (e : Ex) (s : XSt) : Ex → ASt → Prop := fun e' t => e' = e ∧ Wk t (s.a k)

/-- What a run with fuel gives, the code does. -/
theorem runF_sat : ∀ (m N : Nat), m ≤ N → ∀ (c : XCode) (s : XSt) (e : Ex) (s' : XSt), okX c = true → runF T m c s = some (e, s') → Sat (ctxX T N) (er c) (QX k e s') (s.a k) := by
  intro m
  induction m using Nat.strongRecOn with
  | _ m ih =>
    intro N hN c s e s' hok h
    cases m with
    | zero => cases h
    | succ m =>
      have ih' := fun c s e s' => ih m (Nat.lt_succ_self m) N (by omega) c s e s'
      simp only [runF] at h
      cases c with
      | skip => simp only [stepX] at h; injection h with h; injection h with e1 e2; subst e1; subst e2; exact sat_skip ⟨rfl, .refl _⟩
      | exit id => simp only [stepX] at h; injection h with h; injection h with e1 e2; subst e1; subst e2; exact sat_exit ⟨rfl, .refl _⟩
      | ret => simp only [stepX] at h; injection h with h; injection h with e1 e2; subst e1; subst e2; exact sat_ret ⟨rfl, .refl _⟩
      | bad => cases h
      | reg ops =>
        simp only [stepX] at h
        refine sat_reg ?_
        have hlen : (s.a k).heap.length = k + s.heap.length := z_heap_len
        rw [hlen]
        refine xops_ok (N := N) (by omega) hok h (fun s1 h1 => ?_)
        injection h1 with h1; injection h1 with e1 e2; subst e1; subst e2
        exact ⟨rfl, .refl _⟩
      | seq a b =>
        simp only [stepX] at h
        simp only [okX, Bool.and_eq_true] at hok
        obtain ⟨e1, s1, h1, h2⟩ := thenX_some h
        refine sat_seq ((ih' a s e1 s1 hok.1 h1).mono (fun e' t hq => ?_))
        obtain ⟨rfl, hw⟩ := hq
        rcases h2 with ⟨rfl, h2⟩ | ⟨hne, h2⟩
        · exact Sat.wk hw (ih' b s1 e s' hok.2 h2)
        · injection h2 with e1 e2; subst e1; subst e2
          cases e with
          | nor => exact absurd rfl hne
          | exit id => exact ⟨rfl, hw⟩
          | ret => exact ⟨rfl, hw⟩
      | cond c a b =>
        simp only [stepX] at h
        simp only [okX, Bool.and_eq_true] at hok
        split at h
        · rename_i t hx
          refine sat_cond (b := t) ?_ (fun ht => ?_) (fun ht => ?_)
          · show opd (envA k s.env) c = _
            rw [xo_av hok.1.1, hx]; rfl
          · subst ht; rw [← sat_ref]; exact ih' a _ e s' hok.1.2 h
          · subst ht; rw [← sat_ref]; exact ih' b _ e s' hok.2 h
        · cases h
      | blk id b =>
        simp only [stepX] at h
        cases hb : runF T m b s with
        | none => rw [hb] at h; cases h
        | some q =>
          obtain ⟨e1, s1⟩ := q
          rw [hb] at h
          refine sat_blk ((ih' b s e1 s1 hok hb).mono (fun e' t hq => ?_))
          obtain ⟨rfl, hw⟩ := hq
          cases e' with
          | nor => simp only [blkX] at h; injection h with h; injection h with e1 e2; subst e1; subst e2; exact ⟨rfl, hw⟩
          | ret => simp only [blkX] at h; injection h with h; injection h with e1 e2; subst e1; subst e2; exact ⟨rfl, hw⟩
          | exit id' =>
            simp only [blkX] at h
            have e0 : (id' == id) = Nat.beq id' id := by rw [Bool.eq_iff_iff, beq_iff_eq, Nat.beq_eq]
            simp only [Ex.blk]
            rw [e0]
            cases hid : Nat.beq id' id with
            | true => rw [hid, cond_true] at h; injection h with h; injection h with e1 e2; subst e1; subst e2; exact ⟨rfl, hw⟩
            | false => rw [hid, cond_false] at h; injection h with h; injection h with e1 e2; subst e1; subst e2; exact ⟨rfl, hw⟩
      | norm ann b =>
        simp only [stepX] at h
        split at h
        · rename_i s1 hn
          exact Sat.wk (norm_wk hn) (ih' b s1 e s' hok h)
        · cases h
      | loop ann b =>
        simp only [stepX] at h
        split at h
        · rename_i s1 hn
          refine sat_loop (fun μ t => ∃ x, t = XSt.a k x ∧ μ ≤ m ∧ thenX (runF T μ b x) (runF T μ (.loop ann b)) = some (e, s')) ⟨m, s1.a k, ⟨s1, rfl, Nat.le_refl _, h⟩, norm_wk hn⟩ ?_
          rintro μ t ⟨x, rfl, hμ, hx⟩
          obtain ⟨e1, s2, h1, h2⟩ := thenX_some hx
          refine (ih μ (by omega) N (by omega) b x e1 s2 hok h1).mono (fun e' t hq => ?_)
          obtain ⟨rfl, hw⟩ := hq
          rcases h2 with ⟨rfl, h2⟩ | ⟨hne, h2⟩
          · cases μ with
            | zero => cases h2
            | succ μ =>
              simp only [runF, stepX] at h2
              split at h2
              · rename_i s3 hn3
                exact ⟨μ, s3.a k, ⟨s3, rfl, by omega, h2⟩, by omega, hw.trans (norm_wk hn3)⟩
              · cases h2
          · injection h2 with e1 e2; subst e1; subst e2
            cases e with
            | nor => exact absurd rfl hne
            | exit id => exact ⟨rfl, hw⟩
            | ret => exact ⟨rfl, hw⟩
        · cases h

/-! What comes back -/

theorem cz_coe_trans {ρ : Nat → Nat} {Fz : Nat → Prop} {H H' : HF} {a b : AV} (hc : Cz ρ Fz H H' a b) : ∀ {c : AV}, Coe b c → Cz ρ Fz H H' a c := by
  have gl : ∀ {α : Type} {l l' : List α}, l.length = l'.length → ∀ {i : Nat} {e : α}, l'[i]? = some e → ∃ e', l[i]? = some e' := fun h _ _ hi => get_pair h hi
  have cells : ∀ {cs cs' cs'' : List AV}, cs.length = cs'.length → cs'.length = cs''.length →
      (∀ (j : Nat) (x x' : AV), cs[j]? = some x → cs'[j]? = some x' → ∀ {c : AV}, Coe x' c → Cz ρ Fz H H' x c) → (∀ (j : Nat) (x x' : AV), cs'[j]? = some x → cs''[j]? = some x' → Coe x x') →
      ∀ (j : Nat) (x x' : AV), cs[j]? = some x → cs''[j]? = some x' → Cz ρ Fz H H' x x' := by
    intro cs cs' cs'' h1 h2 ih hc j x x'' hx hx''
    obtain ⟨x', hx'⟩ := gl h2 hx''
    exact ih j x x' hx hx' (hc j x' x'' hx' hx'')
  induction hc with
  | u a => intro c h; cases h; exact .u a
  | v x => intro c h; cases h; exact .v x
  | emp => intro c h; cases h with
    | refl => exact .emp
    | empRd es => exact .empRd es
  | empRd es => intro c h; cases h with
    | refl => exact .empRd es
    | rd es l l' hl hz h => have : l' = [] := List.length_eq_zero_iff.1 hl.symm
                            subst this; exact .empRd es
  | rd es l l' hl hz h ih =>
    intro c hc
    cases hc with
    | refl => exact .rd es l l' hl hz h
    | rd es l' l'' hl2 hz2 h2 =>
      refine .rd es l l'' (hl.trans hl2) (fun i e e'' he he'' => ?_) (fun i e e'' j x x'' he he'' hx hx'' => ?_)
      · obtain ⟨e', he'⟩ := gl hl2 he''
        rw [hz i e e' he he', hz2 i e' e'' he' he'']
      · obtain ⟨e', he'⟩ := gl hl2 he''
        exact cells (hz i e e' he he') (hz2 i e' e'' he' he'') (fun j x x' hx hx' => ih i e e' j x x' he he' hx hx') (fun j x x' hx hx' => h2 i e' e'' j x x' he' he'' hx hx') j x x'' hx hx''
  | rp cs cs' hl h ih => intro c hc; cases hc with
    | refl => exact .rp cs cs' hl h
    | rp cs' cs'' hl2 h2 => exact .rp cs cs'' (hl.trans hl2) (cells hl hl2 ih h2)
  | agg cs cs' hl h ih => intro c hc; cases hc with
    | refl => exact .agg cs cs' hl h
    | agg cs' cs'' hl2 h2 => exact .agg cs cs'' (hl.trans hl2) (cells hl hl2 ih h2)
  | tup cs cs' hl h ih => intro c hc; cases hc with
    | refl => exact .tup cs cs' hl h
    | tup cs' cs'' hl2 h2 => exact .tup cs cs'' (hl.trans hl2) (cells hl hl2 ih h2)
  | clo f cs cs' hl h ih => intro c hc; cases hc with
    | refl => exact .clo f cs cs' hl h
    | clo f cs' cs'' hl2 h2 => exact .clo f cs cs'' (hl.trans hl2) (cells hl hl2 ih h2)
  | ref a off len o h => intro c hc; cases hc; exact .ref a off len o h
  | ptr a i j o h => intro c hc; cases hc; exact .ptr a i j o h
  | frz i off len o l' hz ho hle hl hlz h ih =>
    intro c hc
    cases hc with
    | refl => exact .frz i off len o l' hz ho hle hl hlz h
    | rd es l' l'' hl2 hz2 h2 =>
      refine .frz i off len o l'' hz ho hle (hl.trans hl2) (fun q e e'' he he'' => ?_) (fun q e e'' j x x'' he he'' hx hx'' => ?_)
      · obtain ⟨e', he'⟩ := gl hl2 he''
        rw [hlz q e e' he he', hz2 q e' e'' he' he'']
      · obtain ⟨e', he'⟩ := gl hl2 he''
        exact cells (hlz q e e' he he') (hz2 q e' e'' he' he'') (fun j x x' hx hx' => ih q e e' j x x' he he' hx hx') (fun j x x' hx hx' => h2 q e' e'' j x x' he' he'' hx hx') j x x'' hx hx''

theorem resXs_ok {s : XSt} : ∀ {rs : List RV} {vs : List XV}, resXs s rs = some vs → resAll (s.a k) rs (vs.map (XV.av k))
  | [], vs, h => by simp only [resXs] at h; injection h with h; subst h; trivial
  | r :: rs, vs, h => by
    simp only [resXs] at h
    split at h
    · rename_i v hv
      split at h
      · rename_i vs' hvs
        injection h with h; subst h
        refine ⟨?_, resXs_ok hvs⟩
        cases r with
        | t n =>
          simp only [resX] at hv; injection hv with hv; subst hv
          show _ = lookE (envA k s.env) n
          rw [look_env]
        | c n g sz =>
          simp only [resX] at hv
          split at hv
          · rename_i v' X' hx
            injection hv with hv; subst hv
            have := xG_ok (k := k) (K := fun v'' _ => v'' = v'.av k) (op := .load g sz (.t n)) rfl hx (fun us _ => rfl)
            exact this
          · cases hv
      · cases h
    · cases h

theorem tupX_av (vs : List XV) : (tupX vs).av k = tupR (vs.map (XV.av k)) := by
  have key : ∀ vs : List XV, XV.av k (match allP vs with | some ps => .p (.tup ps) | none => .tup vs) = .tup (vs.map (XV.av k)) := by
    intro vs
    split
    · rename_i ps hp; simp only [XV.av, PV.av]; rw [← xavs_map, (allP_av (k := k) hp).2]
    · simp only [XV.av]; rw [xavs_map]
  match vs with
  | [] => exact key []
  | [v] => rfl
  | a :: b :: r => exact key (a :: b :: r)

end

/-- The tables' functions are the program's. -/
structure TabOK (P : Program) (fm : Nat → Nat) (T : XTab) : Prop where
  mixed : P.follows .mixedOrders = true
  fn : ∀ f F, T (fm f) = some (.fn F) → fnTr P fm (pfT T) f = some (F.slots, F.res, er F.code) ∧ okX F.code = true ∧ F.res.length ≤ 4
  prim : ∀ f φ, T (fm f) = some (.prim φ) → FOK P fm f (pureC fun args r => ∃ pargs p, args = PV.avs pargs ∧ r = p.av ∧ φ pargs = some p)
  primN : ∀ f φ, T (fm f) = some (.primN φ) → FOK P fm f (fun args H r H' => ∃ k xargs X v X', args = XV.avs k xargs ∧ H = Z k (heapA k X) ∧ φ xargs X = some (v, X') ∧ X.length ≤ X'.length ∧ r = v.av k ∧ H' = Z k (heapA k X'))

theorem entry_av (k : Nat) : ∀ (i : Nat) (l : List XV), envA k (entryX i l) = entryE i (XV.avs k l)
  | i, [] => rfl
  | i, a :: r => by
    have := entry_av k (i + 1) r
    unfold envA at this ⊢
    simp only [entryX, List.map_cons, XV.avs, entryE, this]

theorem fok_wk {P : Program} {fm : Nat → Nat} {f : FuncId} {c c' : Contract} (h : FOK P fm f c) (hc : ∀ a H r H', c' a H r H' → c a H r H') : FOK P fm f c' :=
  fun args H r H' h' => h args H r H' (hc _ _ _ _ h')

theorem allP_p (ps : List PV) : allP (ps.map XV.p) = some ps := by
  induction ps with
  | nil => rfl
  | cons a r ih => simp [allP, ih]

theorem sat_sharp {C : Ctx} {c : ACode} {st : ASt} {k : Nat} {e : Ex} {s : XSt} (h : Sat C c (QX k e s) st) : Sat C c (fun e' t => e' = e ∧ t = s.a k) st := by
  intro P fm n code hC hm ht w0 L0 a w hs
  refine wp_mono (h P fm n code hC hm ht w0 L0 a w hs) (fun ex a' w' hp => ?_)
  cases ex with
  | normal => obtain ⟨t, ⟨h1, h2⟩, h3⟩ := hp; exact ⟨_, ⟨h1, rfl⟩, h2 _ _ _ _ _ _ h3⟩
  | exit id => obtain ⟨t, ⟨h1, h2⟩, h3⟩ := hp; exact ⟨_, ⟨h1, rfl⟩, h2 _ _ _ _ _ _ h3⟩
  | ret => obtain ⟨t, ⟨h1, h2⟩, h3⟩ := hp; exact ⟨_, ⟨h1, rfl⟩, h2 _ _ _ _ _ _ h3⟩
  | goto l => exact hp.elim
  | panic ch => exact hp.elim
  | outgrown => exact hp.elim

section
variable {P : Program} {fm : Nat → Nat} {T : XTab}

theorem outS_some {F : XFn} {s : XSt} {p : PV} (h : outS F s = some p) : s.base = 0 ∧ ∃ vs q G, resXs s F.res = some vs ∧ frzV 6 s.heap (tupX vs) = some (q, G) ∧ p = co F.sh q := by
  unfold outS at h
  cases hb : Nat.beq s.base 0 with
  | false => rw [hb, cond_false] at h; cases h
  | true =>
    rw [hb, cond_true] at h
    split at h
    · rename_i vs hv
      split at h
      · rename_i q G hq
        injection h with h
        exact ⟨Nat.eq_of_beq_eq_true hb, vs, q, G, hv, hq, h.symm⟩
      · cases h
    · cases h

theorem outP_some {F : XFn} {o : Option (Ex × XSt)} {p : PV} (h : outP F o = some p) : ∃ e s vs q G, o = some (e, s) ∧ (∀ id, e ≠ .exit id) ∧ s.base = 0 ∧ resXs s F.res = some vs ∧ frzV 6 s.heap (tupX vs) = some (q, G) ∧ p = co F.sh q := by
  unfold outP at h
  split at h
  · rename_i s
    obtain ⟨h1, vs, q, G, h2, h3, h4⟩ := outS_some h
    exact ⟨.nor, s, vs, q, G, rfl, (fun id h => by cases h), h1, h2, h3, h4⟩
  · rename_i s
    obtain ⟨h1, vs, q, G, h2, h3, h4⟩ := outS_some h
    exact ⟨.ret, s, vs, q, G, rfl, (fun id h => by cases h), h1, h2, h3, h4⟩
  · cases h

theorem outT_some {F : XFn} {X X' : XHeap} {s : XSt} {v : XV} (h : outT F X s = some (v, X')) : ∃ vs, resXs s F.res = some vs ∧ v = tupX vs ∧ X' = s.heap := by
  unfold outT at h
  cases hb : Nat.ble X.length s.heap.length with
  | false => rw [hb, cond_false] at h; cases h
  | true =>
    rw [hb, cond_true] at h
    split at h
    · rename_i vs hv
      injection h with h; injection h with e1 e2
      exact ⟨vs, hv, e1.symm, e2.symm⟩
    · cases h

theorem outN_some {F : XFn} {X X' : XHeap} {o : Option (Ex × XSt)} {v : XV} (h : outN F X o = some (v, X')) : ∃ e s vs, o = some (e, s) ∧ (∀ id, e ≠ .exit id) ∧ resXs s F.res = some vs ∧ v = tupX vs ∧ X' = s.heap := by
  unfold outN at h
  split at h
  · rename_i s
    obtain ⟨vs, h1, h2, h3⟩ := outT_some h
    exact ⟨.nor, s, vs, rfl, (fun id h => by cases h), h1, h2, h3⟩
  · rename_i s
    obtain ⟨vs, h1, h2, h3⟩ := outT_some h
    exact ⟨.ret, s, vs, rfl, (fun id h => by cases h), h1, h2, h3⟩
  · cases h

theorem frz_out {k : Nat} {X : XHeap} {v : XV} {p : PV} {G : List Nat} {sh : Sh} (h : frzV 6 X v = some (p, G)) : Out (Z k (heapA k X)) (v.av k) (co sh p).av :=
  cz_coe_trans (frzV_ok (ρ := id) (Fz := fun _ => True) (H' := fun _ => none) 6 v p G h (fun _ _ => trivial)) (co_coe sh p)

theorem pure_ctx (T : XTab) (N g : Nat) (h : pfT T g = true) : Pure ((ctxX T N).C g) := by
  simp only [ctxX, h, cond_true]; exact pure_pureC _

/-- The contracts hold, whatever the fuel. -/
theorem ctxX_ok (hT : TabOK P fm T) : ∀ N, CtxOK P fm (ctxX T N) := by
  intro N
  have nr : ∀ N, ∀ f args H r H', pfT T f = true → (ctxX T N).C f args H r H' → (∀ a ∈ args, NR a) ∧ NR r ∧ H' = H := fun N f args H r H' hp h => (pure_ctx T N f hp).nr _ _ _ _ h
  have any : ∀ N, ∀ f args r n, pfT T f = true → (ctxX T N).C f args [] r [] → (ctxX T N).C f args (List.replicate n none) r (List.replicate n none) := fun N f args r n hp h => (pure_ctx T N f hp).any _ _ _ h
  induction N with
  | zero =>
    refine ⟨fun f args H r H' h => ?_, nr 0, any 0⟩
    exfalso
    simp only [ctxX] at h
    cases hp : pfT T (fm f) with
    | true => rw [hp, cond_true] at h; obtain ⟨n, _, _, _, _, m, hm, _⟩ := h; omega
    | false => rw [hp, cond_false] at h; obtain ⟨m, hm, _⟩ := h; omega
  | succ N ih =>
    refine ⟨fun f => ?_, nr _, any _⟩
    cases hp : pfT T (fm f) with
    | true =>
      simp only [ctxX, hp, cond_true]
      cases hD : T (fm f) with
      | none =>
        intro args H r H' h
        obtain ⟨n, _, _, _, _, m, hm, ps, p, _, _, hc⟩ := h
        simp [callX, hD] at hc
      | some D =>
        cases D with
        | prim φ =>
          refine fok_wk (hT.prim f φ hD) (fun args H r H' h => ?_)
          obtain ⟨n, h1, h2, h3, h4, m, hm, ps, p, h5, h6, hc⟩ := h
          refine ⟨n, h1, h2, h3, h4, ps, p, h5, h6, ?_⟩
          simp only [callX, hD, allP_p] at hc
          split at hc
          · rename_i q hq; injection hc with hc; injection hc with hc _; injection hc with hc; rw [hq, hc]
          · cases hc
        | primN φ => simp [pfT, hD, XDef.pf] at hp
        | fn F =>
          have hF : F.pf = true := by simpa [pfT, hD, XDef.pf] using hp
          obtain ⟨h1, h2, h3⟩ := hT.fn f F hD
          refine fok_pure ih hT.mixed h1 h3 ?_
          rintro args r ⟨m, hm, ps, p, rfl, rfl, hc⟩
          simp only [callX, hD] at hc
          cases hl : Nat.ble (ps.map XV.p).length F.slots with
          | false => rw [hl, cond_false] at hc; cases hc
          | true =>
            rw [hl, hF, cond_true, cond_true, allP_p] at hc
            refine ⟨by simpa [avs_map] using hl, fun k => ?_⟩
            simp only at hc
            split at hc
            · rename_i p' ho
              injection hc with hc; injection hc with hc _; injection hc with hc; subst hc
              obtain ⟨e, s, vs, q, G, hr, hne, hb, hres, hfz, rfl⟩ := outP_some ho
              have hs := sat_sharp (runF_sat (T := T) (k := k) m N (by omega) F.code _ e s h2 hr)
              have est : XSt.a k ⟨entryX 0 (ps.map .p), [], 0⟩ = ⟨entryE 0 (PV.avs ps), Z k [], k⟩ := by
                simp only [XSt.a, entry_av, avs_p]; rfl
              rw [est] at hs
              refine hs.mono (fun e' t ht => ?_)
              obtain ⟨rfl, rfl⟩ := ht
              have post : (s.a k).base = k ∧ ∃ vs, resAll (s.a k) F.res vs ∧ Out (s.a k).heap (tupR vs) (co F.sh q).av := by
                refine ⟨by show k + s.base = k; omega, _, resXs_ok hres, ?_⟩
                rw [← tupX_av]; exact frz_out hfz
              cases e' with
              | exit id => exact absurd rfl (hne id)
              | nor => exact post
              | ret => exact post
            · cases hc
    | false =>
      simp only [ctxX, hp, cond_false]
      cases hD : T (fm f) with
      | none => simp [pfT, hD] at hp
      | some D =>
        cases D with
        | prim φ => simp [pfT, hD, XDef.pf] at hp
        | primN φ =>
          refine fok_wk (hT.primN f φ hD) (fun args H r H' h => ?_)
          obtain ⟨m, hm, k, xargs, X, v, X', h1, h2, hc, h3, h4⟩ := h
          have hg := callX_grow hp hc
          simp only [callX, hD] at hc
          split at hc
          · rename_i v' Y hq
            cases hb : Nat.ble X.length Y.length with
            | false => rw [hb, cond_false] at hc; cases hc
            | true => rw [hb, cond_true] at hc; injection hc with hc; injection hc with e1 e2; subst e1; subst e2; exact ⟨k, xargs, X, _, _, h1, h2, hq, hg, h3, h4⟩
          · cases hc
        | fn F =>
          have hF : F.pf = false := by simpa [pfT, hD, XDef.pf] using hp
          obtain ⟨h1, h2, h3⟩ := hT.fn f F hD
          refine fok_of_sat ih hT.mixed h1 h3 ?_
          rintro args H r H' ⟨m, hm, k, xargs, X, v, X', rfl, rfl, hc, rfl, rfl⟩
          simp only [callX, hD] at hc
          cases hl : Nat.ble xargs.length F.slots with
          | false => rw [hl, cond_false] at hc; cases hc
          | true =>
            rw [hl, hF, cond_true, cond_false] at hc
            refine ⟨by simpa [xavs_map] using hl, ?_⟩
            obtain ⟨e, s, vs, hr, hne, hres, rfl, rfl⟩ := outN_some hc
            have hs := sat_sharp (runF_sat (T := T) (k := k) m N (by omega) F.code _ e s h2 hr)
            have est : XSt.a k ⟨entryX 0 xargs, X, X.length⟩ = ⟨entryE 0 (XV.avs k xargs), Z k (heapA k X), (Z k (heapA k X)).length⟩ := by
              simp only [XSt.a, entry_av, z_heap_len]
            rw [est] at hs
            refine hs.mono (fun e' t ht => ?_)
            obtain ⟨rfl, rfl⟩ := ht
            have post : ∃ vs', resAll (s.a k) F.res vs' ∧ Fin (s.a k) (tupR vs') ((tupX vs).av k) (Z k (heapA k s.heap)) := by
              refine ⟨_, resXs_ok hres, ?_⟩
              rw [← tupX_av]; exact fin_same (.refl _)
            cases e' with
            | exit id => exact absurd rfl (hne id)
            | nor => exact post
            | ret => exact post

end
end Go.Abs

namespace Go.Abs
set_option linter.unusedSimpArgs false
open Go Go.RowKit

/-- One says at most what the other says. -/
def LeR (f g : Rec) : Prop := ∀ c s r, f c s = some r → g c s = some r

structure Chain (f : Nat → Rec) (g : Rec) : Prop where
  le : ∀ m, LeR (f m) g
  ev : ∀ c s r, g c s = some r → ∃ m, ∀ m', m ≤ m' → f m' c s = some r

/-- What is made of runs goes on in the limit, and comes from it. -/
def Good {α : Type} (G : Rec → Option α) : Prop := ∀ (f : Nat → Rec) (g : Rec), Chain f g →
  (∀ m a, G (f m) = some a → G g = some a) ∧ ∀ a, G g = some a → ∃ m, ∀ m', m ≤ m' → G (f m') = some a

theorem good_const {α : Type} (x : Option α) : Good (fun _ => x) := fun _ _ _ => ⟨fun _ _ h => h, fun _ h => ⟨0, fun _ _ => h⟩⟩
theorem good_rec (c : XCode) (s : XSt) : Good (fun rec => rec c s) := fun _ _ h => ⟨fun m a ha => h.le m c s a ha, fun a ha => h.ev c s a ha⟩
theorem good_bind {α β : Type} {F : Rec → Option α} {G : α → Rec → Option β} (hF : Good F) (hG : ∀ a, Good (G a)) : Good (fun rec => match F rec with | some a => G a rec | none => none) := by
  intro f g h
  obtain ⟨h1, h2⟩ := hF f g h
  refine ⟨fun m b hb => ?_, fun b hb => ?_⟩
  · simp only at hb ⊢
    split at hb
    · rename_i a ha
      rw [h1 m a ha]; exact (hG a f g h).1 m b hb
    · cases hb
  · simp only at hb ⊢
    split at hb
    · rename_i a ha
      obtain ⟨m1, k1⟩ := h2 a ha
      obtain ⟨m2, k2⟩ := (hG a f g h).2 b hb
      refine ⟨max m1 m2, fun m' hm' => ?_⟩
      rw [k1 m' (by omega)]; exact k2 m' (by omega)
    · cases hb
theorem good_of {α : Type} {F G : Rec → Option α} (h : Good F) (e : ∀ rec, G rec = F rec) : Good G := by
  have : G = F := funext e
  rw [this]; exact h
theorem good_cond {α : Type} {F G : Rec → Option α} (b : Bool) (hF : Good F) (hG : Good G) : Good (fun rec => bif b then F rec else G rec) := by
  cases b
  · exact hG
  · exact hF

theorem good_map {α β : Type} {F : Rec → Option α} (hF : Good F) (φ : Option α → Option β) (h0 : φ none = none) : Good (fun rec => φ (F rec)) := by
  have := good_bind (G := fun a _ => φ (some a)) hF (fun a => good_const _)
  refine fun f g h => ?_
  have e : (fun rec : Rec => φ (F rec)) = fun rec => match F rec with | some a => φ (some a) | none => none := by
    funext rec
    cases hF : F rec <;> simp [h0]
  rw [e]; exact this f g h

theorem good_callX (T : XTab) (g : Nat) (args : List XV) (X : XHeap) : Good (fun rec => callX rec T g args X) := by
  unfold callX
  cases T g with
  | none => exact good_const _
  | some D =>
    cases D with
    | prim φ => exact good_const _
    | primN φ => exact good_const _
    | fn F =>
      simp only
      refine good_cond _ (good_cond _ ?_ ?_) (good_const _)
      · cases allP args with
        | none => exact good_const _
        | some ps =>
        refine good_of (good_bind (G := fun p _ => some (XV.p p, X)) (good_map (good_rec F.code ⟨entryX 0 args, [], 0⟩) (outP F) rfl) (fun p => good_const _)) (fun rec => ?_)
        simp only
        cases outP F (rec F.code { env := entryX 0 args, heap := [], base := 0 }) <;> rfl
      · exact good_map (good_rec _ _) (outN F X) rfl

theorem good_xcall (T : XTab) (g : Nat) (sh : List Sh) (args : List XV) (X : XHeap) : Good (fun rec => xcall rec T g sh args X) := by
  unfold xcall
  refine good_cond _ ?_ (good_callX _ _ _ _)
  cases lendL X args with
  | mk as lent =>
    refine good_of (good_bind (F := fun rec => callX rec T g (coXL sh as) X) (G := fun q _ => bif !lent || scalX q.1 then some (q.1, q.2) else none) (good_callX _ _ _ _) (fun q => good_const _)) (fun rec => ?_)
    simp only
    cases callX rec T g (coXL sh as) X <;> rfl

theorem good_xop (T : XTab) (i : XI) (env : XEnv) (X : XHeap) : Good (fun rec => xop rec T i env X) := by
  unfold xop
  cases i.op with
  | call g args => exact good_xcall _ _ _ _ _
  | dyn x args => simp only; split <;> first | exact good_xcall _ _ _ _ _ | exact good_const _
  | dynP x args => simp only; split <;> first | exact good_cond _ (good_xcall _ _ _ _ _) (good_const _) | exact good_const _
  | _ => exact good_const _

theorem good_xgo {α : Type} (T : XTab) (n0 : Nat) (i : XI) (env : XEnv) (X : XHeap) (b : Nat) {K : Rec → XSt → Option α} (hK : ∀ s, Good (fun rec => K rec s)) : Good (fun rec => xgo rec T n0 i env X b (K rec)) := by
  unfold xgo
  refine good_cond _ ?_ (good_const _)
  refine good_of (good_bind (F := fun rec => xop rec T i env X) (G := fun q rec => K rec ⟨xput env i.dst q.1, q.2, b⟩) (good_xop _ _ _ _) (fun q => hK _)) (fun rec => ?_)
  cases xop rec T i env X <;> rfl

theorem good_xai {α : Type} (T : XTab) (n0 : Nat) (i : XI) (s : XSt) {K : Rec → XSt → Option α} (hK : ∀ s, Good (fun rec => K rec s)) : Good (fun rec => xai rec T n0 i s (K rec)) := by
  unfold xai
  cases i.guard with
  | none => exact good_xgo _ _ _ _ _ _ hK
  | some q =>
    obtain ⟨g, w⟩ := q
    simp only
    split
    · cases w
      · exact good_cond _ (hK _) (good_xgo _ _ _ _ _ _ hK)
      · exact good_cond _ (good_xgo _ _ _ _ _ _ hK) (hK _)
    · exact hK _
    · exact good_const _

theorem good_xops {α : Type} (T : XTab) (n0 : Nat) : ∀ (ops : List XI) (s : XSt) {K : Rec → XSt → Option α}, (∀ s, Good (fun rec => K rec s)) → Good (fun rec => xops rec T n0 ops s (K rec))
  | [], s, K, hK => hK s
  | i :: r, s, K, hK => by
    simp only [xops]
    exact good_xai T n0 i s (K := fun rec s' => xops rec T n0 r s' (K rec)) (fun s' => good_xops T n0 r s' hK)

theorem good_then {F : Rec → Option (Ex × XSt)} {G : Rec → XSt → Option (Ex × XSt)} (hF : Good F) (hG : ∀ s, Good (fun rec => G rec s)) : Good (fun rec => thenX (F rec) (G rec)) := by
  refine good_of (good_bind (F := F) (G := fun (q : Ex × XSt) rec => thenX (some q) (G rec)) hF (fun q => ?_)) (fun rec => ?_)
  · obtain ⟨e, s⟩ := q
    cases e
    · exact hG s
    · exact good_const _
    · exact good_const _
  · cases F rec <;> rfl

theorem good_step (T : XTab) (c : XCode) (s : XSt) : Good (fun rec => stepX T rec c s) := by
  cases c with
  | skip => exact good_const _
  | exit id => exact good_const _
  | ret => exact good_const _
  | bad => exact good_const _
  | reg ops => exact good_xops T _ ops s (K := fun _ s' => some (Ex.nor, s')) (fun s => good_const _)
  | seq a b => exact good_then (good_rec a s) (fun s => good_rec b s)
  | cond c a b =>
    simp only [stepX]
    split
    · exact good_cond _ (good_rec _ _) (good_rec _ _)
    · exact good_const _
  | blk id b => exact good_map (good_rec b s) (blkX id) rfl
  | loop ann b =>
    simp only [stepX]
    cases norm ann s with
    | none => exact good_const _
    | some s1 => exact good_then (good_rec b s1) (fun s => good_rec _ s)
  | norm ann b =>
    simp only [stepX]
    cases norm ann s with
    | none => exact good_const _
    | some s1 => exact good_rec b s1

theorem chain_pair {f g : Rec} (h : LeR f g) : Chain (fun m => match m with | 0 => f | _ + 1 => g) g :=
  ⟨fun m => by cases m; exact h; exact fun _ _ _ h => h, fun c s r hr => ⟨1, fun m' hm' => by cases m' with | zero => omega | succ m' => exact hr⟩⟩

theorem runF_mono (T : XTab) : ∀ m, LeR (runF T m) (runF T (m + 1))
  | 0 => fun _ _ _ h => by cases h
  | m + 1 => fun c s r h => (good_step T c s _ _ (chain_pair (runF_mono T m))).1 0 r h

theorem runF_le (T : XTab) {m n : Nat} (h : m ≤ n) : LeR (runF T m) (runF T n) := by
  induction h with
  | refl => exact fun _ _ _ h => h
  | step _ ih => exact fun c s r h => runF_mono T _ c s r (ih c s r h)

open Classical in
/-- A run. -/
noncomputable def run (T : XTab) : Rec := fun c s =>
  if h : ∃ m r, runF T m c s = some r then some (Classical.choose (Classical.choose_spec h)) else none

theorem run_of_fuel {T : XTab} {m : Nat} {c : XCode} {s : XSt} {r : Ex × XSt} (h : runF T m c s = some r) : run T c s = some r := by
  have hex : ∃ m r, runF T m c s = some r := ⟨m, r, h⟩
  unfold run
  rw [dif_pos hex]
  have h2 := Classical.choose_spec (Classical.choose_spec hex)
  have k1 := runF_le T (Nat.le_max_left m (Classical.choose hex)) c s _ h
  have k2 := runF_le T (Nat.le_max_right m (Classical.choose hex)) c s _ h2
  rw [k1] at k2; injection k2 with k2; rw [k2]

theorem fuel_of_run {T : XTab} {c : XCode} {s : XSt} {r : Ex × XSt} (h : run T c s = some r) : ∃ m, runF T m c s = some r := by
  unfold run at h
  split at h
  · rename_i hex
    injection h with h
    exact ⟨_, by rw [← h]; exact Classical.choose_spec (Classical.choose_spec hex)⟩
  · cases h

theorem run_chain (T : XTab) : Chain (runF T) (run T) :=
  ⟨fun m c s r h => run_of_fuel h, fun c s r h => by
    obtain ⟨m, hm⟩ := fuel_of_run h
    exact ⟨m, fun m' hm' => runF_le T hm' c s r hm⟩⟩

theorem run_eq (T : XTab) (c : XCode) (s : XSt) : run T c s = stepX T (run T) c s := by
  have hg := good_step T c s _ _ (run_chain T)
  refine Option.ext (fun r => ⟨fun h => ?_, fun h => ?_⟩)
  · obtain ⟨m, hm⟩ := fuel_of_run h
    exact hg.1 m r (runF_mono T m c s r hm)
  · obtain ⟨m, hm⟩ := hg.2 r h
    exact run_of_fuel (m := m + 1) (hm m (Nat.le_refl _))

/-- A call. -/
noncomputable def call (T : XTab) (g : Nat) (args : List XV) (X : XHeap) : Option (XV × XHeap) := callX (run T) T g args X

theorem call_fuel {T : XTab} {g : Nat} {args : List XV} {X : XHeap} {r : XV × XHeap} (h : call T g args X = some r) : ∃ m, callX (runF T m) T g args X = some r := by
  obtain ⟨m, hm⟩ := (good_callX T g args X _ _ (run_chain T)).2 r h
  exact ⟨m, hm m (Nat.le_refl _)⟩
theorem call_of_fuel {T : XTab} {m g : Nat} {args : List XV} {X : XHeap} {r : XV × XHeap} (h : callX (runF T m) T g args X = some r) : call T g args X = some r :=
  (good_callX T g args X _ _ (run_chain T)).1 m r h

/-- What a call of a function without objects of others computes, the model's function returns. -/
theorem call_sound {P : Program} {fm : Nat → Nat} {T : XTab} (hT : TabOK P fm T) {f : FuncId} (hp : pfT T (fm f) = true) {args : List PV} {p : PV} (h : call T (fm f) (args.map .p) [] = some (.p p, [])) :
    FOK P fm f (pureC fun a r => a = PV.avs args ∧ r = p.av) := by
  obtain ⟨m, hm⟩ := call_fuel h
  have := (ctxX_ok hT (m + 1)).ok f
  simp only [ctxX, hp, cond_true] at this
  refine fok_wk this ?_
  rintro a H r H' ⟨n, h1, h2, h3, h4, rfl, rfl⟩
  exact ⟨n, h1, h2, h3, h4, m, by omega, args, p, rfl, rfl, hm⟩

section
variable {T : XTab}

theorem run_skip (s : XSt) : run T .skip s = some (.nor, s) := run_eq _ _ _
theorem run_exit (id : Nat) (s : XSt) : run T (.exit id) s = some (.exit id, s) := run_eq _ _ _
theorem run_ret (s : XSt) : run T .ret s = some (.ret, s) := run_eq _ _ _
theorem run_reg (ops : List XI) (env : XEnv) (X : XHeap) (b : Nat) : run T (.reg ops) ⟨env, X, b⟩ = xops (run T) T X.length ops ⟨env, X, b⟩ fun s' => some (.nor, s') := run_eq _ _ _
theorem run_seq (a b : XCode) (s : XSt) : run T (.seq a b) s = thenX (run T a s) (run T b) := run_eq _ _ _
theorem run_cond (c : Opd) (a b : XCode) (s : XSt) : run T (.cond c a b) s = match xo s.env c with
    | .p (.v (.bool t)) => bif t then run T a (refX s c true) else run T b (refX s c false)
    | _ => none := run_eq _ _ _
theorem run_blk (id : Nat) (b : XCode) (s : XSt) : run T (.blk id b) s = blkX id (run T b s) := run_eq _ _ _
theorem run_norm (ann : List (Nat × Nk)) (b : XCode) (s : XSt) : run T (.norm ann b) s = match norm ann s with
    | some s1 => run T b s1
    | none => none := run_eq _ _ _

/-- A loop from a state in its fixed form. -/
noncomputable def lp (T : XTab) (ann : List (Nat × Nk)) (b : XCode) (s : XSt) : Option (Ex × XSt) := thenX (run T b s) (run T (.loop ann b))

theorem run_loop (ann : List (Nat × Nk)) (b : XCode) (s : XSt) : run T (.loop ann b) s = match norm ann s with
    | some s1 => lp T ann b s1
    | none => none := run_eq _ _ _

theorem xops_then {α : Type} (n0 : Nat) (f : XSt → Option (Ex × XSt)) (rec : Rec) : ∀ (ops : List XI) (s : XSt) (K : XSt → Option (Ex × XSt)),
    thenX (xops rec T n0 ops s K) f = xops rec T n0 ops s (fun s' => thenX (K s') f)
  | [], s, K => rfl
  | i :: r, s, K => by
    have ih : (fun s' => thenX (xops rec T n0 r s' K) f) = fun s' => xops rec T n0 r s' fun s'' => thenX (K s'') f := funext fun s' => xops_then (α := α) n0 f rec r s' K
    have go : ∀ env, thenX (xgo rec T n0 i env s.heap s.base (fun s' => xops rec T n0 r s' K)) f = xgo rec T n0 i env s.heap s.base (fun s' => xops rec T n0 r s' fun s'' => thenX (K s'') f) := by
      intro env
      rw [← ih]
      unfold xgo
      cases okMark n0 i env with
      | false => rfl
      | true =>
        simp only [cond_true]
        cases xop rec T i env s.heap with
        | none => rfl
        | some q => rfl
    have kk : ∀ s', thenX (xops rec T n0 r s' K) f = xops rec T n0 r s' fun s'' => thenX (K s'') f := fun s' => congrFun ih s'
    simp only [xops]
    unfold xai
    cases i.guard with
    | none => exact go _
    | some q =>
      obtain ⟨g, w⟩ := q
      simp only
      split
      · rename_i t _
        cases w <;> cases t <;> simp only [cond_true, cond_false] <;> first | exact go _ | exact kk _
      · exact kk _
      · rfl

theorem run_seq_reg (ops : List XI) (b : XCode) (env : XEnv) (X : XHeap) (bs : Nat) : run T (.seq (.reg ops) b) ⟨env, X, bs⟩ = xops (run T) T X.length ops ⟨env, X, bs⟩ (run T b) := by
  rw [run_seq, run_reg, xops_then (α := Nat)]
  rfl

end
end Go.Abs

namespace Go.Abs
set_option linter.unusedSimpArgs false
open Go Go.RowKit

/-- What 'slices.Clone' gives. -/
def cloneP (es : Nat) : List PV → Option PV
  | [.rd e l] => bif Nat.beq e es && Nat.ble l.length maxEl then some (.rd e l) else none
  | _ => none

/-- The same, a new slice of one's own. -/
def cloneN (es : Nat) : List XV → XHeap → Option (XV × XHeap)
  | [.p (.rd e l)], X => bif Nat.beq e es && Nat.ble l.length maxEl && Nat.ble 1 es then some (.ref X.length 0 l.length, X ++ [some (.pu es l)]) else none
  | _, _ => none

def lookX : List (Nat × XDef) → Nat → Option XDef
  | [], _ => none
  | (k, d) :: r, g => bif Nat.beq k g then some d else lookX r g

/-- The code of 'slices.Clone' at elements of 'es' cells. -/
def cloneC (es : Nat) (z : List Value) : ACode :=
  .seq (.reg [⟨some 2, .mv (.c .emp), none, false, false⟩])
   (.seq
    (.seq (.reg [⟨some 3, .mv (.t 0), none, false, false⟩, ⟨some 4, .pv (.isn false) [(.t 3)], none, false, false⟩])
     (.cond (.t 4) (.seq (.reg [⟨some 2, .mv (.c .emp), none, false, false⟩]) .ret) .skip))
    (.seq (.reg [⟨some 5, .bsl es z 0 [], none, false, false⟩, ⟨some 6, .mv (.t 0), none, false, false⟩, ⟨some 7, .app es (.t 5) (.t 6), none, false, false⟩, ⟨some 2, .mv (.t 7), none, false, false⟩])
     .ret))

section
variable {C : Ctx}

/-- A slice without elements is some value: each of them is looked at. -/
theorem sat_empty {code : ACode} {Q : Ex → ASt → Prop} {t es : Nat} {env : Env} {H : Heap} {b : Nat} (hl : lookE env t = .rd es []) (h : ∀ A c, Sat C code Q ⟨(t, .v (.slice A 0 c)) :: env, H, b⟩) : Sat C code Q ⟨env, H, b⟩ := by
  intro P fm n code' hC hm ht w0 L0 a w hs
  obtain ⟨h1, h2, h3, L, h4, h5, h6, h7⟩ := hs
  have hv := h7 t
  simp only at hv
  rw [hl] at hv
  rcases vr_rd_inv hv with ⟨_, A, c, e⟩ | ⟨_, _, _, _, _, hne, _⟩
  · refine h A c P fm n code' hC hm ht w0 L0 a w ⟨h1, h2, h3, L, h4, h5, h6, fun s => ?_⟩
    simp only [lookE]
    cases hst : (t == s) with
    | true => have : t = s := by simpa using hst
              subst this; simp only [cond_true]; rw [e]; exact .v _
    | false => simp only [cond_false]; exact h7 s
  · exact absurd rfl hne

theorem sat_lens {code : ACode} {Q : Ex → ASt → Prop} {t es : Nat} {l : List (List AV)} {env : Env} {H : Heap} {b : Nat} (hl : lookE env t = .rd es l) (h : (∀ e ∈ l, e.length = es) → Sat C code Q ⟨env, H, b⟩) : Sat C code Q ⟨env, H, b⟩ := by
  intro P fm n code' hC hm ht w0 L0 a w hs
  obtain ⟨h1, h2, h3, L, h4, h5, h6, h7⟩ := hs
  have hv := h7 t
  simp only at hv
  rw [hl] at hv
  have hlen : ∀ e ∈ l, e.length = es := by
    rcases vr_rd_inv hv with ⟨h0, _⟩ | ⟨_, _, _, _, _, _, hes, _⟩
    · subst h0; intro e he; cases he
    · exact hes
  exact h hlen P fm n code' hC hm ht w0 L0 a w ⟨h1, h2, h3, L, h4, h5, h6, h7⟩

theorem clone_step {es : Nat} {z : List Value} {a0 : AV} {l : List (List AV)} {H : Heap} {b : Nat} {t : Bool} (hisn : pvF (.isn false) [a0] = some (.v (.bool t))) (ht : t = true → l = [])
    (hw : ∀ (fm : Nat → Nat) (w : World) (L : Nat → Loc) (x : Value), VR fm w L x a0 → VR fm w L x (.rd es l)) (hlen : ∀ e ∈ l, e.length = es) (hmax : l.length ≤ maxEl) {env : Env} (he : lookE env 0 = a0) {Q : Ex → ASt → Prop}
    (h1 : l = [] → ∀ env, lookE env 2 = .emp → ∃ st', Wk ⟨env, H, b⟩ st' ∧ Q .ret st') (h2 : ∀ env, lookE env 2 = .ref H.length 0 l.length → Q .ret ⟨env, H ++ [some ⟨es, l⟩], b⟩) : Sat C (cloneC es z) Q ⟨env, H, b⟩ := by
  unfold cloneC
  refine sat_seq (sat_reg ?_)
  simp only [evOps, evAI, evOpF_ff, evOp, evG, opK, opd, put, applyUs, Ex.then]
  refine sat_seq (sat_seq (sat_reg ?_))
  simp only [evOps, evAI, evOpF_ff, evOp, evG, opK, opd, put, applyUs, Ex.then, List.map_cons, List.map_nil, lookE]
  refine ⟨.v (.bool t), ?_, ?_⟩
  · simp only [Nat.reduceBEq, cond_true, cond_false, he]; exact hisn
  refine sat_cond (b := t) (by simp [opd, lookE]) (fun e => ?_) (fun e => ?_)
  · subst e
    refine sat_seq (sat_reg ?_)
    simp only [evOps, evAI, evOpF_ff, evOp, evG, opK, opd, put, applyUs, Ex.then, refine1]
    obtain ⟨st', hwk, hq⟩ := h1 (ht rfl) ((2, .emp) :: (4, .v (.bool true)) :: (4, .v (.bool true)) :: (3, bif (2 : Nat) == 0 then .emp else lookE env 0) :: (2, .emp) :: env) (by simp [lookE])
    exact Sat.wk hwk (sat_ret hq)
  · subst e
    refine sat_skip ?_
    simp only [Ex.then, refine1]
    refine Sat.wk (s := ⟨[(0, .rd es l)], H, b⟩) ?_ ?_
    · intro fm n w0 L0 a w hs
      obtain ⟨k1, k2, k3, L, k4, k5, k6, k7⟩ := hs
      refine ⟨k1, k2, k3, L, k4, k5, k6, fun s => ?_⟩
      simp only [lookE]
      cases hst : ((0 : Nat) == s) with
      | true =>
        have : 0 = s := by simpa using hst
        subst this
        simp only [cond_true]
        have := k7 0
        simp only [lookE, Nat.reduceBEq, cond_false] at this
        rw [he] at this
        exact hw _ _ _ _ this
      | false => simp only [cond_false]; exact .u _
    · refine sat_seq (sat_reg ?_)
      simp only [evOps, evAI, evOpF_ff, evOp, evG, opK, opd, put, applyUs, Ex.then, fillE, List.replicate_zero, lookE, Nat.reduceBEq, cond_true, cond_false, appK, true_and]
      refine ⟨hmax, hlen, ?_⟩
      refine sat_ret (h2 _ (by simp [lookE]))

theorem clone_rd {es : Nat} {z : List Value} {l : List (List AV)} {H : Heap} {b : Nat} (hmax : l.length ≤ maxEl) {env : Env} (he : lookE env 0 = .rd es l) {Q : Ex → ASt → Prop}
    (h1 : l = [] → ∀ env, lookE env 2 = .emp → ∃ st', Wk ⟨env, H, b⟩ st' ∧ Q .ret st') (h2 : ∀ env, lookE env 2 = .ref H.length 0 l.length → Q .ret ⟨env, H ++ [some ⟨es, l⟩], b⟩) : Sat C (cloneC es z) Q ⟨env, H, b⟩ := by
  refine sat_lens he (fun hlen => ?_)
  cases l with
  | nil =>
    refine sat_empty he (fun A c => ?_)
    refine clone_step (a0 := .v (.slice A 0 c)) (t := A.isNone) rfl (fun _ => rfl) (fun fm w L x hx => ?_) (fun e he => by cases he) hmax (by simp [lookE]) h1 h2
    rw [vr_v hx]; exact .rd0 A es c
  | cons e0 l0 =>
    exact clone_step (a0 := .rd es (e0 :: l0)) (t := false) rfl (fun h => by cases h) (fun _ _ _ _ h => h) hlen hmax he h1 h2

end

theorem fok_cloneP {P : Program} {fm : Nat → Nat} {C : Ctx} (hC : CtxOK P fm C) (hm : P.follows .mixedOrders = true) {f : FuncId} {n es : Nat} {z : List Value} (h : fnTr P fm C.pf f = some (n, [.t 2], cloneC es z)) (hn : 1 ≤ n) :
    FOK P fm f (pureC fun args r => ∃ pargs p, args = PV.avs pargs ∧ r = p.av ∧ cloneP es pargs = some p) := by
  refine fok_pure hC hm h (by simp) ?_
  rintro args r ⟨pargs, p, rfl, rfl, hp⟩
  unfold cloneP at hp
  split at hp
  · rename_i e l
    cases hb : (Nat.beq e es && Nat.ble l.length maxEl) with
    | false => rw [hb, cond_false] at hp; cases hp
    | true =>
      rw [hb, cond_true] at hp
      injection hp with hp; subst hp
      simp only [Bool.and_eq_true, Nat.beq_eq, Nat.ble_eq] at hb
      obtain ⟨rfl, hmax⟩ := hb
      refine ⟨by simpa [PV.avs] using hn, fun k => ?_⟩
      simp only [PV.avs, PV.av, avss_map, entryE]
      refine clone_rd (l := l.map (·.map PV.av)) (by simpa using hmax) (by simp [lookE]) (fun h0 env he => ?_) (fun env he => ?_)
      · refine ⟨_, Wk.refl _, rfl, [lookE env 2], ⟨rfl, trivial⟩, ?_⟩
        simp only [tupR, he]
        rw [h0]; exact .empRd _
      · refine ⟨rfl, [lookE env 2], ⟨rfl, trivial⟩, ?_⟩
        simp only [tupR, he]
        have hlen : (Z k ([] : Heap)).length = k := by simp [Z]
        rw [hlen]
        have := out_frz (H := Z k [] ++ [some ⟨e, l.map (·.map PV.av)⟩]) (i := k) (off := 0) (len := (l.map (·.map PV.av)).length) (o := ⟨e, l.map (·.map PV.av)⟩) (l' := l.map (·.map PV.av))
          (by rw [z_push]; have := z_get k ([] ++ [some (⟨e, l.map (·.map PV.av)⟩ : AObj)]) 0; simpa using this) (by simp) (by
            simp only [List.drop_zero, List.take_length]
            exact ElC.refl (fun e' he' x hx => by
              obtain ⟨y, _, rfl⟩ := List.mem_map.1 he'
              obtain ⟨q, _, rfl⟩ := List.mem_map.1 hx
              exact nr_av q))
        exact this
  · cases hp

theorem fok_cloneN {P : Program} {fm : Nat → Nat} {C : Ctx} (hC : CtxOK P fm C) (hm : P.follows .mixedOrders = true) {f : FuncId} {n es : Nat} {z : List Value} (h : fnTr P fm C.pf f = some (n, [.t 2], cloneC es z)) (hn : 1 ≤ n) :
    FOK P fm f (fun args H r H' => ∃ k xargs X v X', args = XV.avs k xargs ∧ H = Z k (heapA k X) ∧ cloneN es xargs X = some (v, X') ∧ X.length ≤ X'.length ∧ r = v.av k ∧ H' = Z k (heapA k X')) := by
  refine fok_of_sat hC hm h (by simp) ?_
  rintro args H r H' ⟨k, xargs, X, v, X', rfl, rfl, hp, _, rfl, rfl⟩
  unfold cloneN at hp
  split at hp
  · rename_i _ e l
    cases hb : (Nat.beq e es && Nat.ble l.length maxEl && Nat.ble 1 es) with
    | false => rw [hb, cond_false] at hp; cases hp
    | true =>
      rw [hb, cond_true] at hp
      injection hp with hp; injection hp with e1 e2; subst e1; subst e2
      simp only [Bool.and_eq_true, Nat.beq_eq, Nat.ble_eq] at hb
      obtain ⟨⟨rfl, hmax⟩, hes⟩ := hb
      refine ⟨by simpa [XV.avs] using hn, ?_⟩
      simp only [XV.avs, XV.av, PV.av, avss_map, entryE]
      have fin : ∀ env, lookE env 2 = .ref (Z k (heapA k X)).length 0 (l.map (·.map PV.av)).length → RetQ [.t 2] (.ref (k + X.length) 0 l.length) (Z k (heapA k (X ++ [some (.pu e l)]))) .ret ⟨env, Z k (heapA k X) ++ [some ⟨e, l.map (·.map PV.av)⟩], (Z k (heapA k X)).length⟩ := by
        intro env he
        refine ⟨[lookE env 2], ⟨rfl, trivial⟩, ?_⟩
        simp only [tupR, he]
        have hH : Z k (heapA k X) ++ [some ⟨e, l.map (·.map PV.av)⟩] = Z k (heapA k (X ++ [some (.pu e l)])) := z_heap_push (k := k) (X := X) (.pu e l)
        rw [hH, z_heap_len]
        have := @fin_same ⟨env, Z k (heapA k (X ++ [some (.pu e l)])), (Z k (heapA k X)).length⟩ (.ref (k + X.length) 0 (l.map (·.map PV.av)).length) (.ref (k + X.length) 0 l.length) (by simp only [List.length_map]; exact .refl _)
        rw [z_heap_len] at this
        exact this
      refine clone_rd (l := l.map (·.map PV.av)) (by simpa using hmax) (by simp [lookE]) (fun h0 env he => ?_) (fun env he => fin env he)
      refine ⟨_, wk_new he hes, ?_⟩
      have := fin ((2, .ref (Z k (heapA k X)).length 0 0) :: env) (by rw [h0]; simp [lookE])
      rw [h0] at this
      exact this
  · cases hp

end Go.Abs

namespace Go.Abs
set_option linter.unusedSimpArgs false
open Go Go.RowKit Go.ChangeShapes Go.WideShapes Go.ChangeAt

section
variable {H : Type} {enc : TypeId × Value → H} {P : Program} {fm : Nat → Nat} {T : XTab}

/-- A struct that is read. -/
theorem arg_agg {W : World} {base : Nat} {t : TypeId} {fs : Array Field} (ht : P.underlying t = some (.struct fs)) {v : Value} (hv : Value.okWide P W .any base t v) {b : Nat} {sp : Nat → Bool} {held : Bool} {d : DataW H} {ps : List MemPlace}
    (hd : DataW.Trod enc P W b sp held t v d ps) {bulk : DataW H → Nat} {es : Nat} {X : Type} {e : X → List PV} {sz : X → Nat} {ok : X → Prop} (hR : Reads enc P W b sp held fm bulk t es (fun x => PV.avs (e x)) sz ok) :
    ∃ x, ok x ∧ sz x ≤ bulk d ∧ VR fm W noLoc v (PV.agg (e x)).av := by
  simp only [Value.okWide, ht] at hv
  obtain ⟨cs, rfl, _, _⟩ := hv
  obtain ⟨fuel, hd⟩ := hd
  obtain ⟨x, h1, h2, h3, h4, h5⟩ := hR fuel _ d ps hd
  have h2' : cs.size = es := by simpa [Value.cells] using h2
  have key : ∀ j a, (PV.avs (e x))[j]? = some a → (cs.getD j undef).oneCell' = true ∧ VR fm W noLoc (cs.getD j undef) a := by
    intro j a hj
    have hlt : j < cs.size := by rw [h2', ← h3]; exact (List.getElem?_eq_some_iff.1 hj).1
    have := h5 j cs[j] a (by simp [Value.cells, hlt]) hj
    rw [Array.getD_eq_getD_getElem?]
    simpa [hlt] using this
  refine ⟨x, h1, h4, ?_⟩
  simp only [PV.av]
  exact .agg cs _ (by rw [h3, h2']) (fun j a hj => (key j a hj).1) (fun j a hj => (key j a hj).2)

/-- A value of one cell that is read. -/
theorem arg_one {W : World} {base : Nat} {t : TypeId} (hns : ∀ fs, P.underlying t ≠ some (.struct fs)) (hna : ∀ n u, P.underlying t ≠ some (.array n u)) {v : Value} (hv : Value.okWide P W .any base t v) (hag : ∀ cs, ¬ Cell.okWide P W .any base t (.agg cs)) {b : Nat} {sp : Nat → Bool} {held : Bool} {d : DataW H} {ps : List MemPlace}
    (hd : DataW.Trod enc P W b sp held t v d ps) {bulk : DataW H → Nat} {X : Type} {e : X → List PV} {sz : X → Nat} {ok : X → Prop} {p : X → PV} (hp : ∀ x, e x = [p x]) (hR : Reads enc P W b sp held fm bulk t 1 (fun x => PV.avs (e x)) sz ok) :
    ∃ x, ok x ∧ sz x ≤ bulk d ∧ VR fm W noLoc v (p x).av := by
  have hv2 : Cell.okWide P W .any base t v := by
    unfold Value.okWide at hv
    split at hv
    · rename_i fs hu; exact absurd hu (hns fs)
    · rename_i n u hu; exact absurd hu (hna n u)
    · exact hv
  have hc : v.cells = #[v] := by
    cases v with
    | agg cs => exact absurd hv2 (hag cs)
    | _ => rfl
  obtain ⟨fuel, hd⟩ := hd
  obtain ⟨x, h1, h2, h3, h4, h5⟩ := hR fuel _ d ps hd
  refine ⟨x, h1, h4, ?_⟩
  have := h5 0 v (p x).av (by simp [hc]) (by simp [hp x, PV.avs])
  exact this.2

theorem trodAll_below (hl : laidOutB P = true) {W W' : World} (hb : Below W.heap.size W W') : ∀ {ts : List TypeId} {vs : List Value} {ds : List (DataW H)} {ps : List MemPlace},
    DataW.TrodAll enc P W 0 (fun _ => true) true ts vs ds ps → (∀ t ∈ ts, P.readableRec t = true ∧ t < P.types.size) → (∀ x ∈ ps, x.block < W.heap.size) →
    DataW.TrodAll enc P W' 0 (fun b => decide (b < W.heap.size)) true ts vs ds ps
  | [], [], [], ps, h, _, _ => h
  | t :: ts, v :: vs, d :: ds, ps, h, hr, hlt => by
    obtain ⟨p, q, h1, h2, rfl⟩ := h
    have ht := hr t (List.mem_cons_self ..)
    exact ⟨p, q, Below.trod hl ht.1 ht.2 h1 hb (fun x hx => hlt x (List.mem_append_left _ hx)),
      trodAll_below hl hb h2 (fun u hu => hr u (List.mem_cons_of_mem _ hu)) (fun x hx => hlt x (List.mem_append_right _ hx)), rfl⟩
  | [], _ :: _, _, _, h, _, _ => h.elim
  | [], [], _ :: _, _, h, _, _ => h.elim
  | _ :: _, [], _, _, h, _, _ => h.elim
  | _ :: _, _ :: _, [], _, h, _, _ => h.elim

/-- What is asked behind a law that returned true. -/
theorem law_post (hl : laidOutB P = true) {f : Func} {s : ChangeSpec} {tb : TypeId} (hres : f.resultTypes = #[tb]) (htb : P.underlying tb = some .bool) (hr : ∀ t ∈ f.params.toList, P.readableRec t = true ∧ t < P.types.size) (hvars : s.vars = [])
    {W W' : World} {args : Array Value} {ds gs : List (DataW H)} {before : List MemPlace} (hW : DataW.Whole enc P f.params.toList s.vars false W args.toList ds gs before) (hfn : (s.fn H (ds ++ gs)) = { results := [.lit (.bool true)], args := ds }) (hb : Below W.heap.size W W') :
    s.post enc P f false true false false W args (.bool true) W' := by
  have hlt := hW.lt
  have hW' := hW
  obtain ⟨p, q, hA, hV, rfl, hfz, hnd⟩ := hW
  rw [hvars] at hV
  obtain ⟨rfl, rfl⟩ := trodVars_none hV
  refine ⟨ds, [], p ++ [], [], p, [], hW', ?_, ?_, ?_, hb.frame _, fun h => by cases h⟩
  · rw [hfn, hres]
    exact trodAll_cons_mk (shut_bool htb _) trodAll_mk0
  · rw [hfn]
    exact trodAll_below hl hb hA hr (fun x hx => hlt x (List.mem_append_left _ hx))
  · rw [hfn, hvars]; rfl

theorem below_of_keep {w w' : World} (h : Keep noLoc w w') : Below w.heap.size w w' :=
  ⟨h.os, h.tape, h.output, h.size, fun k hk => h.blk k hk (noLoc_ownc k)⟩

/-- A law's call, where its run says true. -/
theorem law_calls (hT : TabOK P fm T) {f : FuncId} {g : Nat} (hg : fm f = g) (hp : pfT T g = true) {W : World} {args : Array Value} {pargs : List PV} (hsz : args.size = pargs.length)
    (hv : ∀ j a, (PV.avs pargs)[j]? = some a → VR fm W noLoc (args.getD j undef) a) (hc : call T g (pargs.map .p) [] = some (.p (.v (.bool true)), [])) :
    Calls P f args W fun e W' => e = .returned (.bool true) ∧ Below W.heap.size W W' := by
  subst hg
  have hf := call_sound hT hp hc
  obtain ⟨_, h⟩ := hf (PV.avs pargs) (Z 0 []) (PV.v (.bool true)).av (Z 0 []) ⟨0, rfl, rfl, fun a ha => nr_avs pargs a ha, nr_av _, rfl, rfl⟩
  refine (h W noLoc args (noLoc_hr fm W) (by simpa [avs_map] using hsz) (fun j a ha => hv j a ha)).mono ?_
  rintro e w' ⟨v, L', rfl, hk, _, _, hvr⟩
  simp only [PV.av] at hvr
  rw [vr_v hvr]
  exact ⟨rfl, below_of_keep hk⟩

end

/-! The table's functions are the program's: by lists. -/

/-- A function of the program, as the table has it. -/
def TieOK (P : Program) (fm : Nat → Nat) (T : XTab) (f : Nat) : Prop :=
  match T (fm f) with
  | none => True
  | some (.fn F) => fnTr P fm (pfT T) f = some (F.slots, F.res, er F.code) ∧ okX F.code = true ∧ F.res.length ≤ 4
  | some (.prim φ) => FOK P fm f (pureC fun args r => ∃ pargs p, args = PV.avs pargs ∧ r = p.av ∧ φ pargs = some p)
  | some (.primN φ) => FOK P fm f (fun args H r H' => ∃ k xargs X v X', args = XV.avs k xargs ∧ H = Z k (heapA k X) ∧ φ xargs X = some (v, X') ∧ X.length ≤ X'.length ∧ r = v.av k ∧ H' = Z k (heapA k X'))

theorem tab_of {P : Program} {fm : Nat → Nat} {T : XTab} (hm : P.follows .mixedOrders = true) (h : ∀ f, TieOK P fm T f) : TabOK P fm T := by
  refine ⟨hm, fun f F hF => ?_, fun f φ hF => ?_, fun f φ hF => ?_⟩ <;> (have := h f; unfold TieOK at this; rw [hF] at this; exact this)

theorem tie_fn {P : Program} {fm : Nat → Nat} {T : XTab} {f g : Nat} {F : XFn} (hg : fm f = g) (hF : T g = some (.fn F)) (h : fnTr P fm (pfT T) f = some (F.slots, F.res, er F.code)) (ho : okX F.code = true) (hr : F.res.length ≤ 4) : TieOK P fm T f := by
  unfold TieOK; rw [hg, hF]; exact ⟨h, ho, hr⟩
theorem tie_none {P : Program} {fm : Nat → Nat} {T : XTab} {f : Nat} (h : T (fm f) = none) : TieOK P fm T f := by
  unfold TieOK; rw [h]; trivial
theorem tie_clone {P : Program} {fm : Nat → Nat} {T : XTab} (hm : P.follows .mixedOrders = true) {f g n es : Nat} {z : List Value} (hg : fm f = g) (hF : T g = some (.prim (cloneP es))) (h : fnTr P fm (pfT T) f = some (n, [.t 2], cloneC es z)) (hn : 1 ≤ n) : TieOK P fm T f := by
  unfold TieOK; rw [hg, hF]
  exact fok_cloneP (C := ⟨fun _ _ _ _ _ => False, pfT T⟩) ⟨fun _ _ _ _ _ h => h.elim, fun _ _ _ _ _ _ h => h.elim, fun _ _ _ _ _ h => h.elim⟩ hm h hn
theorem tie_cloneN {P : Program} {fm : Nat → Nat} {T : XTab} (hm : P.follows .mixedOrders = true) {f g n es : Nat} {z : List Value} (hg : fm f = g) (hF : T g = some (.primN (cloneN es))) (h : fnTr P fm (pfT T) f = some (n, [.t 2], cloneC es z)) (hn : 1 ≤ n) : TieOK P fm T f := by
  unfold TieOK; rw [hg, hF]
  exact fok_cloneN (C := ⟨fun _ _ _ _ _ => False, pfT T⟩) ⟨fun _ _ _ _ _ h => h.elim, fun _ _ _ _ _ _ h => h.elim, fun _ _ _ _ _ h => h.elim⟩ hm h hn

end Go.Abs

namespace Go.Abs
open Go Go.RowKit

section
variable {T : XTab}

def optX {α β : Type} (o : Option α) (f : α → Option β) : Option β :=
  match o with
  | some a => f a
  | none => none

theorem okMark_ff (n0 : Nat) (d : Option Nat) (op : AOp) (g : Option (Nat × Bool)) (sh : List Sh) (env : XEnv) : okMark n0 ⟨d, op, g, false, false, sh⟩ env = true := rfl

/-- Are all operands older? -/
def allOldX (n0 : Nat) (env : XEnv) : List Opd → Bool
  | [] => true
  | x :: r => oldX n0 (xo env x) && allOldX n0 env r
theorem allOldX_all (n0 : Nat) (env : XEnv) : ∀ l : List Opd, (l.all fun x => oldX n0 (xo env x)) = allOldX n0 env l
  | [] => rfl
  | x :: r => by simp only [List.all_cons, allOldX, allOldX_all n0 env r]
theorem okMark_tf (n0 : Nat) (d : Option Nat) (op : AOp) (g : Option (Nat × Bool)) (sh : List Sh) (env : XEnv) : okMark n0 ⟨d, op, g, true, false, sh⟩ env = allOldX n0 env op.touched := by
  rw [← allOldX_all]; simp [okMark]
theorem okMark_ft (n0 : Nat) (d : Option Nat) (op : AOp) (g : Option (Nat × Bool)) (sh : List Sh) (env : XEnv) : okMark n0 ⟨d, op, g, false, true, sh⟩ env = nwX n0 env op := by simp [okMark]
theorem okMark_tt (n0 : Nat) (d : Option Nat) (op : AOp) (g : Option (Nat × Bool)) (sh : List Sh) (env : XEnv) : okMark n0 ⟨d, op, g, true, true, sh⟩ env = (allOldX n0 env op.touched && nwX n0 env op) := by
  rw [← allOldX_all]; simp [okMark]
theorem xlook_c (n : Nat) (v : XV) (r : XEnv) (t : Nat) : xlook ((n, v) :: r) t = if n = t then v else xlook r t := by
  simp only [xlook]
  by_cases h : n = t
  · subst h; rw [if_pos rfl, Nat.beq_refl, cond_true]
  · rw [if_neg h]
    cases hb : Nat.beq n t with
    | true => exact absurd (Nat.eq_of_beq_eq_true hb) h
    | false => rfl
theorem xlook_n (t : Nat) : xlook [] t = .u := rfl

section
variable {α : Type} (rec : Rec) (n0 : Nat) (d : Option Nat) (op : AOp) (g : Nat) (o nw : Bool) (sh : List Sh) (env : XEnv) (X : XHeap) (b : Nat) (K : XSt → Option α)
abbrev undX : XV := .p (.v (.tuple ⟨[]⟩))
theorem xai_n : xai rec T n0 ⟨d, op, none, o, nw, sh⟩ ⟨env, X, b⟩ K = xgo rec T n0 ⟨d, op, none, o, nw, sh⟩ env X b K := rfl
theorem xai_u (w : Bool) (h : xlook env g = undX) : xai rec T n0 ⟨d, op, some (g, w), o, nw, sh⟩ ⟨env, X, b⟩ K = K ⟨xput env d undX, X, b⟩ := by
  unfold xai
  simp only [h]
theorem xai_tt (h : xlook env g = .p (.v (.bool true))) : xai rec T n0 ⟨d, op, some (g, true), o, nw, sh⟩ ⟨env, X, b⟩ K = xgo rec T n0 ⟨d, op, some (g, true), o, nw, sh⟩ ((g, .p (.v (.bool true))) :: env) X b K := by
  unfold xai
  simp only [h]
  rfl
theorem xai_tf (h : xlook env g = .p (.v (.bool false))) : xai rec T n0 ⟨d, op, some (g, true), o, nw, sh⟩ ⟨env, X, b⟩ K = K ⟨xput ((g, .p (.v (.bool false))) :: env) d undX, X, b⟩ := by
  unfold xai
  simp only [h]
  rfl
theorem xai_ft (h : xlook env g = .p (.v (.bool true))) : xai rec T n0 ⟨d, op, some (g, false), o, nw, sh⟩ ⟨env, X, b⟩ K = K ⟨xput ((g, .p (.v (.bool true))) :: env) d undX, X, b⟩ := by
  unfold xai
  simp only [h]
  rfl
theorem xai_ff (h : xlook env g = .p (.v (.bool false))) : xai rec T n0 ⟨d, op, some (g, false), o, nw, sh⟩ ⟨env, X, b⟩ K = xgo rec T n0 ⟨d, op, some (g, false), o, nw, sh⟩ ((g, .p (.v (.bool false))) :: env) X b K := by
  unfold xai
  simp only [h]
  rfl
theorem xv_bool (s t : Bool) : (XV.p (.v (.bool s)) = .p (.v (.bool t))) = (s = t) := by simp
theorem xv_ub (t : Bool) : (undX = .p (.v (.bool t))) = False := by simp
theorem xv_bu (t : Bool) : (XV.p (.v (.bool t)) = undX) = False := by simp
end

theorem optX_some {α β : Type} (a : α) (f : α → Option β) : optX (some a) f = f a := rfl
theorem optX_none {α β : Type} (f : α → Option β) : optX none f = none := rfl

theorem thenX_nor (s : XSt) (f : XSt → Option (Ex × XSt)) : thenX (some (.nor, s)) f = f s := rfl
theorem thenX_exit (id : Nat) (s : XSt) (f : XSt → Option (Ex × XSt)) : thenX (some (.exit id, s)) f = some (.exit id, s) := rfl
theorem thenX_ret (s : XSt) (f : XSt → Option (Ex × XSt)) : thenX (some (.ret, s)) f = some (.ret, s) := rfl
theorem thenX_none (f : XSt → Option (Ex × XSt)) : thenX none f = none := rfl
theorem thenX_ite (c : Prop) [Decidable c] (a b : Option (Ex × XSt)) (f : XSt → Option (Ex × XSt)) : thenX (if c then a else b) f = if c then thenX a f else thenX b f := by split <;> rfl
theorem thenX_cond (c : Bool) (a b : Option (Ex × XSt)) (f : XSt → Option (Ex × XSt)) : thenX (bif c then a else b) f = bif c then thenX a f else thenX b f := by cases c <;> rfl
theorem blkX_nor (id : Nat) (s : XSt) : blkX id (some (.nor, s)) = some (.nor, s) := rfl
theorem blkX_ret (id : Nat) (s : XSt) : blkX id (some (.ret, s)) = some (.ret, s) := rfl
theorem blkX_exit (id id' : Nat) (s : XSt) : blkX id (some (.exit id', s)) = bif Nat.beq id' id then some (.nor, s) else some (.exit id', s) := rfl
theorem blkX_none (id : Nat) : blkX id none = none := rfl
theorem blkX_ite (id : Nat) (c : Prop) [Decidable c] (a b : Option (Ex × XSt)) : blkX id (if c then a else b) = if c then blkX id a else blkX id b := by split <;> rfl
theorem blkX_cond (id : Nat) (c : Bool) (a b : Option (Ex × XSt)) : blkX id (bif c then a else b) = bif c then blkX id a else blkX id b := by cases c <;> rfl
theorem run_normX (ann : List (Nat × Nk)) (b : XCode) (s : XSt) : run T (.norm ann b) s = optX (norm ann s) (run T b) := by
  rw [run_norm]; unfold optX; cases norm ann s <;> rfl
theorem run_loopX (ann : List (Nat × Nk)) (b : XCode) (s : XSt) : run T (.loop ann b) s = optX (norm ann s) (lp T ann b) := by
  rw [run_loop]; unfold optX; cases norm ann s <;> rfl
theorem lp_eq (ann : List (Nat × Nk)) (b : XCode) (s : XSt) : lp T ann b s = thenX (run T b s) (run T (.loop ann b)) := rfl

def normB (ann : List (Nat × Nk)) (s : XSt) : Option XSt :=
  match pOwn ann s.env s.heap with
  | (env, X) => match pSel X env ann with
    | some (e, F) => match gcS e X s.base with
      | m => bif okGc X s.base m F then
          match pCo ann (renE (rI X s.base m) e) with
          | e' => some ⟨e', pEl e' ann (gcH X s.base m), s.base⟩
        else none
    | none => none
theorem norm_cons (a : Nat × Nk) (r : List (Nat × Nk)) (s : XSt) : norm (a :: r) s = normB (a :: r) s := rfl
theorem norm_nil (s : XSt) : norm [] s = normB [] s := rfl

/-- The next round. -/
noncomputable def nx (T : XTab) (ann : List (Nat × Nk)) (b : XCode) (s : XSt) : Option (Ex × XSt) := run T (.loop ann b) s
theorem lp_nx (ann : List (Nat × Nk)) (b : XCode) (s : XSt) : lp T ann b s = thenX (run T b s) (nx T ann b) := rfl
theorem nx_norm (ann : List (Nat × Nk)) (b : XCode) (s : XSt) : nx T ann b s = optX (norm ann s) (lp T ann b) := run_loopX ann b s

theorem outP_nor (F : XFn) (s : XSt) : outP F (some (.nor, s)) = outS F s := rfl
theorem outP_ret (F : XFn) (s : XSt) : outP F (some (.ret, s)) = outS F s := rfl
theorem outP_ite (F : XFn) (c : Prop) [Decidable c] (a b : Option (Ex × XSt)) : outP F (if c then a else b) = if c then outP F a else outP F b := by split <;> rfl
theorem outP_cond (F : XFn) (c : Bool) (a b : Option (Ex × XSt)) : outP F (bif c then a else b) = bif c then outP F a else outP F b := by cases c <;> rfl
theorem outN_nor (F : XFn) (X : XHeap) (s : XSt) : outN F X (some (.nor, s)) = outT F X s := rfl
theorem outN_ret (F : XFn) (X : XHeap) (s : XSt) : outN F X (some (.ret, s)) = outT F X s := rfl
theorem outN_ite (F : XFn) (X : XHeap) (c : Prop) [Decidable c] (a b : Option (Ex × XSt)) : outN F X (if c then a else b) = if c then outN F X a else outN F X b := by split <;> rfl
theorem outN_cond (F : XFn) (X : XHeap) (c : Bool) (a b : Option (Ex × XSt)) : outN F X (bif c then a else b) = bif c then outN F X a else outN F X b := by cases c <;> rfl

/-- A Bool by which the way is chosen. -/
def onB {α : Type} (v : XV) (a b : Option α) : Option α :=
  match v with
  | .p (.v (.bool t)) => bif t then a else b
  | _ => none
theorem onB_v {α : Type} (t : Bool) (a b : Option α) : onB (.p (.v (.bool t))) a b = bif t then a else b := rfl
theorem onB_true {α : Type} (a b : Option α) : onB (.p (.v (.bool true))) a b = a := rfl
theorem onB_false {α : Type} (a b : Option α) : onB (.p (.v (.bool false))) a b = b := rfl
theorem run_condX (c : Opd) (a b : XCode) (s : XSt) : run T (.cond c a b) s = onB (xo s.env c) (run T a (refX s c true)) (run T b (refX s c false)) := by
  rw [run_cond]; unfold onB; rfl

theorem xop_call (rec : Rec) (d : Option Nat) (g : Nat) (args : List Opd) (gu : Option (Nat × Bool)) (o w : Bool) (sh : List Sh) (env : XEnv) (X : XHeap) : xop rec T ⟨d, .call g args, gu, o, w, sh⟩ env X = xcall rec T g sh (args.map (xo env)) X := rfl
theorem xcall_run (g : Nat) (sh : List Sh) (args : List XV) (X : XHeap) : xcall (run T) T g sh args X = (bif pfT T g then (match lendL X args with | (as, lent) => optX (call T g (coXL sh as) X) fun q => bif !lent || scalX q.1 then some (q.1, q.2) else none) else call T g (coXL sh args) X) := by
  unfold xcall
  cases pfT T g with
  | true =>
    simp only [cond_true]
    unfold optX call
    cases callX (run T) T g (coXL sh (lendL X args).1) X <;> rfl
  | false => rfl

/-- A call of a function that touches no object of others, by what its run leaves. -/
theorem call_pure {g : Nat} {F : XFn} {args : List PV} {X : XHeap} {p : PV} (hF : T g = some (.fn F)) (hp : F.pf = true) (hl : Nat.ble args.length F.slots = true) (h : outP F (run T F.code ⟨entryX 0 (args.map .p), [], 0⟩) = some p) : call T g (args.map .p) X = some (.p p, X) := by
  unfold call callX
  rw [hF]
  have h1 : Nat.ble (args.map XV.p).length F.slots = true := by rw [List.length_map]; exact hl
  simp only [h1, hp, cond_true, allP_p, h]

theorem call_prim {g : Nat} {φ : List PV → Option PV} {ps : List PV} {p : PV} {X : XHeap} (hT : T g = some (.prim φ)) (h : φ ps = some p) : call T g (ps.map .p) X = some (.p p, X) := by
  unfold call callX
  rw [hT]
  simp only [allP_p, h]

/-- Such a call comes out the same, whatever else there is. -/
theorem call_any {g : Nat} (h : pfT T g = true) {args : List XV} {p : PV} (hc : call T g args [] = some (.p p, [])) (X : XHeap) : call T g args X = some (.p p, X) := by
  unfold call callX at hc ⊢
  unfold pfT at h
  split at hc
  · rename_i F hT
    simp only [hT, XDef.pf] at h
    rw [h, cond_true] at hc ⊢
    cases hl : Nat.ble args.length F.slots with
    | false => rw [hl, cond_false] at hc; cases hc
    | true =>
      rw [hl, cond_true] at hc
      rw [cond_true]
      split at hc
      · split at hc
        · rename_i q hq
          injection hc with hc; injection hc with hc _; injection hc with hc; subst hc
          rfl
        · cases hc
      · cases hc
  · split at hc
    · split at hc
      · injection hc with hc; injection hc with hc _; injection hc with hc; subst hc
        rfl
      · cases hc
    · cases hc
  · rename_i f hT
    simp [hT, XDef.pf] at h
  · cases hc

/-- Any other call. -/
theorem call_impure {g : Nat} {F : XFn} {args : List XV} {X : XHeap} {r : XV × XHeap} (hF : T g = some (.fn F)) (hp : F.pf = false) (hl : Nat.ble args.length F.slots = true) (h : outN F X (run T F.code ⟨entryX 0 args, X, X.length⟩) = some r) : call T g args X = some r := by
  unfold call callX
  rw [hF]
  simp only [hl, hp, cond_true, cond_false, h]

end

abbrev vI (n : Int) : XV := .p (.v (.int .i64 n))
abbrev vB (n : Bool) : XV := .p (.v (.bool n))
abbrev pI (n : Int) : PV := .v (.int .i64 n)
abbrev pB (n : Bool) : PV := .v (.bool n)
def encI (n : Int) : List PV := [.v (.int .i64 n)]
def encL (l : List Int) : PV := .rd 1 (l.map encI)
def encLL (e : List (List Int)) : PV := .rd 1 (e.map fun l => [encL l])

theorem enc_len1 (c : List Int) : (∀ e ∈ c.map encI, e.length = 1) := fun e he => by
  obtain ⟨v, _, rfl⟩ := List.mem_map.1 he
  rfl
/-- To append elements that have their length. -/
def xappQ (X : XHeap) (es : Nat) (s : XV) (add : List (List PV)) : Option (XV × XHeap) :=
  match s with
  | .ref a off len => match X[a]? with
    | some (some (.pu es' el)) => if off = 0 ∧ len = el.length ∧ es' = es ∧ el.length + add.length ≤ maxEl then
        some (.ref X.length 0 (el.length + add.length), X.set a none ++ [some (.pu es (el ++ add))])
      else none
    | some (some (.mx es' el)) => if off = 0 ∧ len = el.length ∧ es' = es ∧ el.length + add.length ≤ maxEl then
        some (.ref X.length 0 (el.length + add.length), X.set a none ++ [some (.mx es (el ++ add.map (·.map .p)))])
      else none
    | _ => none
  | .p .emp => if add.length ≤ maxEl then some (.ref X.length 0 add.length, X ++ [some (.pu es add)]) else none
  | _ => none
theorem xappP_q {X : XHeap} {es : Nat} {s : XV} {add : List (List PV)} (h : ∀ e ∈ add, e.length = es) : xappP X es s add = xappQ X es s add := by
  have h' : (∀ e ∈ add, e.length = es) = True := eq_true h
  unfold xappP xappQ
  simp only [h', and_true] <;> rfl
theorem xapp_encI (X : XHeap) (s : XV) (c : List Int) : xappP X 1 s (c.map encI) = xappQ X 1 s (c.map encI) := xappP_q (enc_len1 c)
theorem wrap64 (x : Int) (h : -9223372036854775808 ≤ x) (h' : x < 9223372036854775808) : IntKind.i64.wrap x = x := IntWalk.i64_in x ⟨by omega, by omega⟩

end Go.Abs

namespace Go.Abs
open Go Go.RowKit

/-- Each object that is named is there. -/
def closedX (X : XHeap) : Bool := X.all fun o => (refsO o).all (live X)

theorem live_lt {X : XHeap} {a : Nat} (h : live X a = true) : a < X.length := by
  obtain ⟨o, ho⟩ := Option.isSome_iff_exists.1 h
  exact (List.getElem?_eq_some_iff.1 (getO_some ho)).1

theorem addN_none {X : XHeap} : ∀ {l m : List Nat}, l.all (live X) = true → addN X X.length m l = m
  | [], m, _ => rfl
  | a :: r, m, h => by
    simp only [List.all_cons, Bool.and_eq_true] at h
    have : Nat.ble X.length a = false := by
      have := live_lt h.1
      cases hb : Nat.ble X.length a with
      | false => rfl
      | true => have := Nat.le_of_ble_eq_true hb; omega
    simp only [addN, this, Bool.false_and, cond_false]
    exact addN_none h.2

theorem rI_live {X : XHeap} {m : List Nat} {a : Nat} (h : live X a = true) : rI X X.length m a = some a := by
  unfold rI
  have : Nat.blt a X.length = true := by simpa using live_lt h
  rw [this, cond_true, h, cond_true]

mutual
theorem ren_id {r : Nat → Option Nat} {L : Nat → Bool} (hr : ∀ a, L a = true → r a = some a) : ∀ v : XV, (refsV v).all L = true → ren r v = v
  | .p x, _ => rfl
  | .u, _ => rfl
  | .ref a off len, h => by simp only [refsV, List.all_cons, List.all_nil, Bool.and_true] at h; simp only [ren, hr a h]
  | .ptr a i j, h => by simp only [refsV, List.all_cons, List.all_nil, Bool.and_true] at h; simp only [ren, hr a h]
  | .rdx es l, h => by simp only [refsV] at h; simp only [ren, renLL_id hr l h]
  | .agg cs, h => by simp only [refsV] at h; simp only [ren, renL_id hr cs h]
  | .tup cs, h => by simp only [refsV] at h; simp only [ren, renL_id hr cs h]
  | .clo f cs, h => by simp only [refsV] at h; simp only [ren, renL_id hr cs h]
theorem renL_id {r : Nat → Option Nat} {L : Nat → Bool} (hr : ∀ a, L a = true → r a = some a) : ∀ l : List XV, (refsL l).all L = true → renL r l = l
  | [], _ => rfl
  | a :: l, h => by
    simp only [refsL, List.all_append, Bool.and_eq_true] at h
    simp only [renL, ren_id hr a h.1, renL_id hr l h.2]
theorem renLL_id {r : Nat → Option Nat} {L : Nat → Bool} (hr : ∀ a, L a = true → r a = some a) : ∀ l : List (List XV), (refsLL l).all L = true → renLL r l = l
  | [], _ => rfl
  | a :: l, h => by
    simp only [refsLL, List.all_append, Bool.and_eq_true] at h
    simp only [renLL, renL_id hr a h.1, renLL_id hr l h.2]
end

theorem renE_id {r : Nat → Option Nat} {L : Nat → Bool} (hr : ∀ a, L a = true → r a = some a) : ∀ e : XEnv, (refsE e).all L = true → renE r e = e
  | [], _ => rfl
  | (t, v) :: e, h => by
    simp only [refsE, List.all_append, Bool.and_eq_true] at h
    simp only [renE, ren_id hr v h.1, renE_id hr e h.2]

/-- The slots that are kept, where each is kept as it is. -/
def selK (env : XEnv) : List (Nat × Nk) → Option XEnv
  | [] => some []
  | (t, n) :: r => match selK env r with
    | some e => match n with
      | .k => some ((t, xlook env t) :: e)
      | .co _ => some ((t, xlook env t) :: e)
      | _ => none
    | none => none

theorem selK_own {env : XEnv} {X : XHeap} : ∀ {ann : List (Nat × Nk)} {e : XEnv}, selK env ann = some e → pOwn ann env X = (env, X) ∧ pSel X env ann = some (e, []) ∧ ∀ e' X', pEl e' ann X' = X'
  | [], e, h => by simp only [selK] at h; injection h with h; subst h; exact ⟨rfl, rfl, fun _ _ => rfl⟩
  | (t, n) :: r, e, h => by
    simp only [selK] at h
    split at h
    · rename_i e1 h1
      obtain ⟨k1, k2, k3⟩ := selK_own (X := X) h1
      cases n with
      | k => simp only at h; injection h with h; subst h; exact ⟨k1, by simp only [pSel, k2], fun e' X' => by simp only [pEl]; exact k3 e' X'⟩
      | co s => simp only at h; injection h with h; subst h; exact ⟨k1, by simp only [pSel, k2], fun e' X' => by simp only [pEl]; exact k3 e' X'⟩
      | own _ _ => cases h
      | fz _ => cases h
    · cases h

theorem norm_closed {X : XHeap} (hX : closedX X = true) {ann : List (Nat × Nk)} {env e : XEnv} (hs : selK env ann = some e) (hr : (refsE e).all (live X) = true) : norm ann ⟨env, X, X.length⟩ = some ⟨pCo ann e, X, X.length⟩ := by
  obtain ⟨k1, k2, k3⟩ := selK_own (X := X) hs
  have hall : ∀ o ∈ X, (refsO o).all (live X) = true := fun o ho => List.all_eq_true.1 hX o ho
  have hrefs : (refsE e ++ ((X.take X.length).flatMap refsO)).all (live X) = true := by
    rw [List.all_append, hr, Bool.true_and, List.take_length, List.all_eq_true]
    intro a ha
    obtain ⟨o, ho, ha⟩ := List.mem_flatMap.1 ha
    exact List.all_eq_true.1 (hall o ho) a ha
  have hgs : gcS e X X.length = [] := by
    unfold gcS
    rw [addN_none hrefs]
    simp [reach, addN]
  have hok : okGc X X.length [] [] = true := by simp [okGc, nodupB]
  have hid : ∀ a, live X a = true → rI X X.length [] a = some a := fun a ha => rI_live ha
  have hgc : gcH X X.length [] = X := by
    unfold gcH
    rw [List.take_length, List.map_nil, List.append_nil]
    have key : ∀ o ∈ X, Option.map (renO (rI X X.length [])) o = id o := by
      intro o ho
      have := hall o ho
      cases o with
      | none => rfl
      | some o =>
        cases o with
        | pu es el => rfl
        | mx es el => simp only [refsO] at this; simp only [Option.map, renO, renLL_id hid el this, id]
    rw [List.map_congr_left key, List.map_id]
  unfold norm
  simp only [k1, k2, hgs, hok, cond_true, renE_id hid e hr, k3, hgc]

theorem ble_self (n : Nat) : Nat.ble n n = true := by simp
/-- A name that is not opened. -/
def normZ (ann : List (Nat × Nk)) (s : XSt) : Option XSt := norm ann s

/-- The same as a rule: what is kept is reckoned, then it is asked whether it is there. -/
def normC (X : XHeap) (ann : List (Nat × Nk)) (env : XEnv) : Option XSt :=
  match selK env ann with
  | some e => bif (refsE e).all (live X) then some ⟨pCo ann e, X, X.length⟩ else normZ ann ⟨env, X, X.length⟩
  | none => normZ ann ⟨env, X, X.length⟩

theorem norm_rule {X : XHeap} (hX : closedX X = true) (ann : List (Nat × Nk)) (env : XEnv) : norm ann ⟨env, X, X.length⟩ = normC X ann env := by
  unfold normC
  cases hs : selK env ann with
  | none => rfl
  | some e =>
    simp only
    cases hr : (refsE e).all (live X) with
    | true => rw [cond_true]; exact norm_closed hX hs hr
    | false => rw [cond_false]; rfl

/-- The rule, where the list stands there. -/
theorem norm_rules {X : XHeap} (hX : closedX X = true) : (∀ a r env, norm (a :: r) ⟨env, X, X.length⟩ = normC X (a :: r) env) ∧ ∀ env, norm [] ⟨env, X, X.length⟩ = normC X [] env :=
  ⟨fun a r env => norm_rule hX (a :: r) env, fun env => norm_rule hX [] env⟩

end Go.Abs

namespace Go.Abs
open Go Go.RowKit

theorem getO_app {X N : XHeap} {a : Nat} (h : a < X.length) : getO (X ++ N) a = getO X a := by
  unfold getO; rw [List.getElem?_append_left h]
theorem live_app {X N : XHeap} {a : Nat} (h : live X a = true) : live (X ++ N) a = true := by
  unfold live; rw [getO_app (live_lt h)]; exact h

theorem addN_low {Y : XHeap} {b : Nat} : ∀ {l m : List Nat}, (∀ a ∈ l, a < b) → addN Y b m l = m
  | [], m, _ => rfl
  | a :: r, m, h => by
    have : Nat.ble b a = false := by
      have := h a (List.mem_cons_self ..)
      cases hb : Nat.ble b a with
      | false => rfl
      | true => have := Nat.le_of_ble_eq_true hb; omega
    simp only [addN, this, Bool.false_and, cond_false]
    exact addN_low fun x hx => h x (List.mem_cons_of_mem _ hx)

theorem norm_drop {X : XHeap} (hX : closedX X = true) (N : XHeap) {ann : List (Nat × Nk)} {env e : XEnv} (hs : selK env ann = some e) (hr : (refsE e).all (live X) = true) :
    norm ann ⟨env, X ++ N, X.length⟩ = some ⟨pCo ann e, X, X.length⟩ := by
  obtain ⟨k1, k2, k3⟩ := selK_own (X := X ++ N) hs
  have hall : ∀ o ∈ X, (refsO o).all (live X) = true := fun o ho => List.all_eq_true.1 hX o ho
  have ht : (X ++ N).take X.length = X := by simp
  have hrefs : ∀ a ∈ refsE e ++ ((X ++ N).take X.length).flatMap refsO, a < X.length := by
    intro a ha
    rw [ht] at ha
    rcases List.mem_append.1 ha with ha | ha
    · exact live_lt (List.all_eq_true.1 hr a ha)
    · obtain ⟨o, ho, ha⟩ := List.mem_flatMap.1 ha
      exact live_lt (List.all_eq_true.1 (hall o ho) a ha)
  have hgs : gcS e (X ++ N) X.length = [] := by
    unfold gcS
    rw [addN_low hrefs]
    simp [reach, addN]
  have hok : okGc (X ++ N) X.length [] [] = true := by simp [okGc, nodupB]
  have hid : ∀ a, live X a = true → rI (X ++ N) X.length [] a = some a := fun a ha => by
    unfold rI
    have : Nat.blt a X.length = true := by simpa using live_lt ha
    rw [this, cond_true, live_app ha, cond_true]
  have hgc : gcH (X ++ N) X.length [] = X := by
    unfold gcH
    rw [ht, List.map_nil, List.append_nil]
    have key : ∀ o ∈ X, Option.map (renO (rI (X ++ N) X.length [])) o = id o := by
      intro o ho
      have := hall o ho
      cases o with
      | none => rfl
      | some o =>
        cases o with
        | pu es el => rfl
        | mx es el => simp only [refsO] at this; simp only [Option.map, renO, renLL_id hid el this, id]
    rw [List.map_congr_left key, List.map_id]
  unfold norm
  simp only [k1, k2, hgs, hok, cond_true, renE_id hid e hr, k3, hgc]

/-- As a rule. -/
theorem norm_drop_rule {X : XHeap} (hX : closedX X = true) (ann : List (Nat × Nk)) (env : XEnv) (o : Option XObj) (N : XHeap) (hk : ∀ e, selK env ann = some e → (refsE e).all (live X) = true) (hs : (selK env ann).isSome = true) :
    norm ann ⟨env, X ++ o :: N, X.length⟩ = normC X ann env := by
  unfold normC
  cases h : selK env ann with
  | none => rw [h] at hs; cases hs
  | some e => simp only [hk e h, cond_true]; exact norm_drop hX (o :: N) h (hk e h)

theorem get_app0 (X : XHeap) (o : Option XObj) (N : XHeap) : (X ++ o :: N)[X.length]? = some o := by simp
theorem get_app1 (X : XHeap) (o p : Option XObj) (N : XHeap) : (X ++ o :: p :: N)[X.length + 1]? = some p := by
  rw [List.getElem?_append_right (by omega)]
  have : X.length + 1 - X.length = 1 := by omega
  rw [this]; rfl
theorem get_appL {X : XHeap} {a : Nat} {o : XObj} (h : X[a]? = some (some o)) (N : XHeap) : (X ++ N)[a]? = some (some o) := by
  have := (List.getElem?_eq_some_iff.1 h).1
  rw [List.getElem?_append_left this]; exact h
theorem len_app2 (X : XHeap) (o : Option XObj) : (X ++ [o]).length = X.length + 1 := by simp
end Go.Abs

namespace Go.Abs
open Go Go.RowKit

theorem addN_append (Y : XHeap) (b : Nat) : ∀ (l r m : List Nat), addN Y b m (l ++ r) = addN Y b (addN Y b m l) r
  | [], r, m => rfl
  | a :: l, r, m => by
    simp only [List.cons_append, addN]
    cases Nat.ble b a && live Y a && !(m.any (Nat.beq a)) with
    | true => simp only [cond_true]; exact addN_append Y b l r _
    | false => simp only [cond_false]; exact addN_append Y b l r _

theorem gcS_app {X : XHeap} (hX : closedX X = true) (e : XEnv) (N : XHeap) : gcS e (X ++ N) X.length = reach (X ++ N) X.length 4 (addN (X ++ N) X.length [] (refsE e)) := by
  unfold gcS
  rw [addN_append, addN_low (l := ((X ++ N).take X.length).flatMap refsO)]
  intro a ha
  rw [List.take_left] at ha
  obtain ⟨o, ho, ha⟩ := List.mem_flatMap.1 ha
  exact live_lt (List.all_eq_true.1 (List.all_eq_true.1 hX o ho) a ha)

theorem gcH_app {X : XHeap} (hX : closedX X = true) (N : XHeap) (m : List Nat) : gcH (X ++ N) X.length m = X ++ m.map fun a => (getO (X ++ N) a).map (renO (rI (X ++ N) X.length m)) := by
  have hid : ∀ a, live X a = true → rI (X ++ N) X.length m a = some a := fun a ha => by
    unfold rI
    have : Nat.blt a X.length = true := by simpa using live_lt ha
    rw [this, cond_true, live_app ha, cond_true]
  unfold gcH
  rw [List.take_left]
  congr 1
  have key : ∀ o ∈ X, Option.map (renO (rI (X ++ N) X.length m)) o = id o := by
    intro o ho
    have := List.all_eq_true.1 hX o ho
    cases o with
    | none => rfl
    | some o =>
      cases o with
      | pu es el => rfl
      | mx es el => simp only [refsO] at this; simp only [Option.map, renO, renLL_id hid el this, id]
  rw [List.map_congr_left key, List.map_id]

theorem gc_rules {X : XHeap} (hX : closedX X = true) : (∀ e o N, gcS e (X ++ o :: N) X.length = reach (X ++ o :: N) X.length 4 (addN (X ++ o :: N) X.length [] (refsE e))) ∧
    (∀ o N m, gcH (X ++ o :: N) X.length m = X ++ m.map fun a => (getO (X ++ o :: N) a).map (renO (rI (X ++ o :: N) X.length m))) :=
  ⟨fun e o N => gcS_app hX e (o :: N), fun o N m => gcH_app hX (o :: N) m⟩

theorem gc_same {X : XHeap} (hX : closedX X = true) : (∀ e, gcS e X X.length = reach X X.length 4 (addN X X.length [] (refsE e))) ∧
    ∀ m, gcH X X.length m = X ++ m.map fun a => (getO X a).map (renO (rI X X.length m)) := by
  refine ⟨fun e => ?_, fun m => ?_⟩
  · have := gcS_app hX e []
    simpa only [List.append_nil] using this
  · have := gcH_app hX [] m
    simpa only [List.append_nil] using this

theorem live_set {X : XHeap} {a m : Nat} {o : XObj} (h : live X a = true) : live (X.set m (some o)) a = true := by
  have hl := live_lt h
  unfold live getO at h ⊢
  rw [List.getElem?_set]
  by_cases e : m = a
  · subst e; simp [hl]
  · simpa [e] using h
theorem closed_set {X : XHeap} {m : Nat} (hX : closedX X = true) {o : XObj} (ho : (refsO (some o)).all (live X) = true) : closedX (X.set m (some o)) = true := by
  refine List.all_eq_true.2 fun p hp => List.all_eq_true.2 fun a ha => live_set ?_
  rcases List.mem_or_eq_of_mem_set hp with hp | rfl
  · exact List.all_eq_true.1 (List.all_eq_true.1 hX p hp) a ha
  · exact List.all_eq_true.1 ho a ha
theorem closed_pu {X : XHeap} {m : Nat} (hX : closedX X = true) (es : Nat) (el : List (List PV)) : closedX (X.set m (some (.pu es el))) = true := closed_set hX rfl

theorem old_rules {X : XHeap} {a : Nat} (h : live X a = true) : Nat.ble X.length a = false ∧ Nat.blt a X.length = true ∧ ∀ N, live (X ++ N) a = true := by
  have := live_lt h
  refine ⟨?_, by simpa using this, fun N => live_app h⟩
  cases hb : Nat.ble X.length a with
  | false => rfl
  | true => have := Nat.le_of_ble_eq_true hb; omega

theorem ble_add (n k : Nat) : Nat.ble n (n + k) = true := Nat.ble_eq_true_of_le (by omega)
theorem blt_self (n : Nat) : Nat.blt n n = false := by
  cases h : Nat.blt n n with
  | false => rfl
  | true => have := Nat.le_of_ble_eq_true h; omega
theorem blt_add (n k : Nat) : Nat.blt (n + k) n = false := by
  cases h : Nat.blt (n + k) n with
  | false => rfl
  | true => have := Nat.le_of_ble_eq_true h; omega
theorem beq_self (n : Nat) : Nat.beq n n = true := Nat.beq_refl n
theorem beq_add (n j k : Nat) : Nat.beq (n + j) (n + k) = Nat.beq j k := by
  rw [Bool.eq_iff_iff, Nat.beq_eq, Nat.beq_eq]; omega
theorem beq_addr (n k : Nat) : Nat.beq n (n + k) = Nat.beq 0 k := by
  rw [Bool.eq_iff_iff, Nat.beq_eq, Nat.beq_eq]; omega
theorem beq_addl (n k : Nat) : Nat.beq (n + k) n = Nat.beq k 0 := by
  rw [Bool.eq_iff_iff, Nat.beq_eq, Nat.beq_eq]; omega

theorem get_appk (X : XHeap) (N : XHeap) (k : Nat) : (X ++ N)[X.length + k]? = N[k]? := by
  rw [List.getElem?_append_right (by omega)]
  congr 1; omega
theorem get_appz (X : XHeap) (N : XHeap) : (X ++ N)[X.length]? = N[0]? := get_appk X N 0
theorem getO_appk (X : XHeap) (N : XHeap) (k : Nat) : getO (X ++ N) (X.length + k) = getO N k := by unfold getO; rw [get_appk]
theorem getO_appz (X : XHeap) (N : XHeap) : getO (X ++ N) X.length = getO N 0 := getO_appk X N 0
theorem live_appk (X : XHeap) (N : XHeap) (k : Nat) : live (X ++ N) (X.length + k) = live N k := by unfold live; rw [getO_appk]
theorem live_appz (X : XHeap) (N : XHeap) : live (X ++ N) X.length = live N 0 := live_appk X N 0
theorem set_appk (X : XHeap) (N : XHeap) (k : Nat) (o : Option XObj) : (X ++ N).set (X.length + k) o = X ++ N.set k o := by
  rw [List.set_append_right _ _ (by omega)]
  congr 2; omega
theorem set_appz (X : XHeap) (N : XHeap) (o : Option XObj) : (X ++ N).set X.length o = X ++ N.set 0 o := set_appk X N 0 o
theorem len_app (X N : XHeap) : (X ++ N).length = X.length + N.length := List.length_append
end Go.Abs

namespace Go.Abs
open Go
set_option linter.defProp false
set_option maxRecDepth 20000
def sxP := And.intro (And.intro (And.intro (And.intro (@Go.Abs.xai_n) (@Go.Abs.xai_u)) (And.intro (@Go.Abs.xai_tt) (@Go.Abs.xai_tf))) (And.intro (And.intro (@Go.Abs.xai_ft) (@Go.Abs.xai_ff)) (And.intro (@Go.Abs.okMark_ff) (And.intro (@Go.Abs.okMark_tf) (@Go.Abs.okMark_ft))))) (And.intro (And.intro (And.intro (@Go.Abs.okMark_tt) (@Go.Abs.xlook_c)) (And.intro (@Go.Abs.xlook_n) (And.intro (@Bool.cond_eq_ite.{1}) (@List.map_cons.{0, 0})))) (And.intro (And.intro (@List.map_nil.{0, 0}) (@List.any_nil.{0})) (And.intro (@List.any_cons.{0}) (And.intro (@List.all_nil.{0}) (@List.all_cons.{0})))))
def sxQ := And.intro (And.intro (And.intro (And.intro (And.intro (And.intro (And.intro (@Go.Abs.nx_norm) (And.intro (@Go.Abs.run_seq_reg) (@Go.Abs.run_seq))) (And.intro (@Go.Abs.run_reg) (And.intro (@Go.Abs.run_cond) (@Go.Abs.run_skip)))) (And.intro (And.intro (@Go.Abs.run_exit) (And.intro (@Go.Abs.run_ret) (@Go.Abs.run_blk))) (And.intro (@Go.Abs.run_normX) (And.intro (@Go.Abs.run_loopX) (@Go.Abs.optX_some))))) (And.intro (And.intro (And.intro (@Go.Abs.optX_none) (And.intro (@Go.Abs.thenX_nor) (@Go.Abs.thenX_exit))) (And.intro (@Go.Abs.thenX_ret) (And.intro (@Go.Abs.thenX_none) (@Go.Abs.thenX_ite)))) (And.intro (And.intro (@Go.Abs.thenX_cond) (And.intro (@Go.Abs.blkX_nor) (@Go.Abs.blkX_ret))) (And.intro (@Go.Abs.blkX_exit) (And.intro (@Go.Abs.blkX_none) (@Go.Abs.blkX_ite)))))) (And.intro (And.intro (And.intro (And.intro (@Go.Abs.blkX_cond) (And.intro (@Go.Abs.onB_true) (@Go.Abs.onB_false))) (And.intro (@Go.Abs.onB_v) (And.intro (@Go.Abs.xop_call) (@Go.Abs.xops.eq_1)))) (And.intro (And.intro (@Go.Abs.xops.eq_2) (And.intro (@Go.Abs.xv_bool) (@Go.Abs.xv_ub))) (And.intro (@Go.Abs.xv_bu) (And.intro (@Go.Abs.allOldX.eq_1) (@Go.Abs.allOldX.eq_2))))) (And.intro (And.intro (And.intro (@Go.Abs.allP.eq_1) (And.intro (@Go.Abs.allP.eq_2) (@Go.Abs.allP.eq_3))) (And.intro (@Nat.beq.eq_1) (And.intro (@Nat.beq.eq_2) (@Nat.beq.eq_3)))) (And.intro (And.intro (@Nat.beq.eq_4) (And.intro (@Nat.ble.eq_1) (@Nat.ble.eq_2))) (And.intro (And.intro (@Nat.ble.eq_3) (@decide_eq_true_eq)) (And.intro (@Bool.false_eq_true) (@cond_true.{1}))))))) (And.intro (And.intro (And.intro (And.intro (And.intro (@cond_false.{1}) (And.intro (@Bool.not_false) (@Bool.not_true))) (And.intro (@Bool.true_or) (And.intro (@Bool.false_or) (@Bool.and_self)))) (And.intro (And.intro (@Bool.true_and) (And.intro (@Bool.and_true) (@Bool.false_and))) (And.intro (@Bool.and_false) (And.intro (@Bool.or_true) (@Bool.or_false))))) (And.intro (And.intro (And.intro (@List.getElem?_map.{0, 0}) (And.intro (@List.length_map.{0, 0}) (@true_or))) (And.intro (@or_true) (And.intro (@false_or) (@or_false)))) (And.intro (And.intro (@and_true) (And.intro (@true_and) (@if_true.{1}))) (And.intro (And.intro (@if_false.{1}) (@ite_true.{1})) (And.intro (@ite_false.{1}) (@eq_self.{1})))))) (And.intro (And.intro (And.intro (And.intro (@Option.map_some.{0, 0}) (And.intro (@Int.toNat_natCast) (@List.drop_zero.{0}))) (And.intro (@List.drop_succ_cons.{0}) (And.intro (@List.take_succ_cons.{0}) (@List.take_zero.{0})))) (And.intro (And.intro (@List.getElem?_cons_zero.{0}) (And.intro (@List.getElem?_cons_succ.{0}) (@List.length_cons.{0}))) (And.intro (@List.length_nil.{0}) (And.intro (@Nat.zero_add) (@Nat.add_zero))))) (And.intro (And.intro (And.intro (@decide_true) (And.intro (@decide_false) (@Bool.cond_decide.{1}))) (And.intro (@Go.Abs.pCo.eq_1) (And.intro (@Go.Abs.pCo.eq_2) (@Go.Abs.pCo.eq_3)))) (And.intro (And.intro (@Go.Abs.pCo.eq_4) (And.intro (@Go.Abs.pEl.eq_1) (@Go.Abs.pEl.eq_2))) (And.intro (And.intro (@Go.Abs.pEl.eq_3) (@Go.Abs.refsE.eq_1)) (And.intro (@Go.Abs.refsE.eq_2) (@Go.Abs.refsV.eq_1)))))))) (And.intro (And.intro (And.intro (And.intro (And.intro (And.intro (@Go.Abs.refsV.eq_2) (And.intro (@Go.Abs.refsV.eq_3) (@Go.Abs.refsV.eq_4))) (And.intro (@Go.Abs.refsV.eq_5) (And.intro (@Go.Abs.refsV.eq_6) (@Go.Abs.refsV.eq_7)))) (And.intro (And.intro (@Go.Abs.refsL.eq_1) (And.intro (@Go.Abs.refsL.eq_2) (@Go.Abs.refsLL.eq_1))) (And.intro (@Go.Abs.refsLL.eq_2) (And.intro (@Go.Abs.nodupB.eq_1) (@Go.Abs.nodupB.eq_2))))) (And.intro (And.intro (And.intro (@Go.Abs.renE.eq_1) (And.intro (@Go.Abs.renE.eq_2) (@Go.Abs.ren.eq_1))) (And.intro (@Go.Abs.ren.eq_2) (And.intro (@Go.Abs.ren.eq_3) (@Go.Abs.ren.eq_4)))) (And.intro (And.intro (@Go.Abs.ren.eq_5) (And.intro (@Go.Abs.ren.eq_6) (@Go.Abs.ren.eq_7))) (And.intro (And.intro (@Go.Abs.ren.eq_8) (@Go.Abs.renL.eq_1)) (And.intro (@Go.Abs.renL.eq_2) (@Go.Abs.renLL.eq_1)))))) (And.intro (And.intro (And.intro (And.intro (@Go.Abs.renLL.eq_2) (And.intro (@Go.Abs.idxN.eq_1) (@Go.Abs.idxN.eq_2))) (And.intro (@Go.Abs.co.eq_1) (And.intro (@Go.Abs.co.eq_2) (@Go.Abs.co.eq_3)))) (And.intro (And.intro (@Go.Abs.co.eq_4) (And.intro (@Go.Abs.co.eq_5) (@Go.Abs.co.eq_6))) (And.intro (@Go.Abs.co.eq_7) (And.intro (@Go.Abs.co.eq_8) (@Go.Abs.coL.eq_1))))) (And.intro (And.intro (And.intro (@Go.Abs.coL.eq_2) (And.intro (@Go.Abs.coL.eq_3) (@Go.Abs.frzV.eq_1))) (And.intro (@Go.Abs.frzV.eq_2) (And.intro (@Go.Abs.frzV.eq_3) (@Go.Abs.frzV.eq_4)))) (And.intro (And.intro (@Go.Abs.frzV.eq_5) (And.intro (@Go.Abs.frzV.eq_6) (@Go.Abs.frzV.eq_7))) (And.intro (And.intro (@Go.Abs.frzV.eq_8) (@Go.Abs.frzV.eq_9)) (And.intro (@Go.Abs.frzV.eq_10) (@Go.Abs.frzV.eq_11))))))) (And.intro (And.intro (And.intro (And.intro (And.intro (@Go.Abs.mapF.eq_1) (And.intro (@Go.Abs.mapF.eq_2) (@Go.Abs.mapFF.eq_1))) (And.intro (@Go.Abs.mapFF.eq_2) (And.intro (@List.append_nil.{0}) (@List.nil_append.{0})))) (And.intro (And.intro (@List.flatMap_nil.{0, 0}) (And.intro (@List.flatMap_cons.{0, 0}) (@Int.natCast_nonneg))) (And.intro (@List.map_map.{0, 0, 0}) (And.intro (@Function.comp_def.{1, 1, 1}) (@Go.Abs.outP_nor))))) (And.intro (And.intro (And.intro (@Go.Abs.outP_ret) (And.intro (@Go.Abs.outP_ite) (@Go.Abs.outP_cond))) (And.intro (@Go.Abs.outN_nor) (And.intro (@Go.Abs.outN_ret) (@Go.Abs.outN_ite)))) (And.intro (And.intro (@Go.Abs.outN_cond) (And.intro (@Go.Abs.resXs.eq_1) (@Go.Abs.resXs.eq_2))) (And.intro (And.intro (@Go.Abs.entryX.eq_1) (@Go.Abs.entryX.eq_2)) (And.intro (@Nat.lt_irrefl) (@Nat.le_refl)))))) (And.intro (And.intro (And.intro (And.intro (@Go.Abs.xcall_run) (And.intro (@Go.Abs.lendL.eq_1) (@Go.Abs.lendL.eq_2))) (And.intro (@Go.Abs.lendC.eq_1) (And.intro (@Go.Abs.lendC.eq_2) (@Go.Abs.coXL.eq_1)))) (And.intro (And.intro (@Go.Abs.coXL.eq_2) (And.intro (@List.cons_append.{0}) (@Go.Abs.mmX.eq_1))) (And.intro (@Go.Abs.mmX.eq_2) (And.intro (@Go.Abs.mmX.eq_3) (@Go.Abs.xfill.eq_1))))) (And.intro (And.intro (And.intro (@Go.Abs.xfill.eq_2) (And.intro (@Go.Abs.xfillE.eq_1) (@Go.Abs.xfillE.eq_2))) (And.intro (@Go.Abs.allPP.eq_1) (And.intro (@Go.Abs.allPP.eq_2) (@Go.Abs.eqP.eq_1)))) (And.intro (And.intro (@Go.Abs.eqP.eq_2) (And.intro (@Go.Abs.eqP.eq_3) (@List.replicate.eq_1.{0}))) (And.intro (And.intro (@List.replicate.eq_2.{0}) (@List.set.eq_1.{0})) (And.intro (@List.set.eq_2.{0}) (@List.set.eq_3.{0}))))))))
end Go.Abs

namespace Go.Abs
open Go

/-- What 'slices.Grow' gives where it is handed nil. -/
def growN (es : Nat) : List XV → XHeap → Option (XV × XHeap)
  | [.p .emp, .p (.v (.int .i64 n))], X => if 0 ≤ n ∧ n ≤ 1048576 then some (.ref X.length 0 0, X ++ [some (.pu es [])]) else none
  | _, _ => none
end Go.Abs
