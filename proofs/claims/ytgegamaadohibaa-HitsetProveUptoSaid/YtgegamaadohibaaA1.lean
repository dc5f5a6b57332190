/- Abstract values, code and its translation from the model's code, with its checks; the first operations are sound. No condition. -/
import Derived.WalkKit
namespace Go.Abs
open Go

/-- An abstract value: 'v' a real value as it stands; 'u' nothing known; 'emp' a slice without elements and capacity; 'rd' a slice that is only read (elements of 'es' cells each); 'rp' a pointer into such memory (the cells from there on); 'ref' a slice of an own object; 'ptr' a pointer into an own object (element, cell); 'agg' a struct or array by value; 'tup' a tuple; 'clo' a function value. -/
inductive AV where
  | v (x : Value)
  | u
  | emp
  | rd (es : Nat) (l : List (List AV))
  | rp (cs : List AV)
  | ref (a off len : Nat)
  | ptr (a i j : Nat)
  | agg (cs : List AV)
  | tup (vs : List AV)
  | clo (f : Nat) (caps : List AV)
  deriving Inhabited

/-- Where an own object lies. -/
inductive Loc where
  | fresh
  | dead
  | nil
  | hid (g : Nat)
  | cells (g es cap : Nat)

structure AObj where
  es : Nat
  el : List (List AV)

abbrev Heap := List (Option AObj)

/-- Objects by their ids: none: not there yet; some none: gone. -/
abbrev HF := Nat → Option (Option AObj)

def hf (H : Heap) : HF := fun a => H[a]?

def OwnC (L : Nat → Loc) (b : Nat) : Prop := ∃ a es cap, L a = .cells b es cap

/-- Somebody's own: one's own, or an object that is put aside. -/
def Owned (L : Nat → Loc) (b : Nat) : Prop := OwnC L b ∨ ∃ a, L a = .hid b

inductive VR (fm : Nat → Nat) (w : World) (L : Nat → Loc) : Value → AV → Prop
  | v (x : Value) : VR fm w L x (.v x)
  | u (x : Value) : VR fm w L x .u
  | emp (A : Option Addr) : VR fm w L (.slice A 0 0) .emp
  | rd0 (A : Option Addr) (es c : Nat) : VR fm w L (.slice A 0 c) (.rd es [])
  | rd (b o c es : Nat) (l : List (List AV)) (vals : Nat → Nat → Value)
      (hne : l ≠ []) (hes : ∀ e ∈ l, e.length = es) (hes0 : 0 < es) (hlc : l.length ≤ c) (hb : ¬ Owned L b) (hbs : b < w.heap.size)
      (hc : ∀ i e j x, l[i]? = some e → e[j]? = some x → w.cell? ⟨b, o + i * es + j, none⟩ = some (vals i j))
      (h1 : ∀ i e j x, l[i]? = some e → e[j]? = some x → (vals i j).oneCell' = true)
      (hr : ∀ i e j x, l[i]? = some e → e[j]? = some x → VR fm w L (vals i j) x) :
      VR fm w L (.slice (some ⟨b, o, none⟩) l.length c) (.rd es l)
  | rp (b o : Nat) (cs : List AV) (vals : Nat → Value) (hb : ¬ Owned L b) (hbs : b < w.heap.size)
      (hc : ∀ j x, cs[j]? = some x → w.cell? ⟨b, o + j, none⟩ = some (vals j))
      (h1 : ∀ j x, cs[j]? = some x → (vals j).oneCell' = true)
      (hr : ∀ j x, cs[j]? = some x → VR fm w L (vals j) x) :
      VR fm w L (.pointer (some ⟨b, o, none⟩)) (.rp cs)
  | refAt (g es cap a off len : Nat) (h : L a = .cells g es cap) (hl : off + len ≤ cap) :
      VR fm w L (.slice (some ⟨g, off * es, none⟩) len (cap - off)) (.ref a off len)
  | refNil (A : Option Addr) (a : Nat) (h : L a = .nil) : VR fm w L (.slice A 0 0) (.ref a 0 0)
  | refDead (A : Option Addr) (c a off len : Nat) (h : L a = .dead) (hl : len ≤ c) : VR fm w L (.slice A len c) (.ref a off len)
  | ptrAt (g es cap a i j : Nat) (h : L a = .cells g es cap) : VR fm w L (.pointer (some ⟨g, i * es + j, none⟩)) (.ptr a i j)
  | ptrDead (ad : Addr) (a i j : Nat) (h : L a = .dead) : VR fm w L (.pointer (some ad)) (.ptr a i j)
  | agg (xs : Array Value) (cs : List AV) (hs : xs.size = cs.length)
      (h1 : ∀ j a, cs[j]? = some a → (xs.getD j undef).oneCell' = true)
      (h : ∀ j a, cs[j]? = some a → VR fm w L (xs.getD j undef) a) : VR fm w L (.agg xs) (.agg cs)
  | tup (xs : Array Value) (cs : List AV) (hs : xs.size = cs.length)
      (h : ∀ j a, cs[j]? = some a → VR fm w L (xs.getD j undef) a) : VR fm w L (.tuple xs) (.tup cs)
  | clo (f : Nat) (xs : Array Value) (cs : List AV) (hs : xs.size = cs.length)
      (h : ∀ j a, cs[j]? = some a → VR fm w L (xs.getD j undef) a) : VR fm w L (.func (.func f) #[] xs) (.clo (fm f) cs)

/-- What an own object's block holds. -/
def ObjR (fm : Nat → Nat) (w : World) (L : Nat → Loc) (loc : Loc) (o : AObj) : Prop :=
  match loc with
  | .nil => o.el = [] ∧ 0 < o.es
  | .cells g es cap => es = o.es ∧ 0 < es ∧ o.el.length ≤ cap ∧ cap ≤ maxLen ∧ (∀ e ∈ o.el, e.length = es) ∧
      ∃ cur ty, w.heap[g]? = some (.cells cur ty (0, 0)) ∧ cur.size = cap * es ∧
        ∀ i e j x, o.el[i]? = some e → e[j]? = some x →
          (cur.getD (i * es + j) undef).oneCell' = true ∧ VR fm w L (cur.getD (i * es + j) undef) x
  | _ => False

structure HR (fm : Nat → Nat) (w : World) (L : Nat → Loc) (H : HF) : Prop where
  obj : ∀ a o, H a = some (some o) → ObjR fm w L (L a) o
  live : ∀ a, (∃ g es cap, L a = .cells g es cap) ∨ L a = .nil → ∃ o, H a = some (some o)
  fresh : ∀ a, L a = .fresh ↔ H a = none
  inj : ∀ a b g e c e' c', L a = .cells g e c → L b = .cells g e' c' → a = b
  hid : ∀ a g, L a = .hid g → g < w.heap.size ∧ ¬ OwnC L g

structure Keep (L : Nat → Loc) (w w' : World) : Prop where
  os : w'.os = w.os
  tape : w'.tape = w.tape
  output : w'.output = w.output
  size : w.heap.size ≤ w'.heap.size
  blk : ∀ b, b < w.heap.size → ¬ OwnC L b → w'.heap[b]? = w.heap[b]?

structure LStep (L L' : Nat → Loc) (n : Nat) : Prop where
  old : ∀ a, L a ≠ .fresh → L' a = L a ∨ (L' a = .dead ∧ ∀ g, L a ≠ .hid g)
  own : ∀ b, Owned L' b → Owned L b ∨ n ≤ b
  ownc : ∀ b, OwnC L' b → OwnC L b ∨ n ≤ b

theorem Keep.refl (L : Nat → Loc) (w : World) : Keep L w w := ⟨rfl, rfl, rfl, Nat.le_refl _, fun _ _ _ => rfl⟩
theorem LStep.refl (L : Nat → Loc) (n : Nat) : LStep L L n := ⟨fun _ _ => .inl rfl, fun _ h => .inl h, fun _ h => .inl h⟩
theorem LStep.mono {L L' : Nat → Loc} {n m : Nat} (h : LStep L L' n) (hm : m ≤ n) : LStep L L' m :=
  ⟨h.old, fun b hb => (h.own b hb).imp id (fun h => Nat.le_trans hm h), fun b hb => (h.ownc b hb).imp id (fun h => Nat.le_trans hm h)⟩
theorem LStep.trans {A B C : Nat → Loc} {n : Nat} (h : LStep A B n) (k : LStep B C n) : LStep A C n := by
  refine ⟨fun a ha => ?_, fun b hb => ?_, fun b hb => ?_⟩
  · rcases h.old a ha with e | ⟨e, hg⟩
    · rcases k.old a (by rw [e]; exact ha) with e' | ⟨e', hg⟩
      · exact .inl (e'.trans e)
      · exact .inr ⟨e', fun g => by rw [← e]; exact hg g⟩
    · rcases k.old a (by rw [e]; exact fun h => by cases h) with e' | ⟨e', _⟩
      · exact .inr ⟨e'.trans e, hg⟩
      · exact .inr ⟨e', hg⟩
  · rcases k.own b hb with hb | hb
    · exact h.own b hb
    · exact .inr hb
  · rcases k.ownc b hb with hb | hb
    · exact h.ownc b hb
    · exact .inr hb
theorem Keep.trans {L L' : Nat → Loc} {a b c : World} (h : Keep L a b) (hs : LStep L L' a.heap.size) (k : Keep L' b c) : Keep L a c := by
  refine ⟨k.os.trans h.os, k.tape.trans h.tape, k.output.trans h.output, Nat.le_trans h.size k.size, fun i hi ho => ?_⟩
  rw [k.blk i (Nat.lt_of_lt_of_le hi h.size) (fun hc => ?_), h.blk i hi ho]
  rcases hs.ownc i hc with hc | hc
  · exact ho hc
  · omega

theorem Keep.cell {L : Nat → Loc} {w w' : World} (h : Keep L w w') {p : Addr} (hp : p.block < w.heap.size) (ho : ¬ Owned L p.block) :
    w'.cell? p = w.cell? p := World.cell?_of_block (h.blk p.block hp (fun hc => ho (.inl hc)))

theorem LStep.notOwned {L L' : Nat → Loc} {n b : Nat} (h : LStep L L' n) (hb : ¬ Owned L b) (hn : b < n) : ¬ Owned L' b := fun hc => by
  rcases h.own b hc with h | h
  · exact hb h
  · omega

/-- A related value stays related while the world goes on. -/
theorem VR.mono {fm : Nat → Nat} {w w' : World} {L L' : Nat → Loc} (hk : Keep L w w') (hs : LStep L L' w.heap.size) {x : Value} {a : AV} (h : VR fm w L x a) :
    VR fm w' L' x a := by
  induction h with
  | v x => exact .v x
  | u x => exact .u x
  | emp A => exact .emp A
  | rd0 A es c => exact .rd0 A es c
  | rd b o c es l vals hne hes hes0 hlc hb hbs hc h1 hr ih =>
    exact .rd b o c es l vals hne hes hes0 hlc (hs.notOwned hb hbs) (Nat.lt_of_lt_of_le hbs hk.size)
      (fun i e j x he hx => by rw [hk.cell (p := ⟨b, _, none⟩) hbs hb]; exact hc i e j x he hx) h1 ih
  | rp b o cs vals hb hbs hc h1 hr ih =>
    exact .rp b o cs vals (hs.notOwned hb hbs) (Nat.lt_of_lt_of_le hbs hk.size)
      (fun j x hx => by rw [hk.cell (p := ⟨b, _, none⟩) hbs hb]; exact hc j x hx) h1 ih
  | refAt g es cap a off len h hl =>
    rcases hs.old a (by rw [h]; exact fun h => by cases h) with e | ⟨e, _⟩
    · exact .refAt g es cap a off len (e.trans h) hl
    · exact .refDead _ _ a off len e (by omega)
  | refNil A a h =>
    rcases hs.old a (by rw [h]; exact fun h => by cases h) with e | ⟨e, _⟩
    · exact .refNil A a (e.trans h)
    · exact .refDead _ _ a 0 0 e (Nat.le_refl _)
  | refDead A c a off len h hl =>
    rcases hs.old a (by rw [h]; exact fun h => by cases h) with e | ⟨e, _⟩
    · exact .refDead _ _ a off len (e.trans h) hl
    · exact .refDead _ _ a off len e hl
  | ptrAt g es cap a i j h =>
    rcases hs.old a (by rw [h]; exact fun h => by cases h) with e | ⟨e, _⟩
    · exact .ptrAt g es cap a i j (e.trans h)
    · exact .ptrDead _ a i j e
  | ptrDead ad a i j h =>
    rcases hs.old a (by rw [h]; exact fun h => by cases h) with e | ⟨e, _⟩
    · exact .ptrDead _ a i j (e.trans h)
    · exact .ptrDead _ a i j e
  | agg xs cs hs1 h1 h ih => exact .agg xs cs hs1 h1 ih
  | tup xs cs hs1 h ih => exact .tup xs cs hs1 ih
  | clo f xs cs hs1 h ih => exact .clo f xs cs hs1 ih

/-- The same, while no own object is written. -/
theorem HR.mono {fm : Nat → Nat} {w w' : World} {L : Nat → Loc} {H : HF} (h : HR fm w L H) (hk : Keep L w w')
    (ho : ∀ b, b < w.heap.size → OwnC L b → w'.heap[b]? = w.heap[b]?) : HR fm w' L H := by
  refine ⟨fun a o hao => ?_, h.live, h.fresh, h.inj, fun a g hg => ⟨Nat.lt_of_lt_of_le (h.hid a g hg).1 hk.size, (h.hid a g hg).2⟩⟩
  have hobj := h.obj a o hao
  revert hobj
  cases hL : L a with
  | fresh => exact id
  | dead => exact id
  | nil => exact id
  | hid g => exact id
  | cells g es cap =>
    rintro ⟨h0, h1, h2, h3, h4, cur, ty, h5, h6, h7⟩
    refine ⟨h0, h1, h2, h3, h4, cur, ty, ?_, h6, fun i e j x hi hj => ?_⟩
    · rw [ho g ?_ ⟨a, es, cap, hL⟩]
      · exact h5
      · exact (Array.getElem?_eq_some_iff.1 h5).1
    · obtain ⟨p, q⟩ := h7 i e j x hi hj
      exact ⟨p, q.mono hk (LStep.refl _ _)⟩

end Go.Abs

namespace Go.Abs
open Go

abbrev Env := List (Nat × AV)

/-- A cell that stands in a constant. -/
def zc : Value → AV
  | .slice none 0 0 => .emp
  | v => .v v

inductive Opd where
  | t (n : Nat)
  | c (v : AV)
  deriving Inhabited

/-- Operations that read values alone. -/
inductive POp where
  | mm (mx : Bool)
  | isn (ng : Bool)
  | emz
  deriving Inhabited

inductive AOp where
  | pv (op : POp) (xs : List Opd)
  | mv (x : Opd)
  | pick (c a b : Opd)
  | box (x : Opd)
  | alloc (z : List Value)
  | build (z : List Value) (parts : List (Nat × Nat × Opd))
  | bsl (es : Nat) (z : List Value) (len : Nat) (parts : List (Nat × Opd))
  | load (agg : Bool) (n : Nat) (x : Opd)
  | loadR (agg : Bool) (n : Nat) (x : Opd)
  | store (n : Nat) (x y : Opd)
  | nilc (x : Opd)
  | bin (op : BinOp) (x y : Opd)
  | beq (neg : Bool) (x y : Opd)
  | eqa (neg : Bool) (ks : List Nat) (x y : Opd)
  | not (x : Opd)
  | neg (x : Opd)
  | conv (k : IntKind) (x : Opd)
  | cvs (x : Opd)
  | fad (off : Nat) (x : Opd)
  | fld (agg : Bool) (off n : Nat) (x : Opd)
  | iad (es : Nat) (x i : Opd)
  | iada (es len : Nat) (x i : Opd)
  | idx (x i : Opd)
  | slcS (x : Opd) (lo hi : Option Opd)
  | slcR (es : Nat) (x : Opd) (lo hi : Option Opd)
  | ext (x : Opd) (i : Nat)
  | len (x : Opd)
  | lenS (x : Opd)
  | app (es : Nat) (s x : Opd)
  | mksl (es : Nat) (z : List Value) (n c : Opd)
  | call (f : Nat) (args : List Opd)
  | dyn (x : Opd) (args : List Opd)
  | dynP (x : Opd) (args : List Opd)
  | mkf (f : Nat) (caps : List Opd)
  deriving Inhabited

/-- 'old': the objects that it reads were there when the region began; 'nw': the object that it takes over was not. -/
structure AI where
  dst : Option Nat
  op : AOp
  guard : Option (Nat × Bool)
  old : Bool := false
  nw : Bool := false
  deriving Inhabited

inductive ACode where
  | skip
  | reg (ops : List AI)
  | seq (a b : ACode)
  | cond (c : Opd) (a b : ACode)
  | blk (id : Nat) (b : ACode)
  | loop (b : ACode)
  | exit (id : Nat)
  | ret
  | bad
  deriving Inhabited

/-- 'base': as many objects were there when the function began. -/
structure ASt where
  env : Env
  heap : Heap
  base : Nat

/-- What a function does: arguments, objects before, result, objects behind. -/
abbrev Contract := List AV → Heap → AV → Heap → Prop

/-- The contracts that calls are held to; 'pf': the function touches no object. -/
structure Ctx where
  C : Nat → Contract
  pf : Nat → Bool

def lookE : Env → Nat → AV
  | [], _ => .u
  | (n, v) :: r, t => bif n == t then v else lookE r t

def opd (env : Env) : Opd → AV
  | .t n => lookE env n
  | .c v => v

def opK (env : Env) (x : Opd) (K : AV → Prop) : Prop := K (opd env x)

/-- A Bool that is decided or not: both ways. -/
def bsp (b : Bool) (A B : Prop) : Prop := (b = true → A) ∧ (b = false → B)

def cellsOf : AV → Option (List AV)
  | .agg cs => some cs
  | .tup _ => none
  | .u => none
  | .v x => if x.oneCell' then some [.v x] else none
  | a => some [a]

def cellsK (a : AV) (K : List AV → Prop) : Prop := ∃ cs, cellsOf a = some cs ∧ K cs

/-- A guard: a bool, or nothing (its own operation was passed over). -/
def guardK (a : AV) (K : Bool → Prop) (S : Prop) : Prop := (∃ b, a = .v (.bool b) ∧ K b) ∨ (a = .v undef ∧ S)
def boolK (a : AV) (K : Bool → Prop) : Prop := ∃ b, a = .v (.bool b) ∧ K b
def intK (a : AV) (K : Int → Prop) : Prop := ∃ k n, a = .v (.int k n) ∧ K n
def strK (a : AV) (K : ByteArray → Prop) : Prop := ∃ s, a = .v (.string s) ∧ K s

def loadK (agg : Bool) (n : Nat) (cs : List AV) (K : AV → Prop) : Prop :=
  match agg with
  | true => n ≤ cs.length ∧ K (.agg (cs.take n))
  | false => ∃ c, cs[0]? = some c ∧ K c

def objK (H : HF) (a : Nat) (K : AObj → Prop) : Prop := ∃ o, H a = some (some o) ∧ K o

/-- What an operation does to the objects: one is turned (or goes), one comes. -/
inductive Upd where
  | set (a : Nat) (o : Option AObj)
  | push (o : Option AObj)

def applyU (H : Heap) : Upd → Heap
  | .set a o => H.set a o
  | .push o => H ++ [o]

def applyUs : Heap → List Upd → Heap
  | H, [] => H
  | H, u :: r => applyUs (applyU H u) r

def splice (l : List AV) (j : Nat) (cs : List AV) : List AV := l.take j ++ cs ++ l.drop (j + cs.length)

def fillK (l : List AV) (env : Env) : List (Nat × Nat × Opd) → (List AV → Prop) → Prop
  | [], K => K l
  | (off, n, x) :: r, K => opK env x fun a => cellsK a fun cs => cs.length = n ∧ off + n ≤ l.length ∧ fillK (splice l off cs) env r K

def fillE (es : Nat) (l : List (List AV)) (env : Env) : List (Nat × Opd) → (List (List AV) → Prop) → Prop
  | [], K => K l
  | (i, x) :: r, K => opK env x fun a => cellsK a fun cs => cs.length = es ∧ i < l.length ∧ fillE es (l.set i cs) env r K

def intBin (op : BinOp) (k : IntKind) (x y : Int) (K : Value → Prop) : Prop :=
  match op with
  | .add => K (.int k (k.wrap (x + y)))
  | .sub => K (.int k (k.wrap (x - y)))
  | .mul => K (.int k (k.wrap (x * y)))
  | .quo => y ≠ 0 ∧ K (.int k (k.wrap (x.tdiv y)))
  | .rem => y ≠ 0 ∧ K (.int k (x.tmod y))
  | .and => K (.int k (bits .and k x y))
  | .or => K (.int k (bits .or k x y))
  | .xor => K (.int k (bits .xor k x y))
  | .andNot => K (.int k (bits .andNot k x y))
  | .shl => 0 ≤ y ∧ K (.int k (k.wrap (x * 2 ^ (min y.toNat k.bits))))
  | .shr => 0 ≤ y ∧ K (.int k (x.fdiv (2 ^ (min y.toNat k.bits))))
  | .eql => K (.bool (x == y))
  | .neq => K (.bool (x != y))
  | .lss => K (.bool (decide (x < y)))
  | .leq => K (.bool (decide (x ≤ y)))
  | .gtr => K (.bool (decide (x > y)))
  | .geq => K (.bool (decide (x ≥ y)))

def strBin (op : BinOp) (x y : ByteArray) (K : Value → Prop) : Prop :=
  match op with
  | .add => ((x.size + y.size : Nat) : Int) ≤ 9223372036854775807 ∧ K (.string (x ++ y))
  | .eql => K (.bool (x.toList == y.toList))
  | .neq => K (.bool (!(x.toList == y.toList)))
  | .lss => K (.bool (Op.bytesLess x.toList y.toList))
  | .leq => K (.bool (Op.bytesLess x.toList y.toList || x.toList == y.toList))
  | .gtr => K (.bool (!(Op.bytesLess x.toList y.toList || x.toList == y.toList)))
  | .geq => K (.bool (!Op.bytesLess x.toList y.toList))
  | _ => False

/-- Shifts take counts of any kind, all else takes two numbers of one kind. -/
def binK (op : BinOp) (a b : AV) (K : Value → Prop) : Prop :=
  match a, b with
  | .v (.int k x), .v (.int k' y) => (k = k' ∨ op = .shl ∨ op = .shr) ∧ intBin op k x y K
  | .v (.string x), .v (.string y) => strBin op x y K
  | _, _ => False

def eqAV : Nat → AV → AV → Option Bool
  | 0, .v (.bool a), .v (.bool b) => some (a == b)
  | 1, .v (.int k a), .v (.int k' b) => if k = k' then some (a == b) else none
  | 2, .v (.string a), .v (.string b) => some (a.toList == b.toList)
  | _, _, _ => none

def eqL : List Nat → List AV → List AV → Option Bool
  | [], [], [] => some true
  | k :: ks, a :: as, b :: bs => match eqAV k a b, eqL ks as bs with
    | some x, some y => some (x && y)
    | _, _ => none
  | _, _, _ => none

/-- What may be handed over where another form is asked for. -/
inductive Coe : AV → AV → Prop
  | refl (a : AV) : Coe a a
  | empRd (es : Nat) : Coe .emp (.rd es [])
  | rd (es : Nat) (l l' : List (List AV)) (hl : l.length = l'.length) (hz : ∀ (i : Nat) (e e' : List AV), l[i]? = some e → l'[i]? = some e' → e.length = e'.length)
      (h : ∀ (i : Nat) (e e' : List AV) (j : Nat) (x x' : AV), l[i]? = some e → l'[i]? = some e' → e[j]? = some x → e'[j]? = some x' → Coe x x') : Coe (.rd es l) (.rd es l')
  | rp (cs cs' : List AV) (hl : cs.length = cs'.length) (h : ∀ (j : Nat) (x x' : AV), cs[j]? = some x → cs'[j]? = some x' → Coe x x') : Coe (.rp cs) (.rp cs')
  | agg (cs cs' : List AV) (hl : cs.length = cs'.length) (h : ∀ (j : Nat) (x x' : AV), cs[j]? = some x → cs'[j]? = some x' → Coe x x') : Coe (.agg cs) (.agg cs')
  | tup (cs cs' : List AV) (hl : cs.length = cs'.length) (h : ∀ (j : Nat) (x x' : AV), cs[j]? = some x → cs'[j]? = some x' → Coe x x') : Coe (.tup cs) (.tup cs')
  | clo (f : Nat) (cs cs' : List AV) (hl : cs.length = cs'.length) (h : ∀ (j : Nat) (x x' : AV), cs[j]? = some x → cs'[j]? = some x' → Coe x x') : Coe (.clo f cs) (.clo f cs')

def All2 (R : AV → AV → Prop) : List AV → List AV → Prop
  | [], [] => True
  | a :: as, b :: bs => R a b ∧ All2 R as bs
  | _, _ => False

/-- A slice of an own object, lent for reading. -/
def Bor1 (H : HF) (a b : AV) : Prop :=
  a = b ∨ ∃ i off len o, a = .ref i off len ∧ H i = some (some o) ∧ off + len ≤ o.el.length ∧ b = .rd o.es ((o.el.drop off).take len)

/-- The same, or a struct with such slices. -/
def Bor (H : HF) (a b : AV) : Prop :=
  Bor1 H a b ∨ ∃ cs ds, a = .agg cs ∧ b = .agg ds ∧ All2 (Bor1 H) cs ds

/-- No own object is named. -/
inductive NR : AV → Prop
  | v (x : Value) : NR (.v x)
  | u : NR .u
  | emp : NR .emp
  | rd (es : Nat) (l : List (List AV)) (h : ∀ e ∈ l, ∀ x ∈ e, NR x) : NR (.rd es l)
  | rp (cs : List AV) (h : ∀ x ∈ cs, NR x) : NR (.rp cs)
  | agg (cs : List AV) (h : ∀ x ∈ cs, NR x) : NR (.agg cs)
  | tup (cs : List AV) (h : ∀ x ∈ cs, NR x) : NR (.tup cs)
  | clo (f : Nat) (cs : List AV) (h : ∀ x ∈ cs, NR x) : NR (.clo f cs)

inductive Scal : AV → Prop
  | v (x : Value) : Scal (.v x)
  | tup (l : List AV) (h : ∀ a ∈ l, ∃ x, a = .v x) : Scal (.tup l)

/-- A call of a function that touches no object: slices of own objects are lent for reading, where only plain values come back. Any other call: with all objects. -/
def callK (C : Ctx) (f : Nat) (args : List AV) (H : Heap) (K : AV → Heap → Prop) : Prop :=
  (C.pf f = true ∧ ∃ args1 args' r, All2 (Bor (hf H)) args args1 ∧ (args1 = args ∨ Scal r) ∧ All2 Coe args1 args' ∧ C.C f args' [] r [] ∧ K r H) ∨
  (C.pf f = false ∧ ∃ args' r H', All2 Coe args args' ∧ C.C f args' H r H' ∧ H.length ≤ H'.length ∧ K r H')

def maxEl : Nat := 1073741824

def appK (es : Nat) (s : AV) (l : List (List AV)) (H : HF) (nid : Nat) (K : AV → List Upd → Prop) : Prop :=
  match s with
  | .ref a off len => objK H a fun o => off = 0 ∧ len = o.el.length ∧ o.es = es ∧ o.el.length + l.length ≤ maxEl ∧ (∀ e ∈ l, e.length = es) ∧
      K (.ref nid 0 (o.el.length + l.length)) [.set a none, .push (some ⟨es, o.el ++ l⟩)]
  | .emp => l.length ≤ maxEl ∧ (∀ e ∈ l, e.length = es) ∧ K (.ref nid 0 l.length) [.push (some ⟨es, l⟩)]
  | _ => False

def slB (env : Env) (o : Option Opd) (d : Nat) (K : Nat → Prop) : Prop :=
  match o with
  | none => K d
  | some x => opK env x fun a => intK a fun n => 0 ≤ n ∧ K n.toNat

def mmF (mx : Bool) (k : IntKind) : Int → List AV → Option AV
  | m, [] => some (.v (.int k m))
  | m, .v (.int _ n) :: r => mmF mx k (bif mx then max m n else min m n) r
  | _, _ => none

def zeroA : AV → Bool
  | .v (.int _ n) => decide (n = 0)
  | _ => false

/-- What such an operation gives. -/
def pvF : POp → List AV → Option AV
  | .mm mx, .v (.int k m) :: r => mmF mx k m r
  | .isn ng, [.rd _ (_ :: _)] => some (.v (.bool ng))
  | .isn ng, [.v (.slice A _ _)] => some (.v (.bool (bif ng then !A.isNone else A.isNone)))
  | .emz, [a, lo, hi, mx] => if zeroA lo = true ∧ zeroA hi = true ∧ zeroA mx = true then match a with
      | .rd _ _ | .emp | .v (.slice _ _ _) => some .emp
      | _ => none
    else none
  | _, _ => none

/-- All operations but calls: 'nid' is the id that a new object gets. -/
def evG (op : AOp) (env : Env) (H : HF) (nid : Nat) (K : AV → List Upd → Prop) : Prop :=
  match op with
  | .pv op xs => ∃ r, pvF op (xs.map (opd env)) = some r ∧ K r []
  | .mv x => opK env x fun a => K a []
  | .pick c a b => opK env c fun c => boolK c fun t => opK env a fun a => opK env b fun b => bsp t (K a []) (K b [])
  | .box x => opK env x fun a => cellsK a fun cs => 0 < cs.length ∧ cs.length ≤ maxEl ∧ K (.ptr nid 0 0) [.push (some ⟨cs.length, [cs]⟩)]
  | .alloc z => K (.ptr nid 0 0) [.push (some ⟨z.length, [z.map zc]⟩)]
  | .build z parts => fillK (z.map zc) env parts fun cs => K (.agg cs) []
  | .bsl es z n parts => fillE es (List.replicate n (z.map zc)) env parts fun l => K (match l with | [] => .emp | _ => .rd es l) []
  | .load g n x => opK env x fun p => match p with
    | .rp cs => loadK g n cs fun a => K a []
    | .ptr a i j => objK H a fun o => ∃ e, o.el[i]? = some e ∧ loadK g n (e.drop j) fun a => K a []
    | _ => False
  | .loadR g n x => opK env x fun p => match p with
    | .rp cs => loadK g n cs fun a => K a []
    | _ => False
  | .store n x y => opK env x fun p => opK env y fun y => match p with
    | .ptr a i j => objK H a fun o => ∃ e, o.el[i]? = some e ∧ cellsK y fun cs => cs.length = n ∧ j + n ≤ e.length ∧ K .u [.set a (some ⟨o.es, o.el.set i (splice e j cs)⟩)]
    | _ => False
  | .nilc x => opK env x fun p => match p with
    | .rp cs => K (.rp cs) []
    | .ptr a i j => K (.ptr a i j) []
    | .clo f cs => K (.clo f cs) []
    | _ => False
  | .bin op x y => opK env x fun a => opK env y fun b => binK op a b fun r => K (.v r) []
  | .beq ng x y => opK env x fun a => opK env y fun b => boolK a fun s => boolK b fun t => K (.v (.bool (bif ng then !(s == t) else s == t))) []
  | .eqa ng ks x y => opK env x fun a => opK env y fun b => ∃ cs ds r, a = .agg cs ∧ b = .agg ds ∧ eqL ks cs ds = some r ∧ K (.v (.bool (bif ng then !r else r))) []
  | .not x => opK env x fun a => boolK a fun b => K (.v (.bool !b)) []
  | .neg x => opK env x fun a => ∃ k n, a = .v (.int k n) ∧ K (.v (.int k (k.wrap (0 - n)))) []
  | .conv k x => opK env x fun a => intK a fun n => K (.v (.int k (k.wrap n))) []
  | .cvs x => opK env x fun a => strK a fun s => K (.v (.string s)) []
  | .fad off x => opK env x fun p => match p with
    | .rp cs => K (.rp (cs.drop off)) []
    | .ptr a i j => K (.ptr a i (j + off)) []
    | _ => False
  | .fld g off n x => opK env x fun a => ∃ cs, a = .agg cs ∧ off ≤ cs.length ∧ loadK g n (cs.drop off) fun a => K a []
  | .iad es x i => opK env x fun a => opK env i fun i => intK i fun n => match a with
    | .rd es' l => es' = es ∧ 0 ≤ n ∧ ∃ e, l[n.toNat]? = some e ∧ K (.rp e) []
    | .ref a off len => objK H a fun o => o.es = es ∧ off + len ≤ o.el.length ∧ 0 ≤ n ∧ n < len ∧ K (.ptr a (off + n.toNat) 0) []
    | _ => False
  | .iada es len x i => opK env x fun p => opK env i fun i => intK i fun n => 0 ≤ n ∧ n < (len : Int) ∧ match p with
    | .rp cs => K (.rp (cs.drop (n.toNat * es))) []
    | .ptr a i j => K (.ptr a i (j + n.toNat * es)) []
    | _ => False
  | .idx x i => opK env x fun a => opK env i fun i => strK a fun s => intK i fun n => 0 ≤ n ∧ ∃ b, s[n.toNat]? = some b ∧ K (.v (.int .u8 b.toNat)) []
  | .slcS x lo hi => opK env x fun a => strK a fun s => slB env lo 0 fun l => slB env hi s.size fun h => l ≤ h ∧ h ≤ s.size ∧ K (.v (.string (s.extract l h))) []
  | .slcR es0 x lo hi => opK env x fun a => match a with
    | .rd es l => es = es0 ∧ slB env lo 0 fun i => slB env hi l.length fun h => i ≤ h ∧ h ≤ l.length ∧ K (.rd es ((l.take h).drop i)) []
    | .ref a off len => slB env lo 0 fun i => slB env hi len fun h => i = 0 ∧ h ≤ len ∧ K (.ref a off h) []
    | .emp => slB env lo 0 fun i => slB env hi 0 fun h => i = 0 ∧ h = 0 ∧ K .emp []
    | _ => False
  | .ext x i => opK env x fun a => ∃ l, a = .tup l ∧ ∃ b, l[i]? = some b ∧ K b []
  | .lenS x => opK env x fun a => strK a fun s => K (.v (.int .i64 (s.size : Nat))) []
  | .len x => opK env x fun a => match a with
    | .rd _ l => K (.v (.int .i64 (l.length : Nat))) []
    | .ref _ _ len => K (.v (.int .i64 (len : Nat))) []
    | .emp => K (.v (.int .i64 0)) []
    | _ => False
  | .app es s x => opK env s fun s => opK env x fun x => match x with
    | .rd es' l => es' = es ∧ appK es s l H nid K
    | .emp => appK es s [] H nid K
    | _ => False
  | .mksl es z n c => opK env n fun n => opK env c fun c => intK n fun n => intK c fun c => 0 ≤ n ∧ n ≤ c ∧ c ≤ (maxEl : Nat) ∧
      K (.ref nid 0 n.toNat) [.push (some ⟨es, List.replicate n.toNat (z.map zc)⟩)]
  | .call _ _ => False
  | .dyn _ _ => False
  | .dynP _ _ => False
  | .mkf f caps => K (.clo f (caps.map (opd env))) []

def evOp (C : Ctx) (op : AOp) (env : Env) (H : Heap) (K : AV → Heap → Prop) : Prop :=
  match op with
  | .call f args => callK C f (args.map (opd env)) H K
  | .dyn x args => opK env x fun a => ∃ f cs, a = .clo f cs ∧ callK C f (args.map (opd env) ++ cs) H K
  | .dynP x args => opK env x fun a => ∃ f cs, a = .clo f cs ∧ C.pf f = true ∧ callK C f (args.map (opd env) ++ cs) H K
  | op => evG op env (hf H) H.length fun v us => K v (applyUs H us)

def put (env : Env) (d : Option Nat) (v : AV) : Env :=
  match d with
  | some d => (d, v) :: env
  | none => env

/-- The operands through which an operation reads own objects. -/
def AOp.touched : AOp → List Opd
  | .load _ _ x | .store _ x _ | .iad _ x _ => [x]
  | .app _ s _ => [s]
  | .call _ args => args
  | .dynP x args => x :: args
  | _ => []

/-- An own object, of which a slice may be lent. -/
def nm1 (a : Nat) : AV → Prop
  | .ref b _ _ => a = b
  | .agg cs => ∃ off len, AV.ref a off len ∈ cs
  | _ => False

def oldAV (n0 : Nat) : AV → Prop
  | .ptr a _ _ => a < n0
  | .ref a _ _ => a < n0
  | .clo _ cs => ∀ i c, c ∈ cs → nm1 i c → i < n0
  | .agg cs => ∀ i off len, AV.ref i off len ∈ cs → i < n0
  | _ => True

def newAV (n0 : Nat) : AV → Prop
  | .ref a _ _ => n0 ≤ a
  | .ptr a _ _ => n0 ≤ a
  | .clo _ _ => False
  | .agg _ => False
  | _ => True

def allOld (n0 : Nat) (env : Env) : List Opd → Prop
  | [] => True
  | x :: r => opK env x (oldAV n0) ∧ allOld n0 env r

def nwC (n0 : Nat) (env : Env) : AOp → Prop
  | .app _ s _ => opK env s (newAV n0)
  | .store _ x _ => opK env x (newAV n0)
  | _ => False

def evOpF (C : Ctx) (n0 : Nat) (old nw : Bool) (op : AOp) (env : Env) (H : Heap) (K : AV → Heap → Prop) : Prop :=
  (old = true → allOld n0 env op.touched) ∧ (nw = true → nwC n0 env op) ∧ evOp C op env H K

def evAI (C : Ctx) (n0 : Nat) (i : AI) (K : ASt → Prop) (st : ASt) : Prop :=
  match i.guard with
  | none => evOpF C n0 i.old i.nw i.op st.env st.heap fun v H => K ⟨put st.env i.dst v, H, st.base⟩
  | some (g, true) => opK st.env (.t g) fun a => guardK a (fun b =>
      bsp b (evOpF C n0 i.old i.nw i.op ((g, .v (.bool true)) :: st.env) st.heap fun v H => K ⟨put ((g, .v (.bool true)) :: st.env) i.dst v, H, st.base⟩)
        (K ⟨put ((g, .v (.bool false)) :: st.env) i.dst (.v undef), st.heap, st.base⟩)) (K ⟨put st.env i.dst (.v undef), st.heap, st.base⟩)
  | some (g, false) => opK st.env (.t g) fun a => guardK a (fun b =>
      bsp b (K ⟨put ((g, .v (.bool true)) :: st.env) i.dst (.v undef), st.heap, st.base⟩)
        (evOpF C n0 i.old i.nw i.op ((g, .v (.bool false)) :: st.env) st.heap fun v H => K ⟨put ((g, .v (.bool false)) :: st.env) i.dst v, H, st.base⟩)) (K ⟨put st.env i.dst (.v undef), st.heap, st.base⟩)

def evOps (C : Ctx) (n0 : Nat) : List AI → (ASt → Prop) → ASt → Prop
  | [], K, st => K st
  | i :: r, K, st => evAI C n0 i (fun s => evOps C n0 r K s) st

inductive Ex where
  | nor
  | exit (id : Nat)
  | ret

theorem opK_c (env : Env) (v : AV) (K : AV → Prop) : opK env (.c v) K = K v := rfl
theorem opK_hit (n : Nat) (v : AV) (r : Env) (K : AV → Prop) : opK ((n, v) :: r) (.t n) K = K v := by simp [opK, opd, lookE]
theorem opK_miss (n t : Nat) (v : AV) (r : Env) (K : AV → Prop) (h : (n == t) = false) : opK ((n, v) :: r) (.t t) K = opK r (.t t) K := by
  simp [opK, opd, lookE, h]
theorem evOps_nil (C : Ctx) (n0 : Nat) (K : ASt → Prop) (st : ASt) : evOps C n0 [] K st = K st := rfl
theorem evOps_cons (C : Ctx) (n0 : Nat) (i : AI) (r : List AI) (K : ASt → Prop) (st : ASt) : evOps C n0 (i :: r) K st = evAI C n0 i (fun s => evOps C n0 r K s) st := rfl
theorem evOpF_ff (C : Ctx) (n0 : Nat) (op : AOp) (env : Env) (H : Heap) (K : AV → Heap → Prop) : evOpF C n0 false false op env H K = evOp C op env H K := by simp [evOpF]
theorem evOpF_tf (C : Ctx) (n0 : Nat) (op : AOp) (env : Env) (H : Heap) (K : AV → Heap → Prop) : evOpF C n0 true false op env H K = (allOld n0 env op.touched ∧ evOp C op env H K) := by simp [evOpF]
theorem evOpF_ft (C : Ctx) (n0 : Nat) (op : AOp) (env : Env) (H : Heap) (K : AV → Heap → Prop) : evOpF C n0 false true op env H K = (nwC n0 env op ∧ evOp C op env H K) := by simp [evOpF]
theorem evOpF_tt (C : Ctx) (n0 : Nat) (op : AOp) (env : Env) (H : Heap) (K : AV → Heap → Prop) : evOpF C n0 true true op env H K = (allOld n0 env op.touched ∧ nwC n0 env op ∧ evOp C op env H K) := by simp [evOpF]
theorem evAI_none (C : Ctx) (n0 : Nat) (d : Option Nat) (op : AOp) (o w : Bool) (K : ASt → Prop) (env : Env) (H : Heap) (b0 : Nat) :
    evAI C n0 ⟨d, op, none, o, w⟩ K ⟨env, H, b0⟩ = evOpF C n0 o w op env H (fun v H => K ⟨put env d v, H, b0⟩) := rfl
theorem evAI_true (C : Ctx) (n0 : Nat) (d : Option Nat) (op : AOp) (g : Nat) (o w : Bool) (K : ASt → Prop) (env : Env) (H : Heap) (b0 : Nat) :
    evAI C n0 ⟨d, op, some (g, true), o, w⟩ K ⟨env, H, b0⟩ = opK env (.t g) (fun a => guardK a (fun b =>
      bsp b (evOpF C n0 o w op ((g, .v (.bool true)) :: env) H fun v H => K ⟨put ((g, .v (.bool true)) :: env) d v, H, b0⟩)
        (K ⟨put ((g, .v (.bool false)) :: env) d (.v undef), H, b0⟩)) (K ⟨put env d (.v undef), H, b0⟩)) := rfl
theorem evAI_false (C : Ctx) (n0 : Nat) (d : Option Nat) (op : AOp) (g : Nat) (o w : Bool) (K : ASt → Prop) (env : Env) (H : Heap) (b0 : Nat) :
    evAI C n0 ⟨d, op, some (g, false), o, w⟩ K ⟨env, H, b0⟩ = opK env (.t g) (fun a => guardK a (fun b =>
      bsp b (K ⟨put ((g, .v (.bool true)) :: env) d (.v undef), H, b0⟩)
        (evOpF C n0 o w op ((g, .v (.bool false)) :: env) H fun v H => K ⟨put ((g, .v (.bool false)) :: env) d v, H, b0⟩)) (K ⟨put env d (.v undef), H, b0⟩)) := rfl
theorem guardK_v (b : Bool) (K : Bool → Prop) (S : Prop) : guardK (.v (.bool b)) K S = K b := by simp [guardK, undef]
theorem boolK_v (b : Bool) (K : Bool → Prop) : boolK (.v (.bool b)) K = K b := by simp [boolK]
theorem intK_v (k : IntKind) (n : Int) (K : Int → Prop) : intK (.v (.int k n)) K = K n := by
  unfold intK; exact propext ⟨fun ⟨_, _, h, hk⟩ => by cases h; exact hk, fun h => ⟨k, n, rfl, h⟩⟩
theorem strK_v (s : ByteArray) (K : ByteArray → Prop) : strK (.v (.string s)) K = K s := by simp [strK]
theorem bsp_true (A B : Prop) : bsp true A B = A := by simp [bsp]
theorem bsp_false (A B : Prop) : bsp false A B = B := by simp [bsp]
theorem binK_int (op : BinOp) (k : IntKind) (x y : Int) (K : Value → Prop) : binK op (.v (.int k x)) (.v (.int k y)) K = intBin op k x y K := by simp [binK]
theorem binK_shl (k k' : IntKind) (x y : Int) (K : Value → Prop) : binK .shl (.v (.int k x)) (.v (.int k' y)) K = intBin .shl k x y K := by simp [binK]
theorem binK_shr (k k' : IntKind) (x y : Int) (K : Value → Prop) : binK .shr (.v (.int k x)) (.v (.int k' y)) K = intBin .shr k x y K := by simp [binK]
theorem binK_str (op : BinOp) (x y : ByteArray) (K : Value → Prop) : binK op (.v (.string x)) (.v (.string y)) K = strBin op x y K := rfl
theorem cellsK_agg (cs : List AV) (K : List AV → Prop) : cellsK (.agg cs) K = K cs := by simp [cellsK, cellsOf]
theorem cellsK_v (x : Value) (K : List AV → Prop) (h : x.oneCell' = true) : cellsK (.v x) K = K [.v x] := by simp [cellsK, cellsOf, h]
theorem cellsK_rd (es : Nat) (l : List (List AV)) (K : List AV → Prop) : cellsK (.rd es l) K = K [.rd es l] := by simp [cellsK, cellsOf]
theorem cellsK_rp (l : List AV) (K : List AV → Prop) : cellsK (.rp l) K = K [.rp l] := by simp [cellsK, cellsOf]
theorem cellsK_ref (a off len : Nat) (K : List AV → Prop) : cellsK (.ref a off len) K = K [.ref a off len] := by simp [cellsK, cellsOf]
theorem cellsK_ptr (a i j : Nat) (K : List AV → Prop) : cellsK (.ptr a i j) K = K [.ptr a i j] := by simp [cellsK, cellsOf]
theorem cellsK_clo (f : Nat) (cs : List AV) (K : List AV → Prop) : cellsK (.clo f cs) K = K [.clo f cs] := by simp [cellsK, cellsOf]

end Go.Abs

namespace Go.Abs
open Go

def ofV : Value → AV
  | .agg cs => if cs.all (·.oneCell') then .agg (cs.toList.map zc) else .u
  | .tuple vs => .tup (vs.toList.map zc)
  | .slice none 0 0 => .emp
  | v => .v v

def trOpd (fm : Nat → Nat) : Operand → Opd
  | .tmp t => .t t
  | .const v => .c (ofV v)
  | .global g => .c (.v (.pointer (some ⟨g, 0, none⟩)))
  | .func f => .c (.clo (fm f) [])

def aggT (P : Program) (t : TypeId) : Option Bool :=
  match P.underlying t with
  | some (.struct _) => some true
  | some (.array _ _) => some true
  | some _ => some false
  | none => none

def sizeT (P : Program) (t : TypeId) : Option Nat := (P.info? t).map (·.size)

/-- Zero cells of a type, each of them one cell, and at least one. -/
def zeroT (P : Program) (t : TypeId) : Option (List Value) :=
  match P.info? t with
  | some i => match i.zero with
    | some z => if z.cells.size = i.size ∧ 0 < i.size ∧ i.size ≤ 1048576 ∧ i.bytes ≤ 1024 ∧ z.cells.all (·.oneCell') then some z.cells.toList else none
    | none => none
  | none => none

def callable (P : Program) (f : FuncId) : Bool :=
  match P.funcs[f]? with
  | some fn => fn.body.isSome && !(fn.name == "runtime.NumGoroutine")
  | none => false

def leafsF (lf : TypeId → Option (List Nat)) : List Field → Nat → Option (List Nat)
  | [], _ => some []
  | f :: r, e => if f.name ≠ "_" ∧ f.offset = e then
      match lf f.type with
      | some l => match leafsF lf r (e + l.length) with
        | some l' => some (l ++ l')
        | none => none
      | none => none
    else none

/-- The kinds of the cells of a type whose values '==' compares cell by cell: 0 a bool, 1 a number, 2 a string. -/
def leafs (P : Program) : Nat → TypeId → Option (List Nat)
  | 0, _ => none
  | d + 1, t => match P.underlying t with
    | some .bool => some [0]
    | some (.int _) => some [1]
    | some .string => some [2]
    | some (.struct fs) => if P.stoodInHeld t then none else
        match leafsF (leafs P d) fs.toList 0 with
        | some l => if sizeT P t = some l.length then some l else none
        | none => none
    | _ => none

def trOp (P : Program) (fm : Nat → Nat) (o : Oper) : Option AOp :=
  let x := trOpd fm
  match o.op with
  | .move a => some (.mv (x a))
  | .assign a => some (.mv (x a))
  | .pick c a b => some (.pick (x c) (x a) (x b))
  | .alloc e => (zeroT P e).map .alloc
  | .box _ a => some (.box (x a))
  | .build t parts => match P.underlying t, zeroT P t with
    | some (.struct fs), some z =>
      (parts.toList.mapM fun (p : Nat × Operand) => (fs[p.1]?).bind fun f => (sizeT P f.type).map fun s => (f.offset, s, x p.2)).bind fun ps =>
        if (fs.toList.all fun f => (sizeT P f.type).isSome) then some (.build z ps) else none
    | some (.array _ e), some z => (sizeT P e).map fun s => .build z (parts.toList.map fun p => (p.1 * s, s, x p.2))
    | _, _ => none
  | .buildSlice t len parts => match P.underlying t with
    | some (.slice e) => (zeroT P e).bind fun z => if len * z.length ≤ 2 ^ 24 then some (.bsl z.length z len (parts.toList.map fun p => (p.1, x p.2))) else none
    | _ => none
  | .load t a => (aggT P t).bind fun g => (sizeT P t).map fun n => .load g n (x a)
  | .store t a b => (sizeT P t).map fun n => .store n (x a) (x b)
  | .nilCheck a => some (.nilc (x a))
  | .binOp op t a b _ => match op with
    | .eql => match P.underlying t with
      | some (.slice _) => match b with
        | .const (.slice none 0 0) => some (.pv (.isn false) [x a])
        | _ => none
      | some .bool => some (.beq false (x a) (x b))
      | some (.int _) => some (.bin .eql (x a) (x b))
      | some .string => some (.bin .eql (x a) (x b))
      | some (.struct _) => if P.eqGuardType P.depth t then none else (leafs P 9 t).map fun l => .eqa false l (x a) (x b)
      | _ => none
    | .neq => match P.underlying t with
      | some (.slice _) => match b with
        | .const (.slice none 0 0) => some (.pv (.isn true) [x a])
        | _ => none
      | some .bool => some (.beq true (x a) (x b))
      | some (.int _) => some (.bin .neq (x a) (x b))
      | some .string => some (.bin .neq (x a) (x b))
      | some (.struct _) => if P.eqGuardType P.depth t then none else (leafs P 9 t).map fun l => .eqa true l (x a) (x b)
      | _ => none
    | op => some (.bin op (x a) (x b))
  | .unOp .not _ a => some (.not (x a))
  | .unOp .neg _ a => some (.neg (x a))
  | .convert s d a => match P.underlying s, P.underlying d with
    | some (.int _), some (.int k) => some (.conv k (x a))
    | some .string, some .string => some (.cvs (x a))
    | _, _ => none
  | .fieldAddr s a f => match P.underlying s with
    | some (.struct fs) => (fs[f]?).bind fun fd => (sizeT P fd.type).bind fun n => if n = 0 then none else some (.fad fd.offset (x a))
    | _ => none
  | .field s a f => match P.underlying s with
    | some (.struct fs) => (fs[f]?).bind fun fd => (aggT P fd.type).bind fun g => (sizeT P fd.type).map fun n => .fld g fd.offset n (x a)
    | _ => none
  | .indexAddr t a i => match P.underlying t with
    | some (.slice e) => (sizeT P e).map fun s => .iad s (x a) (x i)
    | some (.array n e) => (sizeT P e).map fun s => .iada s n (x a) (x i)
    | _ => none
  | .index t a i => match P.underlying t with
    | some .string => some (.idx (x a) (x i))
    | _ => none
  | .slice t a lo hi none => match P.underlying t with
    | some .string => some (.slcS (x a) (lo.map x) (hi.map x))
    | some (.slice e) => (sizeT P e).map fun n => .slcR n (x a) (lo.map x) (hi.map x)
    | _ => none
  | .slice t a (some lo) (some hi) (some mx) => match P.underlying t with
    | some (.slice e) => (sizeT P e).map fun _ => .pv .emz [x a, x lo, x hi, x mx]
    | _ => none
  | .extract a i => some (.ext (x a) i)
  | .makeSlice t n c => match P.underlying t with
    | some (.slice e) => (zeroT P e).map fun z => .mksl z.length z (x n) (x c)
    | _ => none
  | .makeFunc (.func f) first caps => if first.isEmpty then some (.mkf (fm f) (caps.toList.map x)) else none
  | .call c => match c.callee with
    | .builtin .len => match (c.argTypes[0]?).bind P.underlying, c.args.toList with
      | some .string, [a] => some (.lenS (x a))
      | some (.slice _), [a] => some (.len (x a))
      | _, _ => none
    | .builtin .append => match c.argTypes.toList, c.args.toList with
      | [t, t'], [s, a] => if t = t' then match P.underlying t with
        | some (.slice e) => (zeroT P e).map fun z => .app z.length (x s) (x a)
        | _ => none
        else none
      | _, _ => none
    | .builtin .min => if c.args.size = 0 then none else some (.pv (.mm false) (c.args.toList.map x))
    | .builtin .max => if c.args.size = 0 then none else some (.pv (.mm true) (c.args.toList.map x))
    | .value (.func f) => if callable P f then some (.call (fm f) (c.args.toList.map x)) else none
    | .value (.tmp t) => some (.dyn (.t t) (c.args.toList.map x))
    | _ => none
  | _ => none

def trAI (P : Program) (fm : Nat → Nat) (n : Nat) (ops : Array Oper) (o : Oper) : Option AI :=
  match trOp P fm o with
  | none => none
  | some op =>
    if (match o.dst with | some d => decide (d < n) | none => true) then
      match o.guard with
      | none => some ⟨o.dst, op, none, false, false⟩
      | some (j, want) => match (ops[j]?).bind (·.dst) with
        | some g => if g < n then some ⟨o.dst, op, some (g, want), false, false⟩ else none
        | none => none
    else none

def mapOpt {α β : Type} (f : α → Option β) : List α → Option (List β)
  | [] => some []
  | a :: r => match f a, mapOpt f r with
    | some b, some bs => some (b :: bs)
    | _, _ => none

def Opd.tmps : Opd → List Nat
  | .t n => [n]
  | .c _ => []

def AOp.uses : AOp → List Nat
  | .mv x | .box x | .load _ _ x | .loadR _ _ x | .nilc x | .not x | .neg x | .conv _ x | .cvs x | .fad _ x | .fld _ _ _ x | .ext x _ | .len x | .lenS x => x.tmps
  | .pick c a b => c.tmps ++ a.tmps ++ b.tmps
  | .alloc _ => []
  | .pv _ xs => xs.flatMap Opd.tmps
  | .build _ ps => ps.flatMap fun p => p.2.2.tmps
  | .bsl _ _ _ ps => ps.flatMap fun p => p.2.tmps
  | .store _ x y | .bin _ x y | .beq _ x y | .eqa _ _ x y | .iad _ x y | .iada _ _ x y | .idx x y | .app _ x y | .mksl _ _ x y => x.tmps ++ y.tmps
  | .slcS x lo hi | .slcR _ x lo hi => x.tmps ++ (match lo with | some o => o.tmps | none => []) ++ (match hi with | some o => o.tmps | none => [])
  | .call _ args => args.flatMap Opd.tmps
  | .dyn x args | .dynP x args => x.tmps ++ args.flatMap Opd.tmps
  | .mkf _ args => args.flatMap Opd.tmps

def AI.uses (i : AI) : List Nat := i.op.uses ++ (match i.guard with | some (g, _) => [g] | none => [])

/-- Reads the own objects. -/
def AOp.touch : AOp → Bool
  | .pv .. | .mv _ | .pick .. | .build .. | .bsl .. | .bin .. | .beq .. | .eqa .. | .not _ | .neg _ | .conv .. | .cvs _ | .fad .. | .fld .. | .idx .. | .slcS .. | .slcR .. | .ext .. | .mkf .. | .loadR .. | .box _ | .alloc _ | .mksl .. | .nilc _ | .len _ | .lenS _ | .iada .. => false
  | _ => true

/-- Turns an own object that is there. -/
def AOp.eff (pf : Nat → Bool) : AOp → Bool
  | .store .. | .app .. | .dyn .. => true
  | .call f _ => !pf f
  | _ => false

/-- Makes an own object. -/
def AOp.news (pf : Nat → Bool) : AOp → Bool
  | .box _ | .alloc _ | .app .. | .mksl .. | .dyn .. => true
  | .call f _ => !pf f
  | _ => false

/-- A call of which nothing is known but its contract. -/
def AOp.wild (pf : Nat → Bool) : AOp → Bool
  | .dyn .. => true
  | .call f _ => !pf f
  | _ => false

/-- In no other way than by the objects do the two hang together. -/
def indepT (x y : AI) : Bool :=
  (match x.dst with | some d => !(y.uses.contains d) && y.dst != some d | none => true) &&
  (match y.dst with | some d => !(x.uses.contains d) | none => true)

/-- The objects that they may have in common: none that one of them turns; one that is new only where the other says that it reads old ones alone. -/
def indepH (pf : Nat → Bool) (x y : AI) : Bool :=
  !(x.op.wild pf && (y.op.touch || y.op.news pf)) && !(y.op.wild pf && (x.op.touch || x.op.news pf)) &&
  (!(x.op.eff pf && y.op.touch) || (x.nw && y.old)) && (!(y.op.eff pf && x.op.touch) || (y.nw && x.old)) &&
  (!(x.op.news pf && y.op.touch) || y.old) && (!(y.op.news pf && x.op.touch) || x.old)

def indep (pf : Nat → Bool) (x y : AI) : Bool := indepT x y && indepH pf x y

/-- Of each operation: which ones come ahead of it in every order, as bits. -/
def ancs : List Oper → List Nat → List Nat
  | [], acc => acc
  | o :: r, acc => ancs r (acc ++ [o.after.toList.foldl (fun s e => if Region.binds .any e then s ||| 2 ^ e.on ||| acc.getD e.on 0 else s) 0])

def okPairs (pf : Nat → Bool) (an : List Nat) (is : List AI) : Bool :=
  (List.range is.length).all fun i => (List.range i).all fun j => (an.getD i 0).testBit j ||
    (match is[j]?, is[i]? with | some x, some y => indep pf x y | _, _ => false)

/-- The marks that an unordered pair wants. -/
def markB (pf : Nat → Bool) (x y : AI) : Bool × Bool :=
  (x.op.touch && (y.op.news pf || y.op.eff pf), (match x.op with | .app .. => true | .store .. => true | _ => false) && y.op.touch)

def markAll (pf : Nat → Bool) (an : List Nat) (is : List AI) : List AI :=
  is.zipIdx.map fun (x, i) =>
    is.zipIdx.foldl (fun (s : AI) (p : AI × Nat) =>
      if p.2 = i then s
      else if (an.getD (max i p.2) 0).testBit (min i p.2) then s
      else let m := markB pf x p.1; { s with old := s.old || m.1, nw := s.nw || m.2 }) x

def readOnly (is : List AI) : List AI :=
  is.map fun i => match i.op with | .load g n x => { i with op := .loadR g n x } | _ => i

def pureDyn (is : List AI) : List AI :=
  is.map fun i => match i.op with | .dyn x as => { i with op := .dynP x as } | _ => i

/-- A region whose order is open: as it stands; with marks; with loads that read no own object. -/
def trDraw (pf : Nat → Bool) (an : List Nat) (is : List AI) : Option (List AI) :=
  if okPairs pf an is then some is
  else if okPairs pf an (markAll pf an is) then some (markAll pf an is)
  else if okPairs pf an (markAll pf an (readOnly is)) then some (markAll pf an (readOnly is))
  else if okPairs pf an (markAll pf an (pureDyn is)) then some (markAll pf an (pureDyn is))
  else none

/-- Each edge that binds leads to what stands ahead. -/
def edgeOK : List Oper → Nat → Bool
  | [], _ => true
  | o :: r, i => (o.after.toList.all fun e => !Region.binds .any e || decide (e.on < i)) && edgeOK r (i + 1)

def trReg (P : Program) (fm : Nat → Nat) (pf : Nat → Bool) (n : Nat) (ops : Array Oper) (draw : Bool) : Option (List AI) :=
  match mapOpt (trAI P fm n ops) ops.toList with
  | none => none
  | some is => if draw then (if edgeOK ops.toList 0 then trDraw pf (ancs ops.toList []) is else none) else some is

def tr (P : Program) (fm : Nat → Nat) (pf : Nat → Bool) (n : Nat) : Code → Option ACode
  | .skip => some .skip
  | .region _ ops draw => match trReg P fm pf n ops draw with
    | some is => some (.reg is)
    | none => some .bad
  | .seq a b => match tr P fm pf n a, tr P fm pf n b with
    | some x, some y => some (.seq x y)
    | _, _ => none
  | .cond c a b => match tr P fm pf n a, tr P fm pf n b with
    | some x, some y => some (.cond (trOpd fm c) x y)
    | _, _ => none
  | .block id b => (tr P fm pf n b).map (.blk id)
  | .loop b => (tr P fm pf n b).map .loop
  | .exit id => some (.exit id)
  | .ret => some .ret
  | _ => some .bad

end Go.Abs

namespace Go.Abs
open Go

def ER (fm : Nat → Nat) (w : World) (L : Nat → Loc) (a : Act) (env : Env) : Prop := ∀ t, VR fm w L (a.tmps.getD t undef) (lookE env t)

def appU (h : HF) (nid : Nat) : Upd → HF
  | .set a o => fun b => if b = a then some o else h b
  | .push o => fun b => if b = nid then some o else h b

def appF (h : HF) (nid : Nat) : List Upd → HF
  | [] => h
  | u :: r => appF (appU h nid u) nid r

def OpPost (fm : Nat → Nat) (w : World) (L : Nat → Loc) (h' : HF) (v : AV) (x : Value) (w' : World) : Prop :=
  ∃ L', Keep L w w' ∧ LStep L L' w.heap.size ∧ HR fm w' L' h' ∧ VR fm w' L' x v

section
variable {fm : Nat → Nat} {w : World} {L : Nat → Loc}

theorem OpPost.same {h : HF} (hr : HR fm w L h) {x : Value} {v : AV} (hv : VR fm w L x v) : OpPost fm w L h v x w :=
  ⟨L, Keep.refl _ _, LStep.refl _ _, hr, hv⟩

theorem vr_v {x y : Value} (h : VR fm w L x (.v y)) : x = y := by cases h; rfl

theorem list_getD_toList (xs : Array Value) (j : Nat) : xs.toList[j]? = xs[j]? := by simp

theorem vr_zc (x : Value) : VR fm w L x (zc x) := by
  unfold zc
  split
  · exact .emp _
  · exact .v _

theorem vr_ofV (x : Value) : VR fm w L x (ofV x) := by
  unfold ofV
  split
  · rename_i cs
    split
    · rename_i hall
      have hj : ∀ j a, (cs.toList.map zc)[j]? = some a → a = zc (cs.getD j undef) ∧ j < cs.size := by
        intro j a ha
        rw [List.getElem?_map] at ha
        cases hc : cs.toList[j]? with
        | none => simp [hc] at ha
        | some y =>
          rw [hc] at ha
          obtain ⟨hlt, he⟩ := List.getElem?_eq_some_iff.1 hc
          have hlt' : j < cs.size := by simpa using hlt
          refine ⟨?_, hlt'⟩
          simp at ha
          rw [← ha]
          simp [Array.getD, hlt']
          rw [← he]; simp
      refine .agg cs _ (by simp) (fun j a ha => ?_) (fun j a ha => ?_)
      · obtain ⟨_, hlt⟩ := hj j a ha
        rw [Array.all_eq_true] at hall
        have := hall j hlt
        simpa [Array.getD, hlt] using this
      · rw [(hj j a ha).1]; exact vr_zc _
    · exact .u _
  · rename_i vs
    refine .tup vs _ (by simp) (fun j a ha => ?_)
    rw [List.getElem?_map] at ha
    cases hc : vs.toList[j]? with
    | none => simp [hc] at ha
    | some y =>
      rw [hc] at ha
      obtain ⟨hlt, he⟩ := List.getElem?_eq_some_iff.1 hc
      have hlt' : j < vs.size := by simpa using hlt
      simp at ha
      rw [← ha]
      have : vs.getD j undef = y := by simp [Array.getD, hlt']; rw [← he]; simp
      rw [this]; exact vr_zc _
  · exact .emp none
  · exact .v x

theorem opd_rel {a : Act} {env : Env} (he : ER fm w L a env) (x : Operand) : VR fm w L (a.eval x) (opd env (trOpd fm x)) := by
  cases x with
  | tmp t => exact he t
  | const v => exact vr_ofV v
  | global g => exact .v _
  | func f => exact .clo f #[] [] rfl (fun j a h => by simp at h)

/-- Real cells stand to abstract ones. -/
def CR (fm : Nat → Nat) (w : World) (L : Nat → Loc) (xs : Array Value) (cs : List AV) : Prop :=
  xs.size = cs.length ∧ ∀ j c, cs[j]? = some c → (xs.getD j undef).oneCell' = true ∧ VR fm w L (xs.getD j undef) c

theorem cr_one {x : Value} {c : AV} (h1 : x.oneCell' = true) (h : VR fm w L x c) : CR fm w L #[x] [c] := by
  refine ⟨rfl, fun j d hd => ?_⟩
  cases j with
  | zero => simp at hd; subst hd; exact ⟨h1, h⟩
  | succ j => simp at hd

theorem cells_one {x : Value} (h : x.oneCell' = true) : x.cells = #[x] := by cases x <;> first | rfl | simp [Value.oneCell'] at h

theorem cells_rel {x : Value} {av : AV} (h : VR fm w L x av) {cs : List AV} (hc : cellsOf av = some cs) : CR fm w L x.cells cs := by
  cases h with
  | v x =>
    simp only [cellsOf] at hc
    split at hc
    · rename_i h1; simp at hc; subst hc; rw [cells_one h1]; exact cr_one h1 (.v x)
    · simp at hc
  | u x => simp [cellsOf] at hc
  | emp A => simp [cellsOf] at hc; subst hc; exact cr_one rfl (.emp A)
  | rd0 A es c => simp [cellsOf] at hc; subst hc; exact cr_one rfl (.rd0 A es c)
  | rd b o c es l vals hne hes hes0 hlc hb hbs hcc h1 hr =>
    simp [cellsOf] at hc; subst hc; exact cr_one rfl (.rd b o c es l vals hne hes hes0 hlc hb hbs hcc h1 hr)
  | rp b o cs' vals hb hbs hcc h1 hr => simp [cellsOf] at hc; subst hc; exact cr_one rfl (.rp b o cs' vals hb hbs hcc h1 hr)
  | refAt g es cap a off len h hl => simp [cellsOf] at hc; subst hc; exact cr_one rfl (.refAt g es cap a off len h hl)
  | refNil A a h => simp [cellsOf] at hc; subst hc; exact cr_one rfl (.refNil A a h)
  | refDead A c a off len h hl => simp [cellsOf] at hc; subst hc; exact cr_one rfl (.refDead A c a off len h hl)
  | ptrAt g es cap a i j h => simp [cellsOf] at hc; subst hc; exact cr_one rfl (.ptrAt g es cap a i j h)
  | ptrDead ad a i j h => simp [cellsOf] at hc; subst hc; exact cr_one rfl (.ptrDead ad a i j h)
  | agg xs cs' hs h1 h => simp [cellsOf] at hc; subst hc; exact ⟨hs, fun j c hj => ⟨h1 j c hj, h j c hj⟩⟩
  | tup xs cs' hs h => simp [cellsOf] at hc
  | clo f xs cs' hs h => simp [cellsOf] at hc; subst hc; exact cr_one rfl (.clo f xs cs' hs h)

theorem CR.mono {w' : World} {L' : Nat → Loc} {xs : Array Value} {cs : List AV} (h : CR fm w L xs cs) (hk : Keep L w w') (hs : LStep L L' w.heap.size) :
    CR fm w' L' xs cs := ⟨h.1, fun j c hc => ⟨(h.2 j c hc).1, (h.2 j c hc).2.mono hk hs⟩⟩

theorem CR.agg {xs : Array Value} {cs : List AV} (h : CR fm w L xs cs) : VR fm w L (.agg xs) (.agg cs) :=
  .agg xs cs h.1 (fun j c hc => (h.2 j c hc).1) (fun j c hc => (h.2 j c hc).2)

theorem cr_vals (z : List Value) (h : ∀ x ∈ z, x.oneCell' = true) : CR fm w L z.toArray (z.map zc) := by
  refine ⟨by simp, fun j c hc => ?_⟩
  rw [List.getElem?_map] at hc
  cases hz : z[j]? with
  | none => simp [hz] at hc
  | some y =>
    simp [hz] at hc
    subst hc
    obtain ⟨hlt, he⟩ := List.getElem?_eq_some_iff.1 hz
    have : z.toArray.getD j undef = y := by simp [Array.getD, hlt, he]
    rw [this]
    exact ⟨h y (he ▸ List.getElem_mem hlt), vr_zc y⟩

/-- Many elements in a row. -/
def RR (fm : Nat → Nat) (w : World) (L : Nat → Loc) (es : Nat) (xs : Array Value) (l : List (List AV)) : Prop :=
  ∀ i e j c, l[i]? = some e → e[j]? = some c → (xs.getD (i * es + j) undef).oneCell' = true ∧ VR fm w L (xs.getD (i * es + j) undef) c

/-- A new block of cells becomes an own object. -/
theorem push_cells {h : HF} {nid : Nat} (hr : HR fm w L h) (hn : h nid = none) {w' : World} {cur : Array Value} {ty : TypeId} {es cap : Nat} {el : List (List AV)}
    (hw : w'.heap = w.heap.push (.cells cur ty (0, 0))) (hos : w'.os = w.os) (htape : w'.tape = w.tape) (hout : w'.output = w.output)
    (hes : 0 < es) (hlc : el.length ≤ cap) (hcm : cap ≤ maxLen) (hel : ∀ e ∈ el, e.length = es) (hsz : cur.size = cap * es) (hrr : RR fm w L es cur el) :
    Keep L w w' ∧ LStep L (fun a => if a = nid then .cells w.heap.size es cap else L a) w.heap.size ∧
      HR fm w' (fun a => if a = nid then .cells w.heap.size es cap else L a) (appU h nid (.push (some ⟨es, el⟩))) := by
  have hnf : L nid = .fresh := (hr.fresh nid).2 hn
  have hk : Keep L w w' := ⟨hos, htape, hout, by rw [hw]; simp, fun b hb _ => by rw [hw, Array.getElem?_push, if_neg (by omega)]⟩
  have hownc : ∀ b, OwnC (fun a => if a = nid then .cells w.heap.size es cap else L a) b → OwnC L b ∨ w.heap.size ≤ b := fun b hb => by
    obtain ⟨a, e, c, hac⟩ := hb
    dsimp only at hac
    by_cases e : a = nid
    · simp [e] at hac; right; omega
    · simp [e] at hac; exact .inl ⟨a, _, _, hac⟩
  have hls : LStep L (fun a => if a = nid then .cells w.heap.size es cap else L a) w.heap.size := by
    refine ⟨fun a ha => ?_, fun b hb => ?_, hownc⟩
    · by_cases e : a = nid
      · subst e; exact absurd hnf ha
      · simp [e]
    · rcases hb with hb | ⟨a, ha⟩
      · exact (hownc b hb).imp .inl id
      · by_cases e : a = nid
        · simp [e] at ha
        · simp [e] at ha; exact .inl (.inr ⟨a, ha⟩)
  refine ⟨hk, hls, ?_⟩
  have hlt : ∀ a g e c, L a = .cells g e c → g < w.heap.size := by
    intro a g e c hac
    obtain ⟨o, ho⟩ := hr.live a (.inl ⟨g, e, c, hac⟩)
    have := hr.obj a o ho
    rw [hac] at this
    obtain ⟨_, _, _, _, _, cur', ty', hg, _⟩ := this
    exact (Array.getElem?_eq_some_iff.1 hg).1
  refine ⟨fun a o hao => ?_, fun a ha => ?_, fun a => ?_, fun a b g e c e' c' ha hb => ?_, fun a g ha => by
    by_cases e : a = nid
    · simp [e] at ha
    · simp [e] at ha; exact ⟨Nat.lt_of_lt_of_le (hr.hid a g ha).1 hk.size, fun hc => (hownc g hc).elim (hr.hid a g ha).2 (fun h => by have := (hr.hid a g ha).1; omega)⟩⟩
  · by_cases e : a = nid
    · subst e
      simp [appU] at hao
      subst hao
      simp only [if_true]
      refine ⟨rfl, hes, hlc, hcm, hel, cur, ty, ?_, hsz, fun i e' j x hi hj => ?_⟩
      · rw [hw]; simp
      · exact ⟨(hrr i e' j x hi hj).1, (hrr i e' j x hi hj).2.mono hk hls⟩
    · simp [appU, e] at hao
      have hobj := hr.obj a o hao
      simp only [e, if_false]
      revert hobj
      cases hL : L a with
      | fresh => exact id
      | dead => exact id
      | nil => exact id
      | hid g => exact id
      | cells g es' cap' =>
        rintro ⟨h0, h1, h2, h3, h4, cur', ty', h5, h6, h7⟩
        refine ⟨h0, h1, h2, h3, h4, cur', ty', ?_, h6, fun i e' j x hi hj => ⟨(h7 i e' j x hi hj).1, (h7 i e' j x hi hj).2.mono hk hls⟩⟩
        rw [hw, Array.getElem?_push, if_neg (by have := hlt a g es' cap' hL; omega)]; exact h5
  · by_cases e : a = nid
    · subst e; exact ⟨⟨es, el⟩, by simp [appU]⟩
    · simp only [e, if_false] at ha
      obtain ⟨o, ho⟩ := hr.live a ha
      exact ⟨o, by simp [appU, e, ho]⟩
  · by_cases e : a = nid
    · subst e; simp [appU]
    · simp only [e, if_false, appU]; exact hr.fresh a
  · by_cases e1 : a = nid <;> by_cases e2 : b = nid
    · rw [e1, e2]
    · simp only [e1, if_true] at ha; simp only [e2, if_false] at hb
      have := hlt b g _ _ hb; injection ha; omega
    · simp only [e2, if_true] at hb; simp only [e1, if_false] at ha
      have := hlt a g _ _ ha; injection hb; omega
    · simp only [e1, if_false] at ha; simp only [e2, if_false] at hb
      exact hr.inj a b g _ _ _ _ ha hb

end
end Go.Abs

namespace Go.Abs
open Go

section
variable {P : Program} {fm : Nat → Nat} {w : World} {L : Nat → Loc}

theorem run_isAgg {t : TypeId} {g : Bool} (h : aggT P t = some g) (w : World) : (isAgg t).run P w = .ok g w := by
  unfold aggT at h
  cases hu : P.underlying t with
  | none => simp [hu] at h
  | some d =>
    rw [hu] at h
    cases d <;> simp at h <;> subst h <;> simp [isAgg, run_underlying hu]

theorem run_sizeOf {t : TypeId} {n : Nat} (h : sizeT P t = some n) (w : World) : (sizeOf t).run P w = .ok n w := by
  unfold sizeT at h
  cases hi : P.info? t with
  | none => simp [hi] at h
  | some i => simp [hi] at h; simp [sizeOf, typeInfo, hi, h]

theorem addr_add (b o j : Nat) : (⟨b, o, none⟩ : Addr).add j = ⟨b, o + j, none⟩ := by unfold Addr.add; split <;> simp_all

theorem getD_map_range (n : Nat) (f : Nat → Value) (j : Nat) (h : j < n) : ((List.range n).map f).toArray.getD j undef = f j := by
  simp [Array.getD, h]

/-- A load through a pointer. -/
theorem load_sound {t : TypeId} {g : Bool} {n : Nat} (hg : aggT P t = some g) (hn : sizeT P t = some n) {b o : Nat} {cs : List AV} {vals : Nat → Value}
    (hc : ∀ j x, cs[j]? = some x → w.cell? ⟨b, o + j, none⟩ = some (vals j))
    (h1 : ∀ j x, cs[j]? = some x → (vals j).oneCell' = true)
    (hr : ∀ j x, cs[j]? = some x → VR fm w L (vals j) x) {K : AV → Prop} (hev : loadK g n cs K) :
    ∃ x v, (loadVar t ⟨b, o, none⟩).run P w = .ok x w ∧ K v ∧ VR fm w L x v := by
  cases g with
  | true =>
    obtain ⟨hle, hk⟩ := hev
    refine ⟨.agg ((List.range n).map vals).toArray, _, ?_, hk, ?_⟩
    · simp only [loadVar, Sem.run_bind, run_isAgg hg, Result.andThen_ok, if_true, run_sizeOf hn]
      rw [run_loadCells w _ n vals (fun j hj => by
        rw [addr_add]
        have hlt : j < cs.length := by omega
        exact hc j _ (List.getElem?_eq_getElem hlt))]
      rfl
    · refine .agg _ _ (by simp; omega) (fun j a ha => ?_) (fun j a ha => ?_)
      all_goals
        rw [List.getElem?_take] at ha
        split at ha
        · rename_i hj
          rw [getD_map_range n vals j hj]
          first
            | exact h1 j a ha
            | exact hr j a ha
        · cases ha
  | false =>
    obtain ⟨c, hc0, hk⟩ := hev
    refine ⟨vals 0, c, ?_, hk, hr 0 c hc0⟩
    have := hc 0 c hc0
    simp only [Nat.add_zero] at this
    simp [loadVar, run_isAgg hg, this]

theorem eqL_split : ∀ (ks : List Nat) {ks' : List Nat} {as bs : List AV} {r : Bool}, eqL (ks ++ ks') as bs = some r →
    ∃ a1 a2 b1 b2 r1 r2, as = a1 ++ a2 ∧ bs = b1 ++ b2 ∧ a1.length = ks.length ∧ b1.length = ks.length ∧ eqL ks a1 b1 = some r1 ∧ eqL ks' a2 b2 = some r2 ∧ r = (r1 && r2)
  | [], ks', as, bs, r, h => ⟨[], as, [], bs, true, r, rfl, rfl, rfl, rfl, rfl, h, by simp⟩
  | k :: ks, ks', as, bs, r, h => by
    cases as with
    | nil => simp [eqL] at h
    | cons a as =>
      cases bs with
      | nil => simp [eqL] at h
      | cons b bs =>
        simp only [List.cons_append, eqL] at h
        cases he : eqAV k a b with
        | none => simp [he] at h
        | some x =>
          cases hr : eqL (ks ++ ks') as bs with
          | none => simp [he, hr] at h
          | some y =>
            simp [he, hr] at h
            obtain ⟨a1, a2, b1, b2, r1, r2, e1, e2, l1, l2, h1, h2, e3⟩ := eqL_split ks hr
            exact ⟨a :: a1, a2, b :: b1, b2, x && r1, r2, by simp [e1], by simp [e2], by simp [l1], by simp [l2], by simp [eqL, he, h1], h2, by rw [← h, e3]; simp [Bool.and_assoc]⟩

theorem eqL_len : ∀ {ks : List Nat} {as bs : List AV} {r : Bool}, eqL ks as bs = some r → as.length = ks.length ∧ bs.length = ks.length
  | [], [], [], _, _ => ⟨rfl, rfl⟩
  | [], a :: as, _, _, h => by simp [eqL] at h
  | [], [], b :: bs, _, h => by simp [eqL] at h
  | k :: ks, [], _, _, h => by simp [eqL] at h
  | k :: ks, a :: as, [], _, h => by simp [eqL] at h
  | k :: ks, a :: as, b :: bs, r, h => by
    simp only [eqL] at h
    cases he : eqAV k a b with
    | none => simp [he] at h
    | some x =>
      cases hr : eqL ks as bs with
      | none => simp [he, hr] at h
      | some y =>
        have := eqL_len hr
        simp [this]

/-- Cells from 'o' on. -/
def CRo (fm : Nat → Nat) (w : World) (L : Nat → Loc) (xs : Array Value) (o : Nat) (cs : List AV) : Prop :=
  o + cs.length ≤ xs.size ∧ ∀ j c, cs[j]? = some c → VR fm w L (xs.getD (o + j) undef) c

theorem CRo.append {xs : Array Value} {o : Nat} {a b : List AV} (h : CRo fm w L xs o (a ++ b)) : CRo fm w L xs o a ∧ CRo fm w L xs (o + a.length) b := by
  obtain ⟨h1, h2⟩ := h
  simp at h1
  refine ⟨⟨by omega, fun j c hc => h2 j c (by rw [List.getElem?_append_left (List.getElem?_eq_some_iff.1 hc).1]; exact hc)⟩, by omega, fun j c hc => ?_⟩
  have := h2 (a.length + j) c (by rw [List.getElem?_append_right (by omega)]; simpa using hc)
  rwa [← Nat.add_assoc] at this

theorem getD_of_lt {xs : Array Value} {j : Nat} (h : j < xs.size) : xs[j]? = some (xs.getD j undef) := by
  simp [Array.getD, h]

theorem getD_extract {xs : Array Value} {o n j : Nat} (h : o + n ≤ xs.size) (hj : j < n) : (xs.extract o (o + n)).getD j undef = xs.getD (o + j) undef := by
  rw [Array.getD_eq_getD_getElem?, Array.getD_eq_getD_getElem?, Array.getElem?_extract]
  rw [if_pos (by omega)]

theorem run_part_one {t : TypeId} {xs : Array Value} {o : Nat} (hg : aggT P t = some false) (h : o < xs.size) (w : World) :
    (part t xs o).run P w = .ok (xs.getD o undef) w := by
  simp only [part, Sem.run_bind, run_isAgg hg, Result.andThen_ok, Bool.false_eq_true, if_false]
  rw [getD_of_lt h]
  rfl

theorem eq_part (d k : Nat) : ∀ (t : TypeId) (ks : List Nat), leafs P d t = some ks → ∀ (xs ys : Array Value) (o : Nat) (as bs : List AV) (r : Bool),
    CRo fm w L xs o as → CRo fm w L ys o bs → eqL ks as bs = some r →
    ∃ a b, (part t xs o).run P w = .ok a w ∧ (part t ys o).run P w = .ok b w ∧ (Op.equalIn (k + d) t a b).run P w = .ok r w := by
  induction d with
  | zero => intro t ks h; simp [leafs] at h
  | succ d ih =>
    intro t ks hl xs ys o as bs r hx hy he
    unfold leafs at hl
    have leaf : ∀ (kd : Nat) (x y : AV), ks = [kd] → ∃ a b, as = [a] ∧ bs = [b] ∧ eqAV kd a b = some r := by
      intro kd _ _ e
      subst e
      obtain ⟨l1, l2⟩ := eqL_len he
      match as, bs, l1, l2 with
      | [a], [b], _, _ =>
        simp only [eqL] at he
        cases h : eqAV kd a b with
        | none => simp [h] at he
        | some z => simp [h] at he; exact ⟨a, b, rfl, rfl, by rw [he] at h; exact h⟩
    cases hu : P.underlying t with
    | none => simp [hu] at hl
    | some dsc =>
      rw [hu] at hl
      have one : aggT P t = some false → ∀ a b, as = [a] → bs = [b] → (part t xs o).run P w = .ok (xs.getD o undef) w ∧ (part t ys o).run P w = .ok (ys.getD o undef) w ∧
          VR fm w L (xs.getD o undef) a ∧ VR fm w L (ys.getD o undef) b := by
        intro hg a b ea eb
        subst ea; subst eb
        have hx1 := hx.1; have hy1 := hy.1
        simp at hx1 hy1
        refine ⟨?_, ?_, by simpa using hx.2 0 a rfl, by simpa using hy.2 0 b rfl⟩
        · exact run_part_one hg (by omega) w
        · exact run_part_one hg (by omega) w
      cases dsc with
      | bool =>
        simp at hl
        obtain ⟨a, b, ea, eb, hab⟩ := leaf 0 .u .u hl.symm
        obtain ⟨p1, p2, v1, v2⟩ := one (by simp [aggT, hu]) a b ea eb
        match a, b, hab with
        | .v (.bool x), .v (.bool y), hab =>
          simp [eqAV] at hab
          refine ⟨_, _, p1, p2, ?_⟩
          rw [vr_v v1, vr_v v2, ← hab]
          exact run_equalIn_bool' w (k + d) t x y hu
      | int kk =>
        simp at hl
        obtain ⟨a, b, ea, eb, hab⟩ := leaf 1 .u .u hl.symm
        obtain ⟨p1, p2, v1, v2⟩ := one (by simp [aggT, hu]) a b ea eb
        match a, b, hab with
        | .v (.int k1 x), .v (.int k2 y), hab =>
          simp [eqAV] at hab
          obtain ⟨e, hab⟩ := hab
          subst e
          refine ⟨_, _, p1, p2, ?_⟩
          rw [vr_v v1, vr_v v2, ← hab]
          exact run_equalIn_int w (k + d) t k1 kk x y hu
      | string =>
        simp at hl
        obtain ⟨a, b, ea, eb, hab⟩ := leaf 2 .u .u hl.symm
        obtain ⟨p1, p2, v1, v2⟩ := one (by simp [aggT, hu]) a b ea eb
        match a, b, hab with
        | .v (.string x), .v (.string y), hab =>
          simp [eqAV] at hab
          refine ⟨_, _, p1, p2, ?_⟩
          rw [vr_v v1, vr_v v2, ← hab]
          exact run_equalIn_string w (k + d) t x y hu
      | struct fs =>
        simp only at hl
        split at hl
        · cases hl
        · rename_i hst
          cases hlf : leafsF (leafs P d) fs.toList 0 with
          | none => simp [hlf] at hl
          | some l =>
            simp only [hlf] at hl
            split at hl
            · rename_i hsz
              simp at hl
              subst hl
              obtain ⟨l1, l2⟩ := eqL_len he
              have hg : aggT P t = some true := by simp [aggT, hu]
              refine ⟨.agg (xs.extract o (o + l.length)), .agg (ys.extract o (o + l.length)), ?_, ?_, ?_⟩
              · simp [part, run_isAgg hg, run_sizeOf hsz]
              · simp [part, run_isAgg hg, run_sizeOf hsz]
              · have hfo : P.fieldsOf t = fs := by simp [Program.fieldsOf, hu]
                have hx1 := hx.1; have hy1 := hy.1
                rw [show k + (d + 1) = (k + d) + 1 from rfl, run_equalIn_agg w (k + d) t _ _ (by rw [hfo]; exact hu) (by simpa using hst), hfo]
                -- the fields, one after the other
                have key : ∀ (fl : List Field) (e : Nat) (kl : List Nat) (a2 b2 : List AV) (r2 : Bool), leafsF (leafs P d) fl e = some kl → eqL kl a2 b2 = some r2 →
                    CRo fm w L (xs.extract o (o + l.length)) e a2 → CRo fm w L (ys.extract o (o + l.length)) e b2 →
                    (Op.eqFields (k + d) (xs.extract o (o + l.length)) (ys.extract o (o + l.length)) fl).run P w = .ok r2 w := by
                  intro fl
                  induction fl with
                  | nil =>
                    intro e kl a2 b2 r2 h1 h2 _ _
                    simp [leafsF] at h1
                    subst h1
                    obtain ⟨m1, m2⟩ := eqL_len h2
                    match a2, b2, m1, m2 with
                    | [], [], _, _ => simp [eqL] at h2; subst h2; simp [Op.eqFields]
                  | cons f fl ihf =>
                    intro e kl a2 b2 r2 h1 h2 c1 c2
                    simp only [leafsF] at h1
                    split at h1
                    · rename_i hf
                      obtain ⟨hname, hoff⟩ := hf
                      cases hl1 : leafs P d f.type with
                      | none => simp [hl1] at h1
                      | some l1 =>
                        cases hl2 : leafsF (leafs P d) fl (e + l1.length) with
                        | none => simp [hl1, hl2] at h1
                        | some l2 =>
                          simp [hl1, hl2] at h1
                          subst h1
                          obtain ⟨p1, p2, q1, q2, r1, r3, e1, e2, n1, n2, g1, g2, e3⟩ := eqL_split l1 h2
                          subst e1; subst e2; subst e3
                          obtain ⟨c1a, c1b⟩ := c1.append
                          obtain ⟨c2a, c2b⟩ := c2.append
                          obtain ⟨va, vb, ra, rb, re⟩ := ih f.type l1 hl1 _ _ e p1 q1 r1 c1a c2a g1
                          simp only [Op.eqFields, hname, ne_eq, not_false_eq_true, if_true, Sem.run_bind, hoff, ra, rb, re, Result.andThen_ok, Sem.run_ite]
                          cases r1 with
                          | false => simp
                          | true =>
                            simp only [Bool.not_true, Bool.false_eq_true, if_false, Bool.true_and]
                            exact ihf (e + l1.length) l2 p2 q2 r3 hl2 g2 (by rw [← n1]; exact c1b) (by rw [← n2]; exact c2b)
                    · cases h1
                refine key fs.toList 0 l as bs r hlf he ?_ ?_
                · refine ⟨by simp; omega, fun j c hc => ?_⟩
                  have hj := (List.getElem?_eq_some_iff.1 hc).1
                  rw [Nat.zero_add, getD_extract (by omega) (by omega)]
                  exact hx.2 j c hc
                · refine ⟨by simp; omega, fun j c hc => ?_⟩
                  have hj := (List.getElem?_eq_some_iff.1 hc).1
                  rw [Nat.zero_add, getD_extract (by omega) (by omega)]
                  exact hy.2 j c hc
            · cases hl
      | _ => simp at hl

end
end Go.Abs

namespace Go.Abs
open Go Go.RowKit

section
variable {P : Program} {fm : Nat → Nat} {w : World} {L : Nat → Loc}

theorem HR.blk {h : HF} (hr : HR fm w L h) {a g e c : Nat} (ha : L a = .cells g e c) : g < w.heap.size := by
  obtain ⟨o, ho⟩ := hr.live a (.inl ⟨g, e, c, ha⟩)
  have := hr.obj a o ho
  rw [ha] at this
  obtain ⟨_, _, _, _, _, cur', ty', hg, _⟩ := this
  exact (Array.getElem?_eq_some_iff.1 hg).1

/-- An object goes. -/
theorem kill_obj {h : HF} (hr : HR fm w L h) (a : Nat) (n : Nat) (hnh : ∀ g, L a ≠ .hid g) :
    LStep L (fun b => if b = a then .dead else L b) n ∧ HR fm w (fun b => if b = a then .dead else L b) (fun b => if b = a then some none else h b) := by
  have hownc : ∀ b, OwnC (fun b => if b = a then .dead else L b) b → OwnC L b := fun b hb => by
    obtain ⟨c, e, k, hc⟩ := hb
    by_cases ec : c = a
    · simp [ec] at hc
    · simp [ec] at hc; exact ⟨c, _, _, hc⟩
  have hls : ∀ n, LStep L (fun b => if b = a then .dead else L b) n := fun n => by
    refine ⟨fun b hb => ?_, fun b hb => ?_, fun b hb => .inl (hownc b hb)⟩
    · by_cases e : b = a
      · subst e; exact .inr ⟨by simp, hnh⟩
      · simp [e]
    · rcases hb with hb | ⟨c, hc⟩
      · exact .inl (.inl (hownc b hb))
      · by_cases ec : c = a
        · simp [ec] at hc
        · simp [ec] at hc; exact .inl (.inr ⟨c, hc⟩)
  refine ⟨hls n, fun b o' hb => ?_, fun b hb => ?_, fun b => ?_, fun b c g e k e' k' h1 h2 => ?_, fun b g hb => by
    by_cases e : b = a
    · simp [e] at hb
    · simp [e] at hb; exact ⟨(hr.hid b g hb).1, fun hc => (hr.hid b g hb).2 (hownc g hc)⟩⟩
  · by_cases e : b = a
    · simp [e] at hb
    · simp [e] at hb
      have hobj := hr.obj b o' hb
      simp only [e, if_false]
      revert hobj
      cases hL : L b with
      | fresh => exact id
      | dead => exact id
      | nil => exact id
      | hid g => exact id
      | cells g es' cap' =>
        rintro ⟨h0, h1, h2, h3, h4, cur', ty', h5, h6, h7⟩
        exact ⟨h0, h1, h2, h3, h4, cur', ty', h5, h6, fun i e' j x hi hj => ⟨(h7 i e' j x hi hj).1, (h7 i e' j x hi hj).2.mono (Keep.refl _ _) (hls _)⟩⟩
  · by_cases e : b = a
    · simp [e] at hb
    · simp only [e, if_false] at hb
      obtain ⟨o', ho'⟩ := hr.live b hb
      exact ⟨o', by simp [e, ho']⟩
  · by_cases e : b = a
    · simp [e]
    · simp only [e, if_false]; exact hr.fresh b
  · by_cases e1 : b = a
    · simp [e1] at h1
    · by_cases e2 : c = a
      · simp [e2] at h2
      · simp only [e1, e2, if_false] at h1 h2
        exact hr.inj b c g _ _ _ _ h1 h2

/-- An object goes over to a new id. -/
theorem rename_obj {h : HF} (hr : HR fm w L h) {a nid : Nat} {o : AObj} (ha : h a = some (some o)) (hn : h nid = none) :
    LStep L (fun b => if b = nid then L a else if b = a then .dead else L b) w.heap.size ∧
      HR fm w (fun b => if b = nid then L a else if b = a then .dead else L b) (fun b => if b = nid then some (some o) else if b = a then some none else h b) := by
  have hne : a ≠ nid := fun e => by rw [e, hn] at ha; cases ha
  have hnf : L nid = .fresh := (hr.fresh nid).2 hn
  have hnh : ∀ g, L a ≠ .hid g := fun g e => by have := hr.obj a o ha; rw [e] at this; exact this
  have hownc : ∀ b, OwnC (fun b => if b = nid then L a else if b = a then .dead else L b) b → OwnC L b := fun b hb => by
    obtain ⟨c, e, k, hc⟩ := hb
    by_cases e1 : c = nid
    · simp only [e1, if_true] at hc; exact ⟨a, _, _, hc⟩
    · by_cases ec : c = a
      · simp only [ec, hne, if_true, if_false] at hc; cases hc
      · simp only [e1, ec, if_false] at hc; exact ⟨c, _, _, hc⟩
  have hls : LStep L (fun b => if b = nid then L a else if b = a then .dead else L b) w.heap.size := by
    refine ⟨fun b hb => ?_, fun b hb => ?_, fun b hb => .inl (hownc b hb)⟩
    · by_cases e1 : b = nid
      · subst e1; exact absurd hnf hb
      · by_cases e : b = a
        · subst e; exact .inr ⟨by simp [hne], hnh⟩
        · simp [e1, e]
    · rcases hb with hb | ⟨c, hc⟩
      · exact .inl (.inl (hownc b hb))
      · by_cases e1 : c = nid
        · simp only [e1, if_true] at hc; exact absurd hc (hnh b)
        · by_cases ec : c = a
          · simp only [ec, hne, if_true, if_false] at hc; cases hc
          · simp only [e1, ec, if_false] at hc; exact .inl (.inr ⟨c, hc⟩)
  have conv : ∀ (loc : Loc) (o' : AObj), ObjR fm w L loc o' → ObjR fm w (fun b => if b = nid then L a else if b = a then .dead else L b) loc o' := by
    intro loc o'
    cases loc with
    | fresh => exact id
    | dead => exact id
    | nil => exact id
    | hid g => exact id
    | cells g es' cap' =>
      rintro ⟨h0, h1, h2, h3, h4, cur', ty', h5, h6, h7⟩
      exact ⟨h0, h1, h2, h3, h4, cur', ty', h5, h6, fun i e' j x hi hj => ⟨(h7 i e' j x hi hj).1, (h7 i e' j x hi hj).2.mono (Keep.refl _ _) hls⟩⟩
  refine ⟨hls, fun b o' hb => ?_, fun b hb => ?_, fun b => ?_, fun b c g e k e' k' h1 h2 => ?_, fun b g hb => by
    by_cases e1 : b = nid
    · simp only [e1, if_true] at hb; exact absurd hb (hnh g)
    · by_cases e : b = a
      · simp only [e, hne, if_true, if_false] at hb; cases hb
      · simp only [e1, e, if_false] at hb; exact ⟨(hr.hid b g hb).1, fun hc => (hr.hid b g hb).2 (hownc g hc)⟩⟩
  · by_cases e1 : b = nid
    · simp only [e1, if_true] at hb
      injection hb with hb; injection hb with hb; subst hb
      simp only [e1, if_true]
      exact conv _ _ (hr.obj a o ha)
    · by_cases e : b = a
      · simp only [e, hne, if_true, if_false] at hb; cases hb
      · simp only [e1, e, if_false] at hb ⊢
        exact conv _ _ (hr.obj b o' hb)
  · by_cases e1 : b = nid
    · exact ⟨o, by simp [e1]⟩
    · by_cases e : b = a
      · simp [e, hne] at hb
      · simp only [e1, e, if_false] at hb
        obtain ⟨o', ho'⟩ := hr.live b hb
        exact ⟨o', by simp [e1, e, ho']⟩
  · by_cases e1 : b = nid
    · simp only [e1, if_true]
      constructor
      · intro hf; have := hr.obj a o ha; rw [hf] at this; exact this.elim
      · intro hf; cases hf
    · by_cases e : b = a
      · simp [e, hne]
      · simp only [e1, e, if_false]; exact hr.fresh b
  · by_cases e1 : b = nid <;> by_cases e2 : c = nid
    · rw [e1, e2]
    · simp only [e1, if_true] at h1
      by_cases e3 : c = a
      · simp [e3, hne] at h2
      · simp only [e2, e3, if_false] at h2
        exact absurd (hr.inj c a g _ _ _ _ h2 h1) e3
    · simp only [e2, if_true] at h2
      by_cases e3 : b = a
      · simp [e3, hne] at h1
      · simp only [e1, e3, if_false] at h1
        exact absurd (hr.inj b a g _ _ _ _ h1 h2) e3
    · by_cases e3 : b = a
      · simp [e3, hne] at h1
      · by_cases e4 : c = a
        · simp [e4, hne] at h2
        · simp only [e1, e2, e3, e4, if_false] at h1 h2
          exact hr.inj b c g _ _ _ _ h1 h2

/-- An object is turned in place. -/
theorem store_obj {h : HF} (hr : HR fm w L h) {a g es cap : Nat} {o : AObj} (ha : h a = some (some o)) (hL : L a = .cells g es cap) {cur cur' : Array Value} {ty : TypeId}
    (hg : w.heap[g]? = some (.cells cur ty (0, 0))) (hsz : cur'.size = cap * es) {el : List (List AV)} (hlc : el.length ≤ cap) (hel : ∀ e ∈ el, e.length = es)
    (hrr : RR fm w L es cur' el) :
    Keep L w (w.setRow g cur') ∧ HR fm (w.setRow g cur') L (fun b => if b = a then some (some ⟨es, el⟩) else h b) := by
  have hk : Keep L w (w.setRow g cur') := ⟨rfl, rfl, rfl, by simp, fun b hb ho => setRow_other w g b cur' (fun e => ho (e ▸ ⟨a, es, cap, hL⟩))⟩
  have hobja := hr.obj a o ha
  rw [hL] at hobja
  obtain ⟨_, hes, _, hcm, _⟩ := hobja
  refine ⟨hk, fun b o' hb => ?_, fun b hb => ?_, fun b => ?_, hr.inj, fun b g hb => by simpa using hr.hid b g hb⟩
  · by_cases e : b = a
    · subst e
      simp at hb
      subst hb
      rw [hL]
      exact ⟨rfl, hes, hlc, hcm, hel, cur', ty, setRow_heap w g cur cur' ty _ hg, hsz, fun i e' j x hi hj => ⟨(hrr i e' j x hi hj).1, (hrr i e' j x hi hj).2.mono hk (LStep.refl _ _)⟩⟩
    · simp [e] at hb
      have hobj := hr.obj b o' hb
      revert hobj
      cases hLb : L b with
      | fresh => exact id
      | dead => exact id
      | nil => exact id
      | hid g => exact id
      | cells g' es' cap' =>
        rintro ⟨h0, h1, h2, h3, h4, cur2, ty', h5, h6, h7⟩
        refine ⟨h0, h1, h2, h3, h4, cur2, ty', ?_, h6, fun i e' j x hi hj => ⟨(h7 i e' j x hi hj).1, (h7 i e' j x hi hj).2.mono hk (LStep.refl _ _)⟩⟩
        rw [setRow_other w g g' cur' (fun eg => e (hr.inj b a g _ _ _ _ (by rw [← eg]; exact hLb) hL))]
        exact h5
  · by_cases e : b = a
    · exact ⟨⟨es, el⟩, by simp [e]⟩
    · obtain ⟨o', ho'⟩ := hr.live b hb
      exact ⟨o', by simp [e, ho']⟩
  · by_cases e : b = a
    · subst e
      simp [hL]
    · simp only [e, if_false]; exact hr.fresh b

/-- A new object without cells. -/
theorem push_nil {h : HF} {nid : Nat} (hr : HR fm w L h) (hn : h nid = none) {es : Nat} (hes : 0 < es) (n : Nat) :
    LStep L (fun a => if a = nid then .nil else L a) n ∧ HR fm w (fun a => if a = nid then .nil else L a) (appU h nid (.push (some ⟨es, []⟩))) := by
  have hnf : L nid = .fresh := (hr.fresh nid).2 hn
  have hownc : ∀ b, OwnC (fun a => if a = nid then .nil else L a) b → OwnC L b := fun b hb => by
    obtain ⟨a, e, c, hac⟩ := hb
    by_cases e : a = nid
    · simp [e] at hac
    · simp [e] at hac; exact ⟨a, _, _, hac⟩
  have hls : ∀ n, LStep L (fun a => if a = nid then .nil else L a) n := fun n => by
    refine ⟨fun a ha => ?_, fun b hb => ?_, fun b hb => .inl (hownc b hb)⟩
    · by_cases e : a = nid
      · subst e; exact absurd hnf ha
      · simp [e]
    · rcases hb with hb | ⟨a, ha⟩
      · exact .inl (.inl (hownc b hb))
      · by_cases e : a = nid
        · simp [e] at ha
        · simp [e] at ha; exact .inl (.inr ⟨a, ha⟩)
  refine ⟨hls n, fun a o hao => ?_, fun a ha => ?_, fun a => ?_, fun a b g e c e' c' ha hb => ?_, fun a g ha => by
    by_cases e : a = nid
    · simp [e] at ha
    · simp [e] at ha; exact ⟨(hr.hid a g ha).1, fun hc => (hr.hid a g ha).2 (hownc g hc)⟩⟩
  · by_cases e : a = nid
    · subst e
      simp [appU] at hao
      subst hao
      simp only [if_true]
      exact ⟨rfl, hes⟩
    · simp [appU, e] at hao
      have hobj := hr.obj a o hao
      simp only [e, if_false]
      revert hobj
      cases hL : L a with
      | fresh => exact id
      | dead => exact id
      | nil => exact id
      | hid g => exact id
      | cells g es' cap' =>
        rintro ⟨h0, h1, h2, h3, h4, cur', ty', h5, h6, h7⟩
        exact ⟨h0, h1, h2, h3, h4, cur', ty', h5, h6, fun i e' j x hi hj => ⟨(h7 i e' j x hi hj).1, (h7 i e' j x hi hj).2.mono (Keep.refl _ _) (hls _)⟩⟩
  · by_cases e : a = nid
    · subst e; exact ⟨⟨es, []⟩, by simp [appU]⟩
    · simp only [e, if_false] at ha
      obtain ⟨o, ho⟩ := hr.live a ha
      exact ⟨o, by simp [appU, e, ho]⟩
  · by_cases e : a = nid
    · subst e; simp [appU]
    · simp only [e, if_false, appU]; exact hr.fresh a
  · by_cases e1 : a = nid
    · simp [e1] at ha
    · by_cases e2 : b = nid
      · simp [e2] at hb
      · simp only [e1, e2, if_false] at ha hb
        exact hr.inj a b g _ _ _ _ ha hb

/-- A new block that is nobody's own. -/
theorem keep_alloc (w : World) (L : Nat → Loc) (o : Obj) : Keep L w (w.alloc o) :=
  ⟨rfl, rfl, rfl, by simp, fun b hb _ => Below.heap_alloc w o b hb⟩

theorem hr_alloc {h : HF} (hr : HR fm w L h) (o : Obj) : HR fm (w.alloc o) L h :=
  hr.mono (keep_alloc w L o) (fun b hb _ => Below.heap_alloc w o b hb)

end
end Go.Abs

namespace Go.Abs
open Go Go.RowKit

section
variable {P : Program} {fm : Nat → Nat} {w : World} {L : Nat → Loc}

theorem foldset (off : Nat) : ∀ (vs : List Value) (k : Nat) (R : Array Value),
    ((vs.zipIdx k).foldl (fun cs p => cs.setIfInBounds (off + p.2) p.1) R).size = R.size ∧
    ∀ j, j < R.size → ((vs.zipIdx k).foldl (fun cs p => cs.setIfInBounds (off + p.2) p.1) R).getD j undef =
      if off + k ≤ j ∧ j < off + k + vs.length then vs.getD (j - off - k) undef else R.getD j undef
  | [], k, R => ⟨rfl, fun j hj => by simp; intro h1 h2; omega⟩
  | v :: vs, k, R => by
    obtain ⟨h1, h2⟩ := foldset off vs (k + 1) (R.setIfInBounds (off + k) v)
    simp only [List.zipIdx_cons, List.foldl_cons]
    refine ⟨by rw [h1]; simp, fun j hj => ?_⟩
    rw [h2 j (by simpa using hj)]
    by_cases hc : off + (k + 1) ≤ j ∧ j < off + (k + 1) + vs.length
    · rw [if_pos hc, if_pos ⟨by omega, by simp; omega⟩]
      obtain ⟨m, hm⟩ : ∃ m, j - off - k = m + 1 := ⟨j - off - k - 1, by omega⟩
      rw [hm, show j - off - (k + 1) = m by omega]
      simp
    · rw [if_neg hc]
      by_cases hj2 : j = off + k
      · subst hj2
        rw [if_pos ⟨Nat.le_refl _, by simp⟩]
        simp [Array.getD, hj]
      · rw [if_neg (by simp; intro h3; omega)]
        have : (R.setIfInBounds (off + k) v)[j]? = R[j]? := by rw [Array.getElem?_setIfInBounds_ne (by omega)]
        rw [Array.getD_eq_getD_getElem?, Array.getD_eq_getD_getElem?, this]

theorem fill_step (off : Nat) (v : Value) (R : Array Value) : v.cells.zipIdx.foldl (fun cs (p : Value × Nat) => cs.setIfInBounds (off + p.2) p.1) R =
    (v.cells.toList.zipIdx 0).foldl (fun cs p => cs.setIfInBounds (off + p.2) p.1) R := by
  rw [← Array.foldl_toList, Array.toList_zipIdx]

theorem fill_eq (place : Nat → Option (Nat × Nat)) (R : Array Value) (i : Nat) (v : Value) (rest : List (Nat × Value)) {off n : Nat} (hp : place i = some (off, n))
    (hs : v.cells.size = n) (hb : off + n ≤ R.size) :
    Instr.fill place R ((i, v) :: rest) = Instr.fill place ((v.cells.toList.zipIdx 0).foldl (fun cs p => cs.setIfInBounds (off + p.2) p.1) R) rest := by
  rw [← fill_step]
  simp only [Instr.fill, hp]
  rw [if_neg]
  simp
  omega

theorem list_getD_arr (xs : Array Value) (j : Nat) : xs.toList.getD j undef = xs.getD j undef := by
  rw [Array.getD_eq_getD_getElem?]
  simp [List.getD]

theorem cr_splice {R : Array Value} {l cs : List AV} {v : Value} {off : Nat} (hR : CR fm w L R l) (hv : CR fm w L v.cells cs) (hb : off + cs.length ≤ l.length) :
    CR fm w L ((v.cells.toList.zipIdx 0).foldl (fun cs p => cs.setIfInBounds (off + p.2) p.1) R) (splice l off cs) := by
  obtain ⟨h1, h2⟩ := foldset off v.cells.toList 0 R
  have hl : (splice l off cs).length = l.length := by simp [splice]; omega
  refine ⟨by rw [h1, hl, hR.1], fun j c hc => ?_⟩
  have hjl : j < l.length := by rw [← hl]; exact (List.getElem?_eq_some_iff.1 hc).1
  rw [h2 j (by rw [hR.1]; exact hjl)]
  have hvs : v.cells.toList.length = cs.length := by simpa using hv.1
  simp only [splice] at hc
  by_cases hin : off ≤ j ∧ j < off + cs.length
  · rw [if_pos (by rw [hvs]; omega)]
    rw [show j - off - 0 = j - off by omega, list_getD_arr]
    rw [List.append_assoc, List.getElem?_append_right (by simp; omega), List.getElem?_append_left (by simp; omega)] at hc
    have : j - (List.take off l).length = j - off := by simp; omega
    rw [this] at hc
    exact hv.2 _ c hc
  · rw [if_neg (by rw [hvs]; omega)]
    by_cases hlt : j < off
    · rw [List.append_assoc, List.getElem?_append_left (by simp; omega), List.getElem?_take, if_pos hlt] at hc
      exact hR.2 j c hc
    · rw [List.getElem?_append_right (by simp; omega), List.getElem?_drop] at hc
      have : off + cs.length + (j - (List.take off l ++ cs).length) = j := by simp; omega
      rw [this] at hc
      exact hR.2 j c hc

theorem fill_sound {a : Act} {env : Env} (he : ER fm w L a env) (place : Nat → Option (Nat × Nat)) : ∀ (ps : List (Nat × Operand)) (aps : List (Nat × Nat × Opd)) (R : Array Value) (l : List AV)
    (K : List AV → Prop), ps.length = aps.length → (∀ (k : Nat) (p : Nat × Operand) (q : Nat × Nat × Opd), ps[k]? = some p → aps[k]? = some q → place p.1 = some (q.1, q.2.1) ∧ q.2.2 = trOpd fm p.2) →
    CR fm w L R l → fillK l env aps K →
    ∃ R' cs, Instr.fill place R (ps.map fun p => (p.1, a.eval p.2)) = some R' ∧ CR fm w L R' cs ∧ K cs
  | [], [], R, l, K, _, _, hR, hk => ⟨R, l, rfl, hR, hk⟩
  | [], _ :: _, _, _, _, h, _, _, _ => by simp at h
  | _ :: _, [], _, _, _, h, _, _, _ => by simp at h
  | p :: ps, (off, n, x) :: aps, R, l, K, hlen, hcor, hR, hk => by
    obtain ⟨hp, hx⟩ := hcor 0 p (off, n, x) rfl rfl
    simp only at hp hx
    subst hx
    obtain ⟨cs, hcs, hn, hb, hk⟩ := hk
    have hv := cells_rel (opd_rel he p.2) hcs
    have hsz : (a.eval p.2).cells.size = n := by rw [hv.1, hn]
    simp only [List.map_cons]
    rw [fill_eq place R p.1 (a.eval p.2) _ hp hsz (by rw [hR.1]; exact hb)]
    exact fill_sound he place ps aps _ _ K (by simpa using hlen) (fun k p q h1 h2 => hcor (k + 1) p q (by simpa using h1) (by simpa using h2))
      (cr_splice hR hv (by omega)) hk

/-- Rows of elements, as one array of cells. -/
def ERo (fm : Nat → Nat) (w : World) (L : Nat → Loc) (es : Nat) (R : Array Value) (l : List (List AV)) : Prop :=
  R.size = l.length * es ∧ (∀ e ∈ l, e.length = es) ∧ RR fm w L es R l

theorem ero_set {es : Nat} {R : Array Value} {l : List (List AV)} {cs : List AV} {v : Value} {i : Nat} (hR : ERo fm w L es R l) (hv : CR fm w L v.cells cs)
    (hn : cs.length = es) (hi : i < l.length) :
    ERo fm w L es ((v.cells.toList.zipIdx 0).foldl (fun cs p => cs.setIfInBounds (i * es + p.2) p.1) R) (l.set i cs) := by
  obtain ⟨h1, h2⟩ := foldset (i * es) v.cells.toList 0 R
  obtain ⟨hs, hes, hrr⟩ := hR
  have hvs : v.cells.toList.length = es := by rw [← hn]; simpa using hv.1
  refine ⟨by rw [h1, hs]; simp, fun e he => ?_, fun k e j c hk hc => ?_⟩
  · rcases List.mem_or_eq_of_mem_set he with h | h
    · exact hes e h
    · rw [h, hn]
  · have hkl : k < l.length := by have := (List.getElem?_eq_some_iff.1 hk).1; simpa using this
    have hjl := (List.getElem?_eq_some_iff.1 hc).1
    have hel : e.length = es := by
      rw [List.getElem?_set] at hk
      split at hk
      · rename_i hki; subst hki; simp at hk; rw [← hk, hn]
      · exact hes e (List.mem_of_getElem? hk)
    have hb1 : (k + 1) * es ≤ l.length * es := Nat.mul_le_mul_right es hkl
    have hb2 : (i + 1) * es ≤ l.length * es := Nat.mul_le_mul_right es hi
    rw [Nat.add_mul] at hb1 hb2
    rw [h2 (k * es + j) (by rw [hs]; omega)]
    by_cases hki : k = i
    · subst hki
      rw [if_pos (by rw [hvs]; omega), list_getD_arr, show k * es + j - k * es - 0 = j by omega]
      rw [List.getElem?_set_self hkl] at hk
      injection hk with hk
      subst hk
      exact hv.2 j c hc
    · rw [if_neg]
      · rw [List.getElem?_set_ne (fun e => hki e.symm)] at hk
        exact hrr k e j c hk hc
      · rw [hvs]
        rcases Nat.lt_or_gt_of_ne hki with h | h
        · have : (k + 1) * es ≤ i * es := Nat.mul_le_mul_right es h
          rw [Nat.add_mul] at this
          omega
        · have : (i + 1) * es ≤ k * es := Nat.mul_le_mul_right es h
          rw [Nat.add_mul] at this
          omega

theorem fillE_len {es : Nat} {env : Env} : ∀ (aps : List (Nat × Opd)) (l : List (List AV)) (K : List (List AV) → Prop), fillE es l env aps K →
    fillE es l env aps fun l' => K l' ∧ l'.length = l.length
  | [], l, K, h => ⟨h, rfl⟩
  | (i, x) :: aps, l, K, h => by
    obtain ⟨cs, hcs, hn, hi, hk⟩ := h
    refine ⟨cs, hcs, hn, hi, ?_⟩
    have := fillE_len aps (l.set i cs) K hk
    simpa using this

theorem fillE_sound {a : Act} {env : Env} (he : ER fm w L a env) {es : Nat} : ∀ (ps : List (Nat × Operand)) (R : Array Value) (l : List (List AV))
    (K : List (List AV) → Prop), ERo fm w L es R l → fillE es l env (ps.map fun p => (p.1, trOpd fm p.2)) K →
    ∃ R' l', Instr.fill (fun i => some (i * es, es)) R (ps.map fun p => (p.1, a.eval p.2)) = some R' ∧ ERo fm w L es R' l' ∧ K l'
  | [], R, l, K, hR, hk => ⟨R, l, rfl, hR, hk⟩
  | p :: ps, R, l, K, hR, hk => by
    obtain ⟨cs, hcs, hn, hi, hk⟩ := hk
    have hv := cells_rel (opd_rel he p.2) hcs
    have hsz : (a.eval p.2).cells.size = es := by rw [hv.1, hn]
    have hb2 : (p.1 + 1) * es ≤ l.length * es := Nat.mul_le_mul_right es hi
    rw [Nat.add_mul] at hb2
    simp only [List.map_cons]
    rw [fill_eq _ R p.1 (a.eval p.2) _ rfl hsz (by rw [hR.1]; omega)]
    exact fillE_sound he ps _ _ K (ero_set hR hv hn hi) hk

/-- Zero cells, over and over. -/
theorem ero_zero (z : Array Value) (n : Nat) (h1 : ∀ x ∈ z.toList, x.oneCell' = true) :
    ERo fm w L z.size ((Array.range (n * z.size)).map (z[· % z.size]!)) (List.replicate n (z.toList.map zc)) := by
  refine ⟨by simp, fun e he => ?_, fun i e j c hi hj => ?_⟩
  · rw [(List.mem_replicate.1 he).2]; simp
  · rw [List.getElem?_replicate] at hi
    split at hi
    · rename_i hin
      injection hi with hi
      subst hi
      rw [List.getElem?_map] at hj
      cases hz : z.toList[j]? with
      | none => simp [hz] at hj
      | some y =>
        simp [hz] at hj
        subst hj
        obtain ⟨hlt, hy⟩ := List.getElem?_eq_some_iff.1 hz
        have hlt' : j < z.size := by simpa using hlt
        have hb : (i + 1) * z.size ≤ n * z.size := Nat.mul_le_mul_right _ hin
        rw [Nat.add_mul] at hb
        have hr : ((Array.range (n * z.size)).map (z[· % z.size]!)).getD (i * z.size + j) undef = y := by
          rw [Array.getD_eq_getD_getElem?]
          have hidx : i * z.size + j < ((Array.range (n * z.size)).map (z[· % z.size]!)).size := by simp; omega
          rw [Array.getElem?_eq_getElem hidx]
          simp only [Option.getD_some, Array.getElem_map, Array.getElem_range]
          have hm : (i * z.size + j) % z.size = j := by rw [Nat.mul_comm, Nat.mul_add_mod]; exact Nat.mod_eq_of_lt hlt'
          rw [hm]
          rw [← hy]
          simp [hlt']
        rw [hr]
        exact ⟨h1 y (hy ▸ List.getElem_mem hlt), vr_zc y⟩
    · cases hi

end
end Go.Abs

namespace Go.Abs
open Go Go.RowKit

section
variable {P : Program} {fm : Nat → Nat} {w : World} {L : Nat → Loc}

theorem zeroT_some {t : TypeId} {z : List Value} (h : zeroT P t = some z) :
    ∃ i z0, P.info? t = some i ∧ i.zero = some z0 ∧ z0.cells.toList = z ∧ z0.cells.size = i.size ∧ i.size = z.length ∧ 0 < z.length ∧ z.length ≤ 1048576 ∧ i.bytes ≤ 1024 ∧ ∀ x ∈ z, x.oneCell' = true := by
  unfold zeroT at h
  cases hi : P.info? t with
  | none => simp [hi] at h
  | some i =>
    cases hz : i.zero with
    | none => simp [hi, hz] at h
    | some z0 =>
      simp only [hi, hz] at h
      split at h
      · rename_i hc
        obtain ⟨h1, h2, h3, h4, h5⟩ := hc
        injection h with h
        subst h
        refine ⟨i, z0, rfl, hz, rfl, h1, by simp [h1], by simp [h1, h2], by simp [h1, h3], h4, fun x hx => ?_⟩
        rw [Array.all_eq_true] at h5
        obtain ⟨j, hj, e⟩ := List.getElem_of_mem hx
        have := h5 j (by simpa using hj)
        simp at e
        rw [← e]
        exact this
      · cases h

theorem run_append_room' (t ty e bt : TypeId) (i : TypeInfo) (ht : P.underlying t = some (.slice e)) (hi : P.info? e = some i)
    (g sLen sCap : Nat) (cur : Array Value) (hg : w.heap[g]? = some (.cells cur bt (0, 0)))
    (a : Addr) (m c : Nat) (news : List Value) (hl : news.length = m * i.size) (hnews : ∀ j u, news[j]? = some u → w.cell? (a.add j) = some u) (h1 : ∀ u ∈ news, u.oneCell' = true)
    (hroom : sLen + m ≤ sCap) (hfit : sLen * i.size + news.length ≤ cur.size) :
    (Builtin.append_ #[t, t] ty #[.slice (some ⟨g, 0, none⟩) sLen sCap, .slice (some a) m c]).run P w =
      .ok (.slice (some ⟨g, 0, none⟩) (sLen + m) sCap) (w.setRow g (cur.toList.take (sLen * i.size) ++ news ++ cur.toList.drop (sLen * i.size + news.length)).toArray) := by
  have hf := run_firstCells_some (P := P) w i.size m a m c news hl hnews
  have hst := run_storeCells_at P g (sLen * i.size) bt news 0 cur w hg (by simpa using hfit) h1
  simp only [Nat.add_zero] at hst
  simp [Builtin.append_, run_underlying ht, sizeOf, typeInfo, hi, Builtin.lenOf, hroom, hf, Addr.add_lit, hst]

theorem run_append_zero (t ty e : TypeId) (i : TypeInfo) (ht : P.underlying t = some (.slice e)) (hi : P.info? e = some i)
    (A X : Option Addr) (sLen sCap c : Nat) (hc : sLen ≤ sCap) (w : World) :
    (Builtin.append_ #[t, t] ty #[.slice A sLen sCap, .slice X 0 c]).run P w = .ok (.slice A sLen sCap) w := by
  cases A <;> cases X <;> simp [Builtin.append_, run_underlying ht, sizeOf, typeInfo, hi, Builtin.lenOf, hc, Builtin.firstCells, loadCells, loadCellsFrom, storeCells]

theorem getD_append_l {a b : List Value} {k : Nat} (h : k < a.length) : (a ++ b).toArray.getD k undef = a.getD k undef := by
  rw [Array.getD_eq_getD_getElem?]; simp [List.getD, List.getElem?_append_left h]
theorem getD_append_r {a b : List Value} {k : Nat} : (a ++ b).toArray.getD (a.length + k) undef = b.getD k undef := by
  rw [Array.getD_eq_getD_getElem?]; simp [List.getD, List.getElem?_append_right]

theorem getD_append_r' {a b : List Value} {n k : Nat} (h : a.length = n) : (a ++ b).toArray.getD (n + k) undef = b.getD k undef := by
  subst h; exact getD_append_r

theorem rr_join {es : Nat} {cur A : Array Value} {el l : List (List AV)} (hel : ∀ e ∈ el, e.length = es) (h0 : RR fm w L es cur el)
    (hA1 : ∀ k, k < el.length * es → A.getD k undef = cur.getD k undef)
    (hA2 : ∀ i e j c, l[i]? = some e → e[j]? = some c → (A.getD ((el.length + i) * es + j) undef).oneCell' = true ∧ VR fm w L (A.getD ((el.length + i) * es + j) undef) c) :
    RR fm w L es A (el ++ l) := by
  intro i e j c hi hj
  by_cases h : i < el.length
  · rw [List.getElem?_append_left h] at hi
    have he := hel e (List.mem_of_getElem? hi)
    have hjl := (List.getElem?_eq_some_iff.1 hj).1
    have hb : (i + 1) * es ≤ el.length * es := Nat.mul_le_mul_right _ h
    rw [Nat.add_mul] at hb
    rw [hA1 _ (by omega)]
    exact h0 i e j c hi hj
  · rw [List.getElem?_append_right (by omega)] at hi
    have := hA2 (i - el.length) e j c hi hj
    rwa [show el.length + (i - el.length) = i by omega] at this

/-- The cells of elements that lie in a row: as one list. -/
def flat (es m : Nat) (vals : Nat → Nat → Value) : List Value := (List.range (m * es)).map fun k => vals (k / es) (k % es)

theorem flat_get {es m : Nat} {vals : Nat → Nat → Value} {i j : Nat} (hi : i < m) (hj : j < es) : (flat es m vals).getD (i * es + j) undef = vals i j := by
  have hb : (i + 1) * es ≤ m * es := Nat.mul_le_mul_right _ hi
  rw [Nat.add_mul] at hb
  have hlt : i * es + j < m * es := by omega
  have h1 : (i * es + j) / es = i := by rw [Nat.mul_comm, Nat.mul_add_div (by omega), Nat.div_eq_of_lt hj]; omega
  have h2 : (i * es + j) % es = j := by rw [Nat.mul_comm, Nat.mul_add_mod, Nat.mod_eq_of_lt hj]
  simp [flat, List.getD, List.getElem?_map, List.getElem?_range hlt, h1, h2]

/-- What is appended: its length, its cells, and how they stand to the abstract ones. -/
theorem src_cells {x : Value} {es : Nat} {l : List (List AV)} (h : VR fm w L x (.rd es l)) (hne : l ≠ []) :
    ∃ (b o c : Nat) (vals : Nat → Nat → Value), x = .slice (some ⟨b, o, none⟩) l.length c ∧ 0 < es ∧ (∀ e ∈ l, e.length = es) ∧
      (∀ i j, i < l.length → j < es → w.cell? ⟨b, o + i * es + j, none⟩ = some (vals i j) ∧ (vals i j).oneCell' = true) ∧
      (∀ i e j y, l[i]? = some e → e[j]? = some y → VR fm w L (vals i j) y) := by
  cases h with
  | rd0 A es c => exact absurd rfl hne
  | rd b o c es l vals hne hes hes0 hlc hb hbs hc h1 hr =>
    refine ⟨b, o, c, vals, rfl, hes0, hes, fun i j hi hj => ?_, hr⟩
    have hl := List.getElem?_eq_getElem hi
    have he := hes _ (List.getElem_mem hi)
    have hj' := List.getElem?_eq_getElem (show j < (l[i]).length by omega)
    exact ⟨hc i _ j _ hl hj', h1 i _ j _ hl hj'⟩

theorem flat_news {b o es m : Nat} {vals : Nat → Nat → Value} (hes : 0 < es)
    (h : ∀ i j, i < m → j < es → w.cell? ⟨b, o + i * es + j, none⟩ = some (vals i j) ∧ (vals i j).oneCell' = true) :
    (flat es m vals).length = m * es ∧ (∀ j u, (flat es m vals)[j]? = some u → w.cell? ((⟨b, o, none⟩ : Addr).add j) = some u) ∧ ∀ u ∈ flat es m vals, u.oneCell' = true := by
  have key : ∀ k, k < m * es → k / es < m ∧ k % es < es ∧ k / es * es + k % es = k := fun k hk =>
    ⟨(Nat.div_lt_iff_lt_mul hes).2 hk, Nat.mod_lt _ hes, by rw [Nat.mul_comm]; exact Nat.div_add_mod k es⟩
  refine ⟨by simp [flat], fun j u hu => ?_, fun u hu => ?_⟩
  · have hj : j < m * es := by have := (List.getElem?_eq_some_iff.1 hu).1; simpa [flat] using this
    simp [flat, List.getElem?_map, List.getElem?_range hj] at hu
    obtain ⟨k1, k2, k3⟩ := key j hj
    have := (h _ _ k1 k2).1
    rw [Nat.add_assoc, k3] at this
    rw [addr_add, this, hu]
  · simp only [flat, List.mem_map, List.mem_range] at hu
    obtain ⟨k, hk, rfl⟩ := hu
    obtain ⟨k1, k2, _⟩ := key k hk
    exact (h _ _ k1 k2).2

/-- A new block for the whole. -/
theorem grow_new {h : HF} {nid : Nat} (hr : HR fm w L h) (hn : h nid = none) {e : TypeId} {es need old : Nat} {olds news : List Value} {z : Value} {el l : List (List AV)}
    (hes : 0 < es) (hz : z.cells.size = es) (hlo : olds.length = el.length * es) (hln : news.length = l.length * es) (hneed : need = el.length + l.length) (hm : need ≤ maxEl)
    (hel : ∀ e ∈ el, e.length = es) (hl : ∀ e ∈ l, e.length = es) (h0 : RR fm w L es olds.toArray el)
    (h2 : ∀ i e j c, l[i]? = some e → e[j]? = some c → (news.getD (i * es + j) undef).oneCell' = true ∧ VR fm w L (news.getD (i * es + j) undef) c) :
    ∃ L', Keep L w (w.drew.alloc (.cells (olds.toArray ++ news.toArray ++ Builtin.zeroCells z.cells (grownCap w need old e - need)) e)) ∧
      LStep L L' w.heap.size ∧
      HR fm (w.drew.alloc (.cells (olds.toArray ++ news.toArray ++ Builtin.zeroCells z.cells (grownCap w need old e - need)) e)) L' (appU h nid (.push (some ⟨es, el ++ l⟩))) ∧
      VR fm (w.drew.alloc (.cells (olds.toArray ++ news.toArray ++ Builtin.zeroCells z.cells (grownCap w need old e - need)) e)) L'
        (.slice (some ⟨w.heap.size, 0, none⟩) need (grownCap w need old e)) (.ref nid 0 need) := by
  have hge := grownCap_ge w need old e
  have hml : need ≤ maxLen := by simp only [maxEl, maxLen] at hm ⊢; omega
  have hcm := grownCap_le_maxLen w need old e hml
  have hsz : (olds.toArray ++ news.toArray ++ Builtin.zeroCells z.cells (grownCap w need old e - need)).size = grownCap w need old e * es := by
    simp only [Array.size_append, List.size_toArray, size_zeroCells, hz, hlo, hln, ← Nat.add_mul]
    congr 1
    omega
  have hget : ∀ k, (olds.toArray ++ news.toArray ++ Builtin.zeroCells z.cells (grownCap w need old e - need)).getD k undef =
      (olds ++ (news ++ (Builtin.zeroCells z.cells (grownCap w need old e - need)).toList)).toArray.getD k undef := by
    intro k
    congr 1
    apply Array.ext'
    simp
  obtain ⟨hk, hls, hhr⟩ := push_cells (w' := w.drew.alloc (.cells (olds.toArray ++ news.toArray ++ Builtin.zeroCells z.cells (grownCap w need old e - need)) e)) hr hn
    (cap := grownCap w need old e) (el := el ++ l) rfl rfl rfl rfl hes (by simp; omega) hcm
    (fun e' he' => (List.mem_append.1 he').elim (hel e') (hl e')) hsz
    (rr_join (cur := olds.toArray) hel h0 (fun k hk => by
      rw [hget, getD_append_l (by omega)]
      rw [Array.getD_eq_getD_getElem?]; simp [List.getD])
      (fun i e' j c hi hj => by
        have hil := (List.getElem?_eq_some_iff.1 hi).1
        have hjl := (List.getElem?_eq_some_iff.1 hj).1
        have hee := hl e' (List.mem_of_getElem? hi)
        have hb : (i + 1) * es ≤ l.length * es := Nat.mul_le_mul_right _ hil
        rw [Nat.add_mul] at hb
        have e1 : (el.length + i) * es + j = olds.length + (i * es + j) := by rw [Nat.add_mul, hlo]; omega
        rw [hget, e1, getD_append_r]
        have e2 : (news ++ (Builtin.zeroCells z.cells (grownCap w need old e - need)).toList).getD (i * es + j) undef = news.getD (i * es + j) undef := by
          simp only [List.getD]
          rw [List.getElem?_append_left (by omega)]
        rw [e2]
        exact h2 i e' j c hi hj))
  refine ⟨_, hk, hls, hhr, ?_⟩
  have := VR.refAt (fm := fm) (w := w.drew.alloc (.cells (olds.toArray ++ news.toArray ++ Builtin.zeroCells z.cells (grownCap w need old e - need)) e))
    (L := fun a => if a = nid then .cells w.heap.size es (grownCap w need old e) else L a) w.heap.size es (grownCap w need old e) nid 0 need (by simp) (by omega)
  simpa using this

theorem app_sound {t ty e : TypeId} {z : List Value} (ht : P.underlying t = some (.slice e)) (hzt : zeroT P e = some z)
    {h : HF} {nid : Nat} (hr : HR fm w L h) (hn : h nid = none) {vs vx : Value} {s : AV} {l : List (List AV)}
    (hs : VR fm w L vs s) (hx : VR fm w L vx (.rd z.length l)) {K : AV → List Upd → Prop} (hev : appK z.length s l h nid K) :
    ∃ x v us w', (Builtin.append_ #[t, t] ty #[vs, vx]).run P w = .ok x w' ∧ K v us ∧ OpPost fm w L (appF h nid us) v x w' := by
  obtain ⟨i, z0, hi, hz, hzc, hzs, hil, hz0, hzm, hby, hz1⟩ := zeroT_some hzt
  have hzs' : z0.cells.size = z.length := by rw [hzs, hil]
  -- the source
  have src : l = [] → ∃ X c, vx = .slice X 0 c := by
    intro e; subst e
    cases hx with
    | rd0 A es c => exact ⟨A, c, rfl⟩
    | rd b o c es l vals hne => exact absurd rfl hne
  have emp : l.length ≤ maxEl → (∀ e ∈ l, e.length = z.length) → ∀ (h' : HF) (L0 : Nat → Loc), HR fm w L0 h' → LStep L L0 w.heap.size → h' nid = none → ∀ A,
      ∃ x w', (Builtin.append_ #[t, t] ty #[.slice A 0 0, vx]).run P w = .ok x w' ∧ OpPost fm w L (appU h' nid (.push (some ⟨z.length, l⟩))) (.ref nid 0 l.length) x w' := by
    intro hml hle h' L0 hr0 hls0 hn' A
    by_cases hl0 : l = []
    · obtain ⟨X, c, rfl⟩ := src hl0
      subst hl0
      obtain ⟨k1, k2⟩ := push_nil hr0 hn' hz0 w.heap.size
      exact ⟨_, w, run_append_zero t ty e i ht hi A X 0 0 c (Nat.le_refl _) w, _, Keep.refl _ _, hls0.trans k1, k2, .refNil A nid (by simp)⟩
    · obtain ⟨b, o, c, vals, rfl, hes, hel, hcells, hvr⟩ := src_cells hx hl0
      obtain ⟨f1, f2, f3⟩ := flat_news hes hcells
      have hlp : 0 < l.length := by cases l with | nil => exact absurd rfl hl0 | cons a b => simp
      have hbb : l.length * i.bytes ≤ 140737488355328 := by
        have := Nat.mul_le_mul hml hby; simp only [maxEl] at this; omega
      have hrun : (Builtin.append_ #[t, t] ty #[.slice A 0 0, .slice (some ⟨b, o, none⟩) l.length c]).run P w =
          .ok (.slice (some ⟨w.heap.size, 0, none⟩) l.length (grownCap w l.length 0 e))
            (w.drew.alloc (.cells ((([] : List Value)).toArray ++ (flat z.length l.length vals).toArray ++ Builtin.zeroCells z0.cells (grownCap w l.length 0 e - l.length)) e)) := by
        cases A with
        | none =>
          rw [run_append_nil w t ty e i z0 ht hi hz ⟨b, o, none⟩ l.length c (flat z.length l.length vals) (by rw [f1, hil]) f2 hlp (by simp only [maxEl] at hml; omega) (by omega)]
          simp
        | some A =>
          have := run_append_grow (P := P) w t ty e i z0 ht hi hz A 0 0 [] (by simp) (by simp) ⟨b, o, none⟩ l.length c (flat z.length l.length vals) (by rw [f1, hil]) f2 (by omega)
            (by simp only [maxEl] at hml; omega) (growslice_fits (by omega) (by simpa using hbb))
          simpa using this
      obtain ⟨L', k1, k2, k3, k4⟩ := grow_new (old := 0) (need := l.length) (e := e) (olds := []) (el := []) (z := z0) hr0 hn' hes hzs' (by simp) f1 (by simp) hml (by simp) hel
        (fun i e j c hi => by simp at hi) (fun i e' j c hi hj => by
          have hil' := (List.getElem?_eq_some_iff.1 hi).1
          have hjl := (List.getElem?_eq_some_iff.1 hj).1
          have hee := hel e' (List.mem_of_getElem? hi)
          rw [flat_get hil' (by omega)]
          exact ⟨(hcells i j hil' (by omega)).2, (hvr i e' j c hi hj).mono (Keep.refl _ _) hls0⟩)
      have kk : Keep L w (w.drew.alloc (.cells ((([] : List Value)).toArray ++ (flat z.length l.length vals).toArray ++ Builtin.zeroCells z0.cells (grownCap w l.length 0 e - l.length)) e)) :=
        (Keep.refl L w).trans hls0 k1
      exact ⟨_, _, hrun, L', kk, hls0.trans k2, by simpa using k3, k4⟩
  unfold appK at hev
  cases s with
  | emp =>
    obtain ⟨hml, hle, hk⟩ := hev
    cases hs with
    | emp A =>
      obtain ⟨x, w', h1, h2⟩ := emp hml hle h L hr (LStep.refl _ _) hn A
      exact ⟨x, _, _, w', h1, hk, h2⟩
  | ref a off len =>
    obtain ⟨o, ha, hoff, hlen, hoes, hml, hle, hk⟩ := hev
    have hne : a ≠ nid := fun e => by rw [e, hn] at ha; cases ha
    have hupd : appF h nid [.set a none, .push (some ⟨z.length, o.el ++ l⟩)] = fun b => if b = nid then some (some ⟨z.length, o.el ++ l⟩) else if b = a then some none else h b := by
      funext b
      simp [appF, appU]
    have fin : ∃ x w', (Builtin.append_ #[t, t] ty #[vs, vx]).run P w = .ok x w' ∧ OpPost fm w L (appF h nid [.set a none, .push (some ⟨z.length, o.el ++ l⟩)]) (.ref nid 0 (o.el.length + l.length)) x w' := by
      rw [hupd]
      subst hoff
      have hobj := hr.obj a o ha
      cases hs with
      | refDead A c a off len hd hl => rw [hd] at hobj; exact hobj.elim
      | refNil A a hnil =>
        rw [hnil] at hobj
        obtain ⟨hel0, _⟩ := hobj
        rw [hel0] at hml
        obtain ⟨k1, k2⟩ := kill_obj hr a w.heap.size (fun g e => by have := hr.obj a o ha; rw [e] at this; exact this)
        obtain ⟨x, w', h1, h2⟩ := emp (by simpa using hml) hle _ _ k2 k1 (by simp [hn, Ne.symm hne]) A
        refine ⟨x, w', h1, ?_⟩
        simpa [hel0, appU] using h2
      | refAt g es cap a off len hL hl =>
        rw [hL] at hobj
        obtain ⟨hes1, hes0, hlc, hcm, hel, cur, bt, hg, hsz, hrr⟩ := hobj
        rw [hoes] at hes1
        subst hes1
        simp only [Nat.zero_mul, Nat.sub_zero] at *
        by_cases hl0 : l = []
        · -- nothing is appended
          obtain ⟨X, c, rfl⟩ := src hl0
          subst hl0
          obtain ⟨k1, k2⟩ := rename_obj hr ha hn
          refine ⟨_, w, run_append_zero t ty e i ht hi _ X len cap c (by omega) w, _, Keep.refl _ _, k1, ?_, ?_⟩
          · have : (⟨z.length, o.el ++ []⟩ : AObj) = o := by cases o; simp at hoes ⊢; exact hoes.symm
            rw [this]; exact k2
          · have := VR.refAt (fm := fm) (w := w) (L := fun b => if b = nid then L a else if b = a then .dead else L b) g z.length cap nid 0 len (by simp [hL]) (by omega)
            subst hlen
            simpa using this
        · obtain ⟨b, o2, c, vals, rfl, hes, hel2, hcells, hvr⟩ := src_cells hx hl0
          obtain ⟨f1, f2, f3⟩ := flat_news hes hcells
          have hbb : (o.el.length + l.length) * i.bytes ≤ 140737488355328 := by
            have := Nat.mul_le_mul hml hby; simp only [maxEl] at this; omega
          subst hlen
          by_cases hroom : o.el.length + l.length ≤ cap
          · -- there is room
            have hfit : o.el.length * z.length + (flat z.length l.length vals).length ≤ cur.size := by
              rw [f1, hsz, ← Nat.add_mul]; exact Nat.mul_le_mul_right _ hroom
            have hrun := run_append_room' (P := P) t ty e bt i ht hi g o.el.length cap cur hg ⟨b, o2, none⟩ l.length c (flat z.length l.length vals) (by rw [f1, hil]) f2 f3 hroom (by rw [hil]; exact hfit)
            rw [hil] at hrun
            have hgetl : ∀ k, k < o.el.length * z.length →
                ((cur.toList.take (o.el.length * z.length) ++ flat z.length l.length vals ++ cur.toList.drop (o.el.length * z.length + (flat z.length l.length vals).length)).toArray).getD k undef = cur.getD k undef := by
              intro k hk'
              rw [List.append_assoc, getD_append_l (by simp; omega)]
              simp only [List.getD, List.getElem?_take, if_pos hk']
              rw [Array.getD_eq_getD_getElem?]; simp
            have hgetr : ∀ k, k < l.length * z.length →
                ((cur.toList.take (o.el.length * z.length) ++ flat z.length l.length vals ++ cur.toList.drop (o.el.length * z.length + (flat z.length l.length vals).length)).toArray).getD (o.el.length * z.length + k) undef = (flat z.length l.length vals).getD k undef := by
              intro k hk'
              have e1 : (cur.toList.take (o.el.length * z.length)).length = o.el.length * z.length := by simp; omega
              rw [List.append_assoc]
              rw [getD_append_r' e1]
              simp only [List.getD]
              rw [List.getElem?_append_left (by omega)]
            obtain ⟨s1, s2⟩ := store_obj (cur' := (cur.toList.take (o.el.length * z.length) ++ flat z.length l.length vals ++ cur.toList.drop (o.el.length * z.length + (flat z.length l.length vals).length)).toArray)
              (el := o.el ++ l) hr ha hL hg (by simp; rw [hsz] at *; omega) (by simpa using hroom) (fun e' he' => (List.mem_append.1 he').elim (hel e') (hle e'))
              (rr_join hel hrr hgetl (fun i' e' j c' hi' hj' => by
                have hil' := (List.getElem?_eq_some_iff.1 hi').1
                have hjl := (List.getElem?_eq_some_iff.1 hj').1
                have hee := hle e' (List.mem_of_getElem? hi')
                have hb : (i' + 1) * z.length ≤ l.length * z.length := Nat.mul_le_mul_right _ hil'
                rw [Nat.add_mul] at hb
                rw [show (o.el.length + i') * z.length + j = o.el.length * z.length + (i' * z.length + j) by rw [Nat.add_mul]; omega, hgetr _ (by omega), flat_get hil' (by omega)]
                exact ⟨(hcells i' j hil' (by omega)).2, hvr i' e' j c' hi' hj'⟩))
            obtain ⟨k1, k2⟩ := rename_obj (a := a) (nid := nid) (o := ⟨z.length, o.el ++ l⟩) s2 (by simp) (by simp [Ne.symm hne, hn])
            refine ⟨_, _, hrun, _, s1, by simpa using k1, ?_, ?_⟩
            · have e1 : (fun b => if b = nid then some (some (⟨z.length, o.el ++ l⟩ : AObj)) else if b = a then some none else if b = a then some (some ⟨z.length, o.el ++ l⟩) else h b) =
                  fun b => if b = nid then some (some ⟨z.length, o.el ++ l⟩) else if b = a then some none else h b := by
                funext b; by_cases e1 : b = nid <;> by_cases e2 : b = a <;> simp [e1, e2]
              rw [← e1]; exact k2
            · have := VR.refAt (fm := fm) (w := w.setRow g (cur.toList.take (o.el.length * z.length) ++ flat z.length l.length vals ++ cur.toList.drop (o.el.length * z.length + (flat z.length l.length vals).length)).toArray)
                (L := fun b => if b = nid then L a else if b = a then .dead else L b) g z.length cap nid 0 (o.el.length + l.length) (by simp [hL]) (by omega)
              simpa using this
          · -- it must grow
            have hcut : o.el.length * z.length ≤ cur.size := by rw [hsz]; exact Nat.mul_le_mul_right _ hlc
            have hrun := run_append_grow (P := P) w t ty e i z0 ht hi hz ⟨g, 0, none⟩ o.el.length cap (cur.toList.take (o.el.length * z.length)) (by simp [hil]; omega)
              (fun j u hu => by
                rw [addr_add]
                rw [List.getElem?_take] at hu
                split at hu
                · rw [cell_of_row w g _ cur bt (0, 0) hg]; simpa using hu
                · cases hu)
              ⟨b, o2, none⟩ l.length c (flat z.length l.length vals) (by rw [f1, hil]) f2 (by omega) (by simp only [maxEl] at hml; omega) (growslice_fits (by omega) hbb)
            obtain ⟨k1, k2⟩ := kill_obj hr a w.heap.size (fun g e => by have := hr.obj a o ha; rw [e] at this; exact this)
            obtain ⟨L', g1, g2, g3, g4⟩ := grow_new (old := cap) (need := o.el.length + l.length) (e := e) (z := z0) (olds := cur.toList.take (o.el.length * z.length)) (el := o.el) (news := flat z.length l.length vals) (l := l)
              k2 (nid := nid) (by simp [Ne.symm hne, hn]) hes hzs' (by simp; omega) f1 rfl hml hel hle
              (fun i' e' j c' hi' hj' => by
                have hil' := (List.getElem?_eq_some_iff.1 hi').1
                have hjl := (List.getElem?_eq_some_iff.1 hj').1
                have hee := hel e' (List.mem_of_getElem? hi')
                have hb : (i' + 1) * z.length ≤ o.el.length * z.length := Nat.mul_le_mul_right _ hil'
                rw [Nat.add_mul] at hb
                have : ((cur.toList.take (o.el.length * z.length)).toArray).getD (i' * z.length + j) undef = cur.getD (i' * z.length + j) undef := by
                  rw [Array.getD_eq_getD_getElem?, Array.getD_eq_getD_getElem?]
                  simp only [List.getElem?_toArray, List.getElem?_take]
                  rw [if_pos (by omega)]; simp
                rw [this]
                exact ⟨(hrr i' e' j c' hi' hj').1, (hrr i' e' j c' hi' hj').2.mono (Keep.refl _ _) k1⟩)
              (fun i' e' j c' hi' hj' => by
                have hil' := (List.getElem?_eq_some_iff.1 hi').1
                have hjl := (List.getElem?_eq_some_iff.1 hj').1
                have hee := hle e' (List.mem_of_getElem? hi')
                rw [flat_get hil' (by omega)]
                exact ⟨(hcells i' j hil' (by omega)).2, (hvr i' e' j c' hi' hj').mono (Keep.refl _ _) k1⟩)
            exact ⟨_, _, hrun, L', (Keep.refl L w).trans k1 g1, k1.trans g2, by simpa [appU] using g3, g4⟩
    obtain ⟨x, w', hx1, hx2⟩ := fin
    exact ⟨x, _, _, w', hx1, hk, hx2⟩
  | _ => exact hev.elim

end
end Go.Abs

namespace Go.Abs
open Go Go.RowKit

section
variable {P : Program} {fm : Nat → Nat} {w : World} {L : Nat → Loc}

def RunTo (P : Program) (o : Oper) (a : Act) (w : World) (x : Value) (w' : World) : Prop :=
  (execOp a.eval o).run P w = .ok (.value x) w' ∨ ((execOp a.eval o).run P w = .ok .skip w' ∧ x = undef)

/-- What is to be shown of an operation. -/
def Shown (P : Program) (fm : Nat → Nat) (o : Oper) (a : Act) (w : World) (L : Nat → Loc) (h : HF) (nid : Nat) (K : AV → List Upd → Prop) : Prop :=
  ∃ x v us w', RunTo P o a w x w' ∧ K v us ∧ OpPost fm w L (appF h nid us) v x w'

theorem Shown.pure {o : Oper} {a : Act} {h : HF} {nid : Nat} {K : AV → List Upd → Prop} (hr : HR fm w L h) {x : Value} {v : AV}
    (h1 : (execOp a.eval o).run P w = .ok (.value x) w) (h2 : K v []) (h3 : VR fm w L x v) : Shown P fm o a w L h nid K :=
  ⟨x, v, [], w, .inl h1, h2, OpPost.same hr h3⟩

/-- A new object out of one value. -/
theorem box_sound {h : HF} {nid : Nat} (hr : HR fm w L h) (hn : h nid = none) (e : TypeId) {xs : Array Value} {cs : List AV} (hc : CR fm w L xs cs) (h0 : 0 < cs.length) (_hm : cs.length ≤ maxEl) :
    OpPost fm w L (appF h nid [.push (some ⟨cs.length, [cs]⟩)]) (.ptr nid 0 0) (.pointer (some ⟨w.heap.size, 0, none⟩)) (w.alloc (.cells xs e)) := by
  obtain ⟨k1, k2, k3⟩ := push_cells (w' := w.alloc (.cells xs e)) (cap := 1) (es := cs.length) (el := [cs]) (cur := xs) (ty := e) hr hn rfl rfl rfl rfl h0 (by simp) (by simp [maxLen]) (by simp) (by simp [hc.1])
    (fun i e j c hi hj => by
      cases i with
      | zero =>
        simp at hi; subst hi
        simpa using hc.2 j c hj
      | succ i => simp at hi)
  refine ⟨_, k1, k2, k3, ?_⟩
  have := VR.ptrAt (fm := fm) (w := w.alloc (.cells xs e)) (L := fun a => if a = nid then .cells w.heap.size cs.length 1 else L a) w.heap.size cs.length 1 nid 0 0 (by simp)
  simpa using this

theorem part_sound {t : TypeId} {g : Bool} {n off : Nat} (hg : aggT P t = some g) (hn : sizeT P t = some n) {xs : Array Value} {cs : List AV} (hc : CR fm w L xs cs) (hle : off ≤ cs.length)
    {K : AV → Prop} (hev : loadK g n (cs.drop off) K) : ∃ x v, (part t xs off).run P w = .ok x w ∧ K v ∧ VR fm w L x v := by
  cases g with
  | true =>
    obtain ⟨h1, h2⟩ := hev
    simp at h1
    refine ⟨.agg (xs.extract off (off + n)), _, ?_, h2, ?_⟩
    · simp [part, run_isAgg hg, run_sizeOf hn]
    · have hs := hc.1
      refine CR.agg ⟨by simp; omega, fun j c hj => ?_⟩
      rw [List.getElem?_take] at hj
      split at hj
      · rename_i hjn
        rw [List.getElem?_drop] at hj
        rw [getD_extract (by omega) hjn]
        exact hc.2 _ c hj
      · cases hj
  | false =>
    obtain ⟨c, h1, h2⟩ := hev
    rw [List.getElem?_drop] at h1
    have hlt := (List.getElem?_eq_some_iff.1 h1).1
    simp only [Nat.add_zero] at h1 hlt
    exact ⟨_, c, run_part_one hg (by rw [hc.1]; exact hlt) w, h2, (hc.2 off c h1).2⟩

theorem vr_agg_inv {x : Value} {cs : List AV} (h : VR fm w L x (.agg cs)) : ∃ xs, x = .agg xs ∧ CR fm w L xs cs := by
  cases h with
  | agg xs cs hs h1 h => exact ⟨xs, rfl, hs, fun j c hj => ⟨h1 j c hj, h j c hj⟩⟩

theorem vr_tup_inv {x : Value} {cs : List AV} (h : VR fm w L x (.tup cs)) : ∃ xs, x = .tuple xs ∧ xs.size = cs.length ∧ ∀ j a, cs[j]? = some a → VR fm w L (xs.getD j undef) a := by
  cases h with
  | tup xs cs hs h => exact ⟨xs, rfl, hs, h⟩

theorem vr_rp_inv {x : Value} {cs : List AV} (h : VR fm w L x (.rp cs)) : ∃ (b o : Nat) (vals : Nat → Value), x = .pointer (some ⟨b, o, none⟩) ∧ ¬ Owned L b ∧ b < w.heap.size ∧
    (∀ (j : Nat) (x : AV), cs[j]? = some x → w.cell? ⟨b, o + j, none⟩ = some (vals j)) ∧ (∀ (j : Nat) (x : AV), cs[j]? = some x → (vals j).oneCell' = true) ∧ (∀ j x, cs[j]? = some x → VR fm w L (vals j) x) := by
  cases h with
  | rp b o cs vals hb hbs hc h1 hr => exact ⟨b, o, vals, rfl, hb, hbs, hc, h1, hr⟩

/-- What a live object's block holds at one element. -/
theorem obj_row {h : HF} (hr : HR fm w L h) {a : Nat} {o : AObj} (ha : h a = some (some o)) {i : Nat} {e : List AV} (hi : o.el[i]? = some e) :
    ∃ g cap cur ty, L a = .cells g o.es cap ∧ 0 < o.es ∧ e.length = o.es ∧ w.heap[g]? = some (.cells cur ty (0, 0)) ∧ cur.size = cap * o.es ∧ o.el.length ≤ cap ∧ (∀ e ∈ o.el, e.length = o.es) ∧ RR fm w L o.es cur o.el ∧
      (i + 1) * o.es ≤ cur.size := by
  have hobj := hr.obj a o ha
  cases hL : L a with
  | fresh => rw [hL] at hobj; exact hobj.elim
  | dead => rw [hL] at hobj; exact hobj.elim
  | nil => rw [hL] at hobj; rw [hobj.1] at hi; simp at hi
  | hid g => rw [hL] at hobj; exact hobj.elim
  | cells g es cap =>
    rw [hL] at hobj
    obtain ⟨h0, h1, h2, h3, h4, cur, ty, h5, h6, h7⟩ := hobj
    subst h0
    have hil := (List.getElem?_eq_some_iff.1 hi).1
    exact ⟨g, cap, cur, ty, rfl, h1, h4 e (List.mem_of_getElem? hi), h5, h6, h2, h4, h7, by rw [h6]; exact Nat.mul_le_mul_right _ (by omega)⟩

theorem binop_run {op : BinOp} {t : TypeId} {va vb : Value} {ea eb : Operand} {K : Value → Prop}
    (hev : binK op (.v va) (.v vb) K) :
    ∃ r, (do eqGuard op t ea eb va vb; binOp op t va vb : Sem Value).run P w = .ok r w ∧ K r := by
  have hg : ∀ (s : Sem Value), ((∃ k x k' y, va = .int k x ∧ vb = .int k' y) ∨ ∃ x y, va = .string x ∧ vb = .string y) → (do eqGuard op t ea eb va vb; s : Sem Value).run P w = s.run P w := by
    intro s hh
    have : eqGuard op t ea eb va vb = pure () := by
      rcases hh with ⟨k, x, k', y, rfl, rfl⟩ | ⟨x, y, rfl, rfl⟩ <;> cases op <;> rfl
    rw [this]; rfl
  unfold binK at hev
  split at hev
  · rename_i k x k' y e1 e2
    injection e1 with e1; injection e2 with e2
    subst e1; subst e2
    rw [hg _ (.inl ⟨k, x, k', y, rfl, rfl⟩)]
    obtain ⟨hk, hev⟩ := hev
    cases op <;> simp only [intBin] at hev
    case shl =>
      obtain ⟨h0, hk⟩ := hev
      refine ⟨_, ?_, hk⟩
      have : ¬ y < 0 := by omega
      simp [binOp, Op.shift, this]
    case shr =>
      obtain ⟨h0, hk⟩ := hev
      refine ⟨_, ?_, hk⟩
      have : ¬ y < 0 := by omega
      simp [binOp, Op.shift, this]
    all_goals
      have hkk : k = k' := by rcases hk with h | h | h <;> first | exact h | cases h
      subst hkk
    case quo => obtain ⟨h0, hk⟩ := hev; exact ⟨_, by simp [binOp, Op.intDiv, h0], hk⟩
    case rem => obtain ⟨h0, hk⟩ := hev; exact ⟨_, by simp [binOp, Op.intDiv, h0], hk⟩
    all_goals
      refine ⟨_, ?_, hev⟩
      first
        | (simp [binOp, Op.intArith]; done)
        | (simp [binOp, intBits_and, intBits_or, intBits_xor, intBits_andNot]; done)
        | (simp [binOp, Op.intCmp]; done)
  · rename_i x y e1 e2
    injection e1 with e1; injection e2 with e2
    subst e1; subst e2
    rw [hg _ (.inr ⟨x, y, rfl, rfl⟩)]
    cases op <;> simp only [strBin] at hev
    case add =>
      obtain ⟨h0, hk⟩ := hev
      refine ⟨_, ?_, hk⟩
      have : (x.size : Int) + (y.size : Int) ≤ 9223372036854775807 := by omega
      simp [binOp, Op.stringOp, this]
    all_goals first | exact hev.elim | exact ⟨_, by simp [binOp, Op.stringOp], hev⟩
  · exact hev.elim


theorem vr_clo_inv {x : Value} {f : Nat} {cs : List AV} (h : VR fm w L x (.clo f cs)) : ∃ g xs, x = .func (.func g) #[] xs ∧ fm g = f ∧ xs.size = cs.length ∧ ∀ j a, cs[j]? = some a → VR fm w L (xs.getD j undef) a := by
  cases h with
  | clo g xs cs hs h => exact ⟨g, xs, rfl, rfl, hs, h⟩

theorem vr_rd_at {x : Value} {es : Nat} {l : List (List AV)} (h : VR fm w L x (.rd es l)) : ∃ A c, x = .slice A l.length c ∧ l.length ≤ c := by
  cases h with
  | rd0 A es c => exact ⟨A, c, rfl, Nat.zero_le _⟩
  | rd b o c es l vals hne hes hes0 hlc => exact ⟨_, c, rfl, hlc⟩

theorem vr_live_ptr {h : HF} (hr : HR fm w L h) {x : Value} {a i j : Nat} {o : AObj} (ha : h a = some (some o)) (hx : VR fm w L x (.ptr a i j)) :
    ∃ g es cap, L a = .cells g es cap ∧ es = o.es ∧ x = .pointer (some ⟨g, i * es + j, none⟩) := by
  have hobj := hr.obj a o ha
  cases hx with
  | ptrAt g es cap a i j h => rw [h] at hobj; exact ⟨g, es, cap, h, hobj.1, rfl⟩
  | ptrDead ad a i j h => rw [h] at hobj; exact hobj.elim

theorem vr_live_ref {h : HF} (hr : HR fm w L h) {x : Value} {a off len : Nat} {o : AObj} (ha : h a = some (some o)) (hx : VR fm w L x (.ref a off len)) :
    (∃ g es cap, L a = .cells g es cap ∧ es = o.es ∧ off + len ≤ cap ∧ x = .slice (some ⟨g, off * es, none⟩) len (cap - off)) ∨ (∃ A, L a = .nil ∧ off = 0 ∧ len = 0 ∧ x = .slice A 0 0) := by
  have hobj := hr.obj a o ha
  cases hx with
  | refAt g es cap a off len h hl => rw [h] at hobj; exact .inl ⟨g, es, cap, h, hobj.1, hl, rfl⟩
  | refNil A a h => exact .inr ⟨A, h, rfl, rfl, rfl⟩
  | refDead A c a off len h hl => rw [h] at hobj; exact hobj.elim

theorem binK_inv {op : BinOp} {a b : AV} {K : Value → Prop} (h : binK op a b K) : ∃ x y, a = .v x ∧ b = .v y := by
  unfold binK at h
  split at h
  · exact ⟨_, _, rfl, rfl⟩
  · exact ⟨_, _, rfl, rfl⟩
  · exact h.elim

theorem vr_emp_inv {x : Value} (h : VR fm w L x .emp) : ∃ A, x = .slice A 0 0 := by
  cases h with
  | emp A => exact ⟨A, rfl⟩

theorem vr_rd_inv {x : Value} {es : Nat} {l : List (List AV)} (h : VR fm w L x (.rd es l)) : (l = [] ∧ ∃ A c, x = .slice A 0 c) ∨
    ∃ (b o c : Nat) (vals : Nat → Nat → Value), x = .slice (some ⟨b, o, none⟩) l.length c ∧ l ≠ [] ∧ (∀ e ∈ l, e.length = es) ∧ 0 < es ∧ l.length ≤ c ∧ ¬ Owned L b ∧ b < w.heap.size ∧
      (∀ i e j x, l[i]? = some e → e[j]? = some x → w.cell? ⟨b, o + i * es + j, none⟩ = some (vals i j)) ∧
      (∀ i e j x, l[i]? = some e → e[j]? = some x → (vals i j).oneCell' = true) ∧
      (∀ i e j x, l[i]? = some e → e[j]? = some x → VR fm w L (vals i j) x) := by
  cases h with
  | rd0 A es c => exact .inl ⟨rfl, A, c, rfl⟩
  | rd b o c es l vals hne hes hes0 hlc hb hbs hc h1 hr => exact .inr ⟨b, o, c, vals, rfl, hne, hes, hes0, hlc, hb, hbs, hc, h1, hr⟩

theorem vr_ptr_inv {x : Value} {a i j : Nat} (h : VR fm w L x (.ptr a i j)) : ∃ ad, x = .pointer (some ad) := by
  cases h with
  | ptrAt g es cap a i j h => exact ⟨_, rfl⟩
  | ptrDead ad a i j h => exact ⟨_, rfl⟩

theorem vr_ptr_add {ad : Addr} {a i j : Nat} (n : Nat) (h : VR fm w L (.pointer (some ad)) (.ptr a i j)) : VR fm w L (.pointer (some (ad.add n))) (.ptr a i (j + n)) := by
  cases h with
  | ptrAt g es cap a i j h =>
    rw [addr_add, Nat.add_assoc]
    exact .ptrAt g es cap a i (j + n) h
  | ptrDead ad a i j h => exact .ptrDead _ a i (j + n) h

theorem vr_ref_inv {x : Value} {a off len : Nat} (h : VR fm w L x (.ref a off len)) : ∃ A c, x = .slice A len c ∧ len ≤ c := by
  cases h with
  | refAt g es cap a off len h hl => exact ⟨_, _, rfl, by omega⟩
  | refNil A a h => exact ⟨_, _, rfl, Nat.le_refl _⟩
  | refDead A c a off len h hl => exact ⟨_, _, rfl, hl⟩

theorem vr_ref_cut {A : Option Addr} {c a off len n : Nat} (hn : n ≤ len) (h : VR fm w L (.slice A len c) (.ref a off len)) : VR fm w L (.slice A n c) (.ref a off n) := by
  cases h with
  | refAt g es cap a off len h hl => exact .refAt g es cap a off n h (by omega)
  | refNil A a h =>
    have : n = 0 := by omega
    subst this; exact .refNil A a h
  | refDead A c a off len h hl => exact .refDead A c a off n h (by omega)

/-- A load through a pointer into an own object. -/
theorem load_own {t : TypeId} {g : Bool} {n : Nat} (hg : aggT P t = some g) (hn : sizeT P t = some n) {h : HF} (hr : HR fm w L h) {x : Value} {a i j : Nat} {o : AObj} (ha : h a = some (some o))
    (hx : VR fm w L x (.ptr a i j)) {e : List AV} (hi : o.el[i]? = some e) {K : AV → Prop} (hev : loadK g n (e.drop j) K) :
    ∃ ad y v, x = .pointer (some ad) ∧ (loadVar t ad).run P w = .ok y w ∧ K v ∧ VR fm w L y v := by
  obtain ⟨gb, es, cap, hL, hes, rfl⟩ := vr_live_ptr hr ha hx
  subst hes
  obtain ⟨g', cap', cur, ty, hL', hes0, hel, hgb, hsz, hlc, _, hrr, hbd⟩ := obj_row hr ha hi
  rw [hL] at hL'
  injection hL' with e1 e2 e3
  subst e1; subst e3
  rw [Nat.add_mul] at hbd
  have key : ∀ k x, (e.drop j)[k]? = some x → e[j + k]? = some x ∧ i * o.es + j + k < cur.size := by
    intro k x hk
    rw [List.getElem?_drop] at hk
    have := (List.getElem?_eq_some_iff.1 hk).1
    exact ⟨hk, by omega⟩
  obtain ⟨y, v, h1, h2, h3⟩ := load_sound (P := P) hg hn (b := gb) (o := i * o.es + j) (cs := e.drop j) (vals := fun k => cur.getD (i * o.es + j + k) undef)
    (fun k x hk => by
      rw [cell_of_row w gb _ cur ty (0, 0) hgb]
      exact getD_of_lt (key k x hk).2)
    (fun k x hk => by
      have := hrr i e (j + k) x hi (key k x hk).1
      rw [← Nat.add_assoc] at this
      exact this.1)
    (fun k x hk => by
      have := hrr i e (j + k) x hi (key k x hk).1
      rw [← Nat.add_assoc] at this
      exact this.2) hev
  exact ⟨_, y, v, rfl, h1, h2, h3⟩

theorem run_load_op {t : TypeId} {x : Operand} {a : Act} {ad : Addr} {y : Value} {dst : Option Tmp} {ty : TypeId} {pos : String} {after : Array Edge} {guard : Option (Nat × Bool)}
    (hx : a.eval x = .pointer (some ad)) (hl : (loadVar t ad).run P w = .ok y w) :
    (execOp a.eval { dst, op := .load t x, type := ty, pos, after, guard }).run P w = .ok (.value y) w := by
  simp [execOp, Instr.loadAt, Instr.sureAddr, hx, hl]

theorem splice_len {l cs : List AV} {j : Nat} (h : j + cs.length ≤ l.length) : (splice l j cs).length = l.length := by simp [splice]; omega

theorem splice_get {l cs : List AV} {j k : Nat} {c : AV} (h : j + cs.length ≤ l.length) (hc : (splice l j cs)[k]? = some c) :
    (j ≤ k ∧ k < j + cs.length ∧ cs[k - j]? = some c) ∨ (¬ (j ≤ k ∧ k < j + cs.length) ∧ l[k]? = some c) := by
  simp only [splice] at hc
  by_cases hin : j ≤ k ∧ k < j + cs.length
  · left
    rw [List.append_assoc, List.getElem?_append_right (by simp; omega), List.getElem?_append_left (by simp; omega)] at hc
    have : k - (List.take j l).length = k - j := by simp; omega
    rw [this] at hc
    exact ⟨hin.1, hin.2, hc⟩
  · right
    refine ⟨hin, ?_⟩
    by_cases hlt : k < j
    · rw [List.append_assoc, List.getElem?_append_left (by simp; omega), List.getElem?_take, if_pos hlt] at hc
      exact hc
    · rw [List.getElem?_append_right (by simp; omega), List.getElem?_drop] at hc
      have : j + cs.length + (k - (List.take j l ++ cs).length) = k := by simp; omega
      rwa [this] at hc

/-- A store through a pointer into an own object. -/
theorem store_own {t : TypeId} {n : Nat} (hn : sizeT P t = some n) {h : HF} (hr : HR fm w L h) {x y : Value} {a i j : Nat} {o : AObj} (ha : h a = some (some o))
    (hx : VR fm w L x (.ptr a i j)) {e cs : List AV} (hi : o.el[i]? = some e) (hy : CR fm w L y.cells cs) (hcn : cs.length = n) (hje : j + n ≤ e.length) :
    ∃ ad w', x = .pointer (some ad) ∧ (storeVar t ad y).run P w = .ok () w' ∧ Keep L w w' ∧ HR fm w' L (fun b => if b = a then some (some ⟨o.es, o.el.set i (splice e j cs)⟩) else h b) := by
  obtain ⟨gb, es, cap, hL, hes, rfl⟩ := vr_live_ptr hr ha hx
  subst hes
  obtain ⟨g', cap', cur, ty, hL', hes0, hel, hgb, hsz, hlc, hall, hrr, hbd⟩ := obj_row hr ha hi
  rw [hL] at hL'
  injection hL' with e1 e2 e3
  subst e1; subst e3
  rw [Nat.add_mul] at hbd
  have hys : y.cells.toList.length = n := by rw [← hcn]; simpa using hy.1
  have hil := (List.getElem?_eq_some_iff.1 hi).1
  have hrun := run_storeCells_at P gb (i * o.es + j) ty y.cells.toList 0 cur w hgb (by rw [hys]; omega) (fun v hv => by
    obtain ⟨k, hk, e⟩ := List.getElem_of_mem hv
    have hk' : k < y.cells.size := by simpa using hk
    have := (hy.2 k _ (List.getElem?_eq_getElem (by rw [← hy.1]; exact hk'))).1
    rw [← e]
    simpa [Array.getD, hk'] using this)
  simp only [Nat.add_zero] at hrun
  have hsp : (splice e j cs).length = e.length := splice_len (by omega)
  obtain ⟨k1, k2⟩ := store_obj hr ha hL hgb (cur' := (cur.toList.take (i * o.es + j) ++ y.cells.toList ++ cur.toList.drop (i * o.es + j + y.cells.toList.length)).toArray)
    (by simp only [List.size_toArray, List.length_append, List.length_take, List.length_drop, Array.length_toList]; rw [← hsz]; simp at hys; omega) (el := o.el.set i (splice e j cs)) (by simpa using hlc)
    (fun e' he' => by
      rcases List.mem_or_eq_of_mem_set he' with h | h
      · exact hall e' h
      · rw [h, hsp, hel])
    (fun i' e' j' c hi' hj' => by
      have hgetl : ∀ k, k < i * o.es + j → ((cur.toList.take (i * o.es + j) ++ y.cells.toList ++ cur.toList.drop (i * o.es + j + y.cells.toList.length)).toArray).getD k undef = cur.getD k undef := by
        intro k hk
        rw [List.append_assoc, getD_append_l (by simp; omega)]
        simp only [List.getD, List.getElem?_take, if_pos hk]
        rw [Array.getD_eq_getD_getElem?]; simp
      have hgetm : ∀ k, k < n → ((cur.toList.take (i * o.es + j) ++ y.cells.toList ++ cur.toList.drop (i * o.es + j + y.cells.toList.length)).toArray).getD (i * o.es + j + k) undef = y.cells.getD k undef := by
        intro k hk
        rw [List.append_assoc, getD_append_r' (by simp; omega)]
        simp only [List.getD]
        rw [List.getElem?_append_left (by rw [hys]; exact hk), Array.getD_eq_getD_getElem?]
        simp
      have hgetr : ∀ k, i * o.es + j + n ≤ k → ((cur.toList.take (i * o.es + j) ++ y.cells.toList ++ cur.toList.drop (i * o.es + j + y.cells.toList.length)).toArray).getD k undef = cur.getD k undef := by
        intro k hk
        have hlen : (cur.toList.take (i * o.es + j) ++ y.cells.toList).length = i * o.es + j + n := by simp at hys; simp; omega
        obtain ⟨m, rfl⟩ : ∃ m, k = i * o.es + j + n + m := ⟨k - (i * o.es + j + n), by omega⟩
        rw [getD_append_r' hlen, hys]
        simp only [List.getD, List.getElem?_drop]
        rw [Array.getD_eq_getD_getElem?]; simp
      by_cases hii : i' = i
      · subst hii
        rw [List.getElem?_set_self hil] at hi'
        injection hi' with hi'
        subst hi'
        rcases splice_get (by omega) hj' with ⟨p1, p2, p3⟩ | ⟨p1, p3⟩
        · rw [show i' * o.es + j' = i' * o.es + j + (j' - j) by omega, hgetm _ (by omega)]
          exact hy.2 _ c p3
        · have hjl := (List.getElem?_eq_some_iff.1 p3).1
          have : ((cur.toList.take (i' * o.es + j) ++ y.cells.toList ++ cur.toList.drop (i' * o.es + j + y.cells.toList.length)).toArray).getD (i' * o.es + j') undef = cur.getD (i' * o.es + j') undef := by
            by_cases hlt : j' < j
            · exact hgetl _ (by omega)
            · exact hgetr _ (by omega)
          rw [this]
          exact hrr i' e j' c hi p3
      · rw [List.getElem?_set_ne (fun e => hii e.symm)] at hi'
        have hjl := (List.getElem?_eq_some_iff.1 hj').1
        have hel' := hall e' (List.mem_of_getElem? hi')
        have : ((cur.toList.take (i * o.es + j) ++ y.cells.toList ++ cur.toList.drop (i * o.es + j + y.cells.toList.length)).toArray).getD (i' * o.es + j') undef = cur.getD (i' * o.es + j') undef := by
          rcases Nat.lt_or_gt_of_ne hii with hlt | hgt
          · have hb : (i' + 1) * o.es ≤ i * o.es := Nat.mul_le_mul_right _ hlt
            rw [Nat.add_mul] at hb
            exact hgetl _ (by omega)
          · have hb : (i + 1) * o.es ≤ i' * o.es := Nat.mul_le_mul_right _ hgt
            rw [Nat.add_mul] at hb
            exact hgetr _ (by omega)
        rw [this]
        exact hrr i' e' j' c hi' hj')
  refine ⟨_, _, rfl, ?_, k1, k2⟩
  have hcs : y.cells.size = n := by simpa using hys
  simp only [storeVar, Sem.run_bind, run_sizeOf hn, Result.andThen_ok, Sem.run_ite, hcs, ne_eq, not_true, if_false]
  exact hrun

end
end Go.Abs
