/- Values with types, own objects as lists, and what each operation does to them: a function that is given its way on. No condition. -/
import Derived.Test.YtkgoecnchnbbfaaA1
set_option linter.unusedVariables false
set_option linter.unusedSimpArgs false
set_option linter.unusedSectionVars false
open List renaming getElem?_eq_some_iff → YzN, getElem?_eq_getElem → YzO, getElem?_map → YzP, mem_of_getElem? → YzQ, map_cons → YzR, getElem?_append_left → YzS, map_nil → YzT, getElem?_append_right → YzU, getElem?_set_ne → YzV, getD_eq_getElem?_getD → YzW, append_assoc → YzX, length_eq_zero_iff → YzY, getElem?_set_self → YzZ, mem_singleton → Yz0, mem_iff_getElem? → Yz1, mem_cons_self → Yz2, getElem?_take → Yz3, mem_cons → Yz4, mem_map → Yz5, mem_append → Yz6, length_map → Yz7, getElem?_drop → Yz8, all_eq_true → Yz9, getElem?_eq_none → YAa, length_cons → YAb, map_map → YAc, mem_append_left → YAd, cons_append → YAe, getElem?_range → YAf, take_length → YAg, mem_cons_of_mem → YAh, length_append → YAi, mem_iff_getElem → YAj, append_nil → YAk, getElem?_replicate → YAl, ext_getElem? → YAm, nil_append → YAn, mem_filter → YAo, map_append → YAp, any_eq_true → YAq, getElem?_cons_succ → YAr, drop_zero → YAs, pairwise_cons → YAt, getElem_mem → YAu, mem_of_mem_take → YAv, mem_append_right → YAw, getElem?_eq_none_iff → YAx
namespace Go.Abs
open Go Go.RowKit
inductive TV where
 | i (k : IntKind) (n : Int)
 | b (x : Bool)
 | s (x : ByteArray)
 | l (c : Cs) (v : List c.den)
 | e (c : Cs)
 | u
 | v (x : Value)
 | ref (a : Nat)
 | pre (a : Nat) (n : Int)
 | sub (a ver i : Nat)
 | ptr (a i j : Nat)
 | pti (a ver i k j : Nat)
 | rp (cs : List TV)
 | lt (els : List (List TV))
 | ag (cs : List TV)
 | tp (cs : List TV)
 | clo (g : Nat) (cs : List TV)
 | np (a : Nat)
instance : Inhabited TV := ⟨.u⟩
inductive VObj where
 | sq (c : Cs) (l : List c.den)
 | fm (c : Cs) (ver : Nat) (hole : Option Nat) (l : List (List c.den))
 | st (cs : List TV)
 | sb (s : ByteArray)
abbrev VEnv := List (Nat × TV)
abbrev YwG := List (Option VObj)
structure VSt where
 env : VEnv
 heap : YwG
def YwV : VEnv -> Nat -> TV
 | [], _ => .u
 | (n, v) :: r, t => bif Nat.beq n t then v else YwV r t
def vget : YwG -> Nat -> Option VObj
 | [], _ => none
 | o :: _, 0 => o
 | _ :: r, a + 1 => vget r a
def vset : YwG -> Nat -> Option VObj -> YwG
 | [], _, _ => []
 | _ :: r, 0, o => o :: r
 | p :: r, a + 1, o => p :: vset r a o
def getI (c : Cs) (l : List c.den) (i : Nat) : c.den := l.getD i c.dft
inductive K1 where
 | i (k : IntKind) (n : Int)
 | b (x : Bool)
 | s (x : ByteArray)
 | e (c : Cs)
 | v (x : Value)
inductive KC where
 | one (k : K1)
 | ag (l : List K1)
 | tp (l : List K1)
 | f (g : Nat)
 | v (x : Value)
inductive VOpd where
 | t (n : Nat)
 | c (k : KC)
def K1.tv : K1 -> TV
 | .i k n => .i k n
 | .b x => .b x
 | .s x => .s x
 | .e c => .e c
 | .v x => .v x
def KC.tv : KC -> TV
 | .one k => k.tv
 | .ag l => .ag (l.map K1.tv)
 | .tp l => .tp (l.map K1.tv)
 | .f g => .clo g []
 | .v x => .v x
def vo (env : VEnv) : VOpd -> TV
 | .t n => YwV env n
 | .c k => k.tv
def chk {β : Type} (p : Prop) [Decidable p] (x : Option β) : Option β := bif decide p then x else none
def asL (c c' : Cs) (l : List c.den) : Option (List c'.den) := (Ty.l c).cast (.l c') l
def tvOf : (t : Ty) -> t.den -> TV
 | .i k, n => .i k n
 | .b, x => .b x
 | .s, x => .s x
 | .l c, v => .l c v
def toD : (t : Ty) -> TV -> Option t.den
 | .i k, .i k' n => bif decide (k' = k) then some n else none
 | .b, .b x => some x
 | .s, .s x => some x
 | .l c, .l c' v => asL c' c v
 | .l c, .e c' => bif c'.eqb c then some [] else none
 | _, _ => none
def pack : (c : Cs) -> List TV -> Option c.den
 | .nil, [] => some ()
 | .cons t r, a :: as => match toD t a, pack r as with
   | some x, some y => some (mkP r x y)
   | _, _ => none
 | _, _ => none
def YxP (c : Cs) : List (List TV) -> Option (List c.den)
 | [] => some []
 | a :: r => match pack c a, YxP c r with
   | some x, some y => some (x :: y)
   | _, _ => none
def cells : (c : Cs) -> c.den -> List TV
 | .nil, _ => []
 | .cons t r, x => tvOf t (fstP r x) :: cells r (sndP r x)
def Cs.zcells : Cs -> List TV
 | .nil => []
 | .cons (.l c) r => .e c :: r.zcells
 | .cons t r => tvOf t t.dft :: r.zcells
def YwO (X : YwG) : TV -> Option (List TV)
 | .u | .tp _ | .lt _ | .sub _ _ _ | .pti _ _ _ _ _ => none
 | .v x => bif x.oneCell' then some [.v x] else none
 | .ag cs => some cs
 | .ref a => bif (vget X a).isSome then some [.ref a] else none
 | .pre a n => bif (vget X a).isSome then some [.pre a n] else none
 | .ptr a i j => bif (vget X a).isSome then some [.ptr a i j] else none
 | .np a => bif (vget X a).isSome then some [.np a] else none
 | a => some [a]
def K1.ok : K1 -> Bool
 | .v (.slice _ _ _) => false
 | _ => true
def spl (l : List TV) (j : Nat) (cs : List TV) : List TV := l.take j ++ cs ++ l.drop (j + cs.length)
def YxQ (g : Bool) (n : Nat) (cs : List TV) : Option TV :=
 match g with
 | true => bif Nat.ble n cs.length then some (.ag (cs.take n)) else none
 | false => cs[0]?
def Yyz (X : YwG) (l : List TV) (env : VEnv) : List (Nat × Nat × VOpd) -> Option (List TV)
 | [] => some l
 | (off, n, x) :: r => match YwO X (vo env x) with
   | some cs => bif Nat.beq cs.length n && Nat.ble (off + n) l.length then Yyz X (spl l off cs) env r else none
   | none => none
def Yx5 (X : YwG) (es : Nat) (l : List (List TV)) (env : VEnv) : List (Nat × VOpd) -> Option (List (List TV))
 | [] => some l
 | (i, x) :: r => match YwO X (vo env x) with
   | some cs => bif Nat.beq cs.length es && Nat.blt i l.length then Yx5 X es (l.set i cs) env r else none
   | none => none
section
variable {β : Type}
def vint (op : BinOp) (k : IntKind) (x y : Int) (K : TV -> Option β) : Option β :=
 match op with
 | .add => K (.i k (k.wrap (x + y)))
 | .sub => K (.i k (k.wrap (x - y)))
 | .mul => K (.i k (k.wrap (x * y)))
 | .quo => chk (y ≠ 0) (K (.i k (k.wrap (x.tdiv y))))
 | .rem => chk (y ≠ 0) (K (.i k (x.tmod y)))
 | .and => K (.i k (bits .and k x y))
 | .or => K (.i k (bits .or k x y))
 | .xor => K (.i k (bits .xor k x y))
 | .andNot => K (.i k (bits .andNot k x y))
 | .shl => chk (0 <= y) (K (.i k (k.wrap (x * 2 ^ (min y.toNat k.bits)))))
 | .shr => chk (0 <= y) (K (.i k (x.fdiv (2 ^ (min y.toNat k.bits)))))
 | .eql => K (.b (decide (x = y)))
 | .neq => K (.b (!decide (x = y)))
 | .lss => K (.b (decide (x < y)))
 | .leq => K (.b (decide (x <= y)))
 | .gtr => K (.b (decide (y < x)))
 | .geq => K (.b (decide (y <= x)))
def vstr (op : BinOp) (x y : ByteArray) (K : TV -> Option β) : Option β :=
 match op with
 | .add => chk (Nat.ble (x.size + y.size) 9223372036854775807 = true) (K (.s (x ++ y)))
 | .eql => K (.b (decide (x = y)))
 | .neq => K (.b (!decide (x = y)))
 | .lss => K (.b (Op.bytesLess x.toList y.toList))
 | .leq => K (.b (Op.bytesLess x.toList y.toList || decide (x = y)))
 | .gtr => K (.b (!(Op.bytesLess x.toList y.toList || decide (x = y))))
 | .geq => K (.b (!Op.bytesLess x.toList y.toList))
 | _ => none
def vbin (op : BinOp) (a b : TV) (K : TV -> Option β) : Option β :=
 match a, b with
 | .i k x, .i k' y => bif decide (k = k' \/ op = .shl \/ op = .shr) then vint op k x y K else none
 | .s x, .s y => vstr op x y K
 | _, _ => none
def eqV1 : Nat -> TV -> TV -> Option Bool
 | 0, .b a, .b b => some (a == b)
 | 1, .i k a, .i k' b => bif decide (k = k') then some (decide (a = b)) else none
 | 2, .s a, .s b => some (decide (a = b))
 | _, _, _ => none
def eqV : List Nat -> List TV -> List TV -> Option Bool
 | [], [], [] => some true
 | k :: ks, a :: as, b :: bs => match eqV1 k a b, eqV ks as bs with
   | some x, some y => some (x && y)
   | _, _ => none
 | _, _, _ => none
def mmV (mx : Bool) (k : IntKind) : Int -> List TV -> Option TV
 | m, [] => some (.i k m)
 | m, .i _ n :: r => mmV mx k (match mx with | true => max m n | false => min m n) r
 | _, _ => none
def kty : Option IntKind -> Ty
 | none => .s
 | some k => .i k
def keq : (o : Option IntKind) -> (kty o).den -> (kty o).den -> Bool
 | none => fun (a b : ByteArray) => decide (a = b)
 | some _ => fun (a b : Int) => decide (a = b)
abbrev mapC (o : Option IntKind) (t : Ty) (V : Cs) : Cs := .cons (.i .i64) (.cons (kty o) (.cons t V))
section
variable {κ ν : Type}
def mfd (eq : κ -> κ -> Bool) (k : κ) : List (Int × (κ × ν)) -> Option ν
 | [] => none
 | e :: r => bif eq k e.2.1 then some e.2.2 else mfd eq k r
def mpt (eq : κ -> κ -> Bool) (c : Int) (k : κ) (v : ν) : List (Int × (κ × ν)) -> List (Int × (κ × ν))
 | [] => [(c, (k, v))]
 | e :: r => bif eq k e.2.1 then (e.1, (k, v)) :: r else e :: mpt eq c k v r
def mdl (eq : κ -> κ -> Bool) (k : κ) : List (Int × (κ × ν)) -> List (Int × (κ × ν))
 | [] => []
 | e :: r => bif eq k e.2.1 then r else e :: mdl eq k r
def mck (eq : κ -> κ -> Bool) (c : Int) (k : κ) (l : List (Int × (κ × ν))) : Int := match mfd eq k l with | some _ => c | none => c + 1
def mgt (eq : κ -> κ -> Bool) (k : κ) (l : List (Int × (κ × ν))) (z : ν) : ν := match mfd eq k l with | some v => v | none => z
def mhs (eq : κ -> κ -> Bool) (k : κ) (l : List (Int × (κ × ν))) : Bool := match mfd eq k l with | some _ => true | none => false
def mbf (n : Int) : List (Int × (κ × ν)) -> Option (κ × ν)
 | [] => none
 | e :: r => bif decide (e.1 = n) then some e.2 else mbf n r
end
def mvT (ag : Bool) (V : Cs) (v : V.den) : TV :=
 match ag with
 | true => .ag (cells V v)
 | false => match cells V v with
   | [x] => x
   | _ => .u
def vmap (o : Option IntKind) (t : Ty) (V : Cs) (X : YwG) (x : TV) : Option (Nat × Int × List (mapC o t V).den × List TV) :=
 match x with
 | .np a => match vget X a with
   | some (.st (.i .i64 n :: .l c l :: tags)) => match asL c (mapC o t V) l with
     | some l => bif Nat.beq tags.length 1 || Nat.beq tags.length 2 then some (a, n, l, tags) else none
     | none => none
   | _ => none
 | _ => none
def knd (ag : Bool) : Nat := match ag with | true => 2 | false => 1
def knk (ag : Bool) (V : Cs) : Bool := match ag with | true => true | false => Nat.beq V.width 0
inductive VOp where
 | mkm (o : Option IntKind) (t : Ty) (V : Cs) (ag : Bool)
 | mget (o : Option IntKind) (t : Ty) (V : Cs) (ag ok : Bool) (m k : VOpd)
 | mput (o : Option IntKind) (t : Ty) (V : Cs) (ag : Bool) (m k v : VOpd)
 | mdel (o : Option IntKind) (t : Ty) (V : Cs) (m k : VOpd)
 | mlen (m : VOpd)
 | mrng (m : VOpd)
 | ment (o : Option IntKind) (t : Ty) (V : Cs) (ag : Bool) (it : VOpd)
 | mnxt (it : VOpd)
 | cpy (c : Cs) (d s : VOpd)
 | mm (mx : Bool) (xs : List VOpd)
 | emz (x lo hi mx : VOpd)
 | mv (x : VOpd)
 | pick (c a b : VOpd)
 | box (x : VOpd)
 | alloc (z : List K1)
 | build (z : List K1) (parts : List (Nat × Nat × VOpd))
 | bsl (c : Cs) (len : Nat) (parts : List (Nat × VOpd))
 | load (agg : Bool) (n : Nat) (x : VOpd)
 | loadR (agg : Bool) (n : Nat) (x : VOpd)
 | store (n : Nat) (x y : VOpd)
 | nilc (x : VOpd)
 | bin (op : BinOp) (x y : VOpd)
 | beq (neg : Bool) (x y : VOpd)
 | eqa (neg : Bool) (ks : List Nat) (x y : VOpd)
 | not (x : VOpd)
 | neg (x : VOpd)
 | conv (k : IntKind) (x : VOpd)
 | cvs (x : VOpd)
 | fad (off : Nat) (x : VOpd)
 | fld (agg : Bool) (off n : Nat) (x : VOpd)
 | iad (es : Nat) (x i : VOpd)
 | iada (es len : Nat) (x i : VOpd)
 | idx (x i : VOpd)
 | slcS (x : VOpd) (lo hi : Option VOpd)
 | slcR (es : Nat) (x : VOpd) (lo hi : Option VOpd)
 | ext (x : VOpd) (i : Nat)
 | len (x : VOpd)
 | lenS (x : VOpd)
 | app (c : Cs) (w : Nat) (s x : VOpd)
 | mksl (c : Cs) (w : Nat) (n cp : VOpd)
 | call (f : Nat) (args : List VOpd)
 | dyn (x : VOpd) (args : List VOpd)
 | dynP (x : VOpd) (args : List VOpd)
 | callN (g : Nat) (args : List VOpd)
 | mkf (f : Nat) (caps : List VOpd)
 | lit (c : Cs) (xs : List VOpd)
 | appD (c : Cs) (s x : VOpd)
 | apps (s x : VOpd)
 | bstr (x : VOpd)
 | bld
 | sbyt (x : VOpd)
 | appb (s x : VOpd)
 | appDb (s x : VOpd)
 | litb (xs : List VOpd)
 | add64 (xs : List VOpd)
 | sub64 (xs : List VOpd)
abbrev U8 : Cs := .cons (.i .u8) .nil
def strL (s : ByteArray) : List Int := s.toList.map fun b => (b.toNat : Int)
def YwQ (l : List Int) : ByteArray := ⟨(l.map fun n => UInt8.ofNat n.toNat).toArray⟩
def Yxh (X : YwG) : List TV -> Option (List (List TV))
 | [] => some []
 | a :: r => match YwO X a, Yxh X r with
   | some cs, some l => some (cs :: l)
   | _, _ => none
def YwK (s : ByteArray) (n : Int) : Int := ((s.data.getD n.toNat 0).toNat : Nat)
def srcV (c : Cs) : TV -> Option (List c.den)
 | .l c' v => asL c' c v
 | .e _ => some []
 | .lt els => YxP c els
 | _ => none
def lenO : VObj -> Option Nat
 | .sq _ l => some l.length
 | .fm _ _ _ l => some l.length
 | .st _ => none
 | .sb s => some s.size
def vsb (env : VEnv) (o : Option VOpd) (d : Int) : Option Int :=
 match o with
 | none => some d
 | some x => match vo env x with
   | .i _ n => some n
   | _ => none
def YyN (g : Bool) (n : Nat) (x : TV) (X : YwG) (K : TV -> YwG -> Option β) : Option β :=
 match x with
 | .rp cs => match YxQ g n cs with | some a => K a X | none => none
 | .ptr a i j => match vget X a with
   | some (.sq c l) => match YxQ g n ((cells c (getI c l i)).drop j) with | some a => K a X | none => none
   | some (.st cs) => bif Nat.beq i 0 then match YxQ g n (cs.drop j) with | some a => K a X | none => none else none
   | some (.fm _ ver hole _) => match g, j, n, hole with
     | false, 0, 1, none => K (.sub a ver i) X
     | _, _, _, _ => none
   | some (.sb s) => match g, j with
     | false, 0 => K (.i .u8 (YwK s i)) X
     | _, _ => none
   | none => none
 | .pti a ver i k j => match vget X a with
   | some (.fm c ver' none l) => bif Nat.beq ver ver' then match YxQ g n ((cells c (getI c (l.getD i []) k)).drop j) with | some a => K a X | none => none else none
   | _ => none
 | _ => none
def YyA (n : Nat) (x y : TV) (X : YwG) (K : TV -> YwG -> Option β) : Option β :=
 match x with
 | .ptr a i j => match vget X a with
   | some (.sq c l) => match YwO X y with
     | some cs => bif Nat.beq cs.length n && Nat.ble (j + n) c.width then match pack c (spl (cells c (getI c l i)) j cs) with
       | some e => K .u (vset X a (some (.sq c (l.set i e))))
       | none => none
       else none
     | none => none
   | some (.st ds) => match YwO X y with
     | some cs => bif Nat.beq i 0 && Nat.beq cs.length n && Nat.ble (j + n) ds.length then K .u (vset X a (some (.st (spl ds j cs)))) else none
     | none => none
   | some (.fm c ver hole l) => bif Nat.beq j 0 && Nat.beq n 1 then match y with
     | .ref m => bif Nat.beq m a then none else match vget X m with
       | some (.sq c' lm) => match asL c' c lm with
         | some lm' => match hole with
           | none => K .u (vset (vset X m none) a (some (.fm c (ver + 1) none (l.set i lm'))))
           | some h => chk (h = i) (K .u (vset (vset X m none) a (some (.fm c (ver + 1) none (l.set i lm')))))
         | none => none
       | _ => none
     | _ => none
     else none
   | some (.sb _) => none
   | none => none
 | .pti a ver i k j => match vget X a with
   | some (.fm c ver' none l) => match YwO X y with
     | some cs => bif Nat.beq ver ver' && Nat.beq cs.length n && Nat.ble (j + n) c.width then match pack c (spl (cells c (getI c (l.getD i []) k)) j cs) with
       | some e => K .u (vset X a (some (.fm c ver none (l.set i ((l.getD i []).set k e)))))
       | none => none
       else none
     | none => none
   | _ => none
 | _ => none
def viad (es : Nat) (x i : TV) (X : YwG) (K : TV -> YwG -> Option β) : Option β :=
 match i with
 | .i _ n => match x with
   | .l c v => bif Nat.beq c.width es then chk (0 <= n /\ n < (v.length : Int)) (K (.rp (cells c (getI c v n.toNat))) X) else none
   | .ref a => match vget X a with
     | some (.sq c l) => bif Nat.beq c.width es then chk (0 <= n /\ n < (l.length : Int)) (K (.ptr a n.toNat 0) X) else none
     | some (.fm _ _ _ l) => bif Nat.beq es 1 then chk (0 <= n /\ n < (l.length : Int)) (K (.ptr a n.toNat 0) X) else none
     | some (.sb s) => bif Nat.beq es 1 then chk (0 <= n /\ n < (s.size : Int)) (K (.ptr a n.toNat 0) X) else none
     | _ => none
   | .pre a m => match vget X a with
     | some (.sq c l) => bif Nat.beq c.width es then chk (0 <= n /\ n < m) (K (.ptr a n.toNat 0) X) else none
     | _ => none
   | .sub a ver i => match vget X a with
     | some (.fm c ver' none l) => bif Nat.beq c.width es && Nat.beq ver ver' then chk (0 <= n /\ n < ((l.getD i []).length : Int)) (K (.pti a ver i n.toNat 0) X) else none
     | _ => none
   | _ => none
 | _ => none
def vlen (x : TV) (X : YwG) (K : TV -> YwG -> Option β) : Option β :=
 match x with
 | .l _ v => K (.i .i64 (v.length : Nat)) X
 | .e _ => K (.i .i64 0) X
 | .lt els => K (.i .i64 (els.length : Nat)) X
 | .ref a => match vget X a with
   | some (.sq _ l) => K (.i .i64 (l.length : Nat)) X
   | some (.fm _ _ _ l) => K (.i .i64 (l.length : Nat)) X
   | some (.sb s) => K (.i .i64 (s.size : Nat)) X
   | _ => none
 | .pre a m => match vget X a with
   | some (.sq _ _) => K (.i .i64 m) X
   | _ => none
 | .sub a ver i => match vget X a with
   | some (.fm _ ver' none l) => bif Nat.beq ver ver' then K (.i .i64 ((l.getD i []).length : Nat)) X else none
   | _ => none
 | _ => none
def vapp (c : Cs) (w : Nat) (s x : TV) (X : YwG) (K : TV -> YwG -> Option β) : Option β :=
 match s with
 | .ref a => match vget X a with
   | some (.sq c' l) => match srcV c' x with
     | some m => bif Nat.beq c.width c'.width then chk (l.length + m.length <= maxEl) (K (.ref X.length) (vset X a none ++ [some (.sq c' (l ++ m))])) else none
     | none => none
   | some (.fm c' _ none l) => match x with
     | .lt [[.ref m]] => bif Nat.beq m a || !(Nat.beq c.width 1) then none else match vget X m with
       | some (.sq c2 lm) => match asL c2 c' lm with
         | some lm' => chk (l.length + 1 <= maxEl) (K (.ref X.length) (vset (vset X m none) a none ++ [some (.fm c' 0 none (l ++ [lm']))]))
         | none => none
       | _ => none
     | _ => none
   | _ => none
 | .e _ => match w with
   | 0 => bif Nat.blt 0 c.width then match srcV c x with
     | some m => chk (m.length <= maxEl) (K (.ref X.length) (X ++ [some (.sq c m)]))
     | none => none
     else none
   | 1 => none
   | _ => match c, x with
     | .cons (.l c') .nil, .lt [[.ref m]] => match vget X m with
       | some (.sq c2 lm) => match asL c2 c' lm with
         | some lm' => K (.ref X.length) (vset X m none ++ [some (.fm c' 0 none [lm'])])
         | none => none
       | _ => none
     | _, _ => none
 | .sub a ver i => match vget X a with
   | some (.fm c' ver' none l) => match srcV c' x with
     | some m => bif Nat.beq c.width c'.width && Nat.beq ver ver' then chk ((l.getD i []).length + m.length <= maxEl) (K (.ref X.length) (vset X a (some (.fm c' ver (some i) l)) ++ [some (.sq c' (l.getD i [] ++ m))])) else none
     | none => none
   | _ => none
 | _ => none
def Yzc (c : Cs) (s x : TV) (X : YwG) (K : TV -> YwG -> Option β) : Option β :=
 match s with
 | .e _ => match srcV c x with
   | some m => chk (m.length <= maxEl) (K (.l c m) X)
   | none => none
 | .ref a => match vget X a with
   | some (.sq c' l) => match srcV c' x with
     | some m => bif Nat.beq c.width c'.width then chk (l.length + m.length <= maxEl) (K (.l c' (l ++ m)) (vset X a none)) else none
     | none => none
   | _ => none
 | _ => none
def asB (c : Cs) (l : List c.den) : Option (List Int) := asL c U8 l
def Yzw (s : TV) (b : ByteArray) (X : YwG) (K : TV -> YwG -> Option β) : Option β :=
 match s with
 | .e _ => chk (0 < b.size /\ b.size <= maxEl) (K (.ref X.length) (X ++ [some (.sb b)]))
 | .ref a => match vget X a with
   | some (.sb s) => chk (s.size + b.size <= maxEl) (K (.ref X.length) (vset X a none ++ [some (.sb (s ++ b))]))
   | _ => none
 | _ => none
def inB (l : List Int) : Bool := l.all fun n => decide (0 <= n) && decide (n < 256)
def srcB (x : TV) : Option (List Int) := srcV U8 x
def Yzd (s x : TV) (X : YwG) (K : TV -> YwG -> Option β) : Option β :=
 match srcB x with
 | some m => bif inB m then match s with
   | .e _ => chk (0 < m.length /\ m.length <= maxEl) (K (.ref X.length) (X ++ [some (.sb (YwQ m))]))
   | .ref a => match vget X a with
     | some (.sb s) => chk (s.size + m.length <= maxEl) (K (.ref X.length) (vset X a none ++ [some (.sb (s ++ YwQ m))]))
     | _ => none
   | _ => none
   else none
 | none => none
def YyB (s x : TV) (X : YwG) (K : TV -> YwG -> Option β) : Option β :=
 match srcB x with
 | some m => match s with
   | .e _ => chk (0 < m.length /\ m.length <= maxEl) (K (.l U8 m) X)
   | .ref a => match vget X a with
     | some (.sb s) => chk (s.size + m.length <= maxEl) (K (.l U8 (strL s ++ m)) (vset X a none))
     | _ => none
   | _ => none
 | none => none
def Yze (x : TV) (X : YwG) (K : TV -> YwG -> Option β) : Option β :=
 match x with
 | .e _ => K (.s (ByteArray.mk #[])) X
 | .l c v => match asB c v with
   | some l => K (.s (YwQ l)) X
   | none => none
 | .ref a => match vget X a with
   | some (.sq c' l) => match asB c' l with
     | some l => K (.s (YwQ l)) X
     | none => none
   | some (.sb s) => K (.s s) X
   | _ => none
 | _ => none
def I64 : Cs := .cons (.i .i64) .nil
def vres (ok : Bool) (v : TV) (is : Bool) (X : YwG) (K : TV -> YwG -> Option β) : Option β :=
 match ok with
 | true => K (.tp [v, .b is]) X
 | false => K v X
def Yzf (o : Option IntKind) (t : Ty) (V : Cs) (ag ok : Bool) (m k : TV) (X : YwG) (K : TV -> YwG -> Option β) : Option β :=
 match vmap o t V X m, toD (kty o) k with
 | some (_, _, l, tags), some k => bif Nat.beq tags.length (knd ag) && knk ag V then
   vres ok (mvT ag (.cons t V) (mgt (keq o) k l (Cs.cons t V).dft)) (mhs (keq o) k l) X K
   else none
 | _, _ => none
def isAg : TV -> Bool
 | .ag _ => true
 | _ => false
def Yzg (o : Option IntKind) (t : Ty) (V : Cs) (ag : Bool) (m k v : TV) (X : YwG) (K : TV -> YwG -> Option β) : Option β :=
 match vmap o t V X m, toD (kty o) k with
 | some (a, n, l, tags), some k => bif Nat.beq tags.length (knd ag) && ((isAg v == ag) && knk ag V) then (match YwO X v with
   | some cs => match pack (.cons t V) cs with
     | some d => K .u (vset X a (some (.st (.i .i64 (mck (keq o) n k l) :: .l (mapC o t V) (mpt (keq o) n k d l) :: tags))))
     | none => none
   | none => none) else none
 | _, _ => none
def Yzh (o : Option IntKind) (t : Ty) (V : Cs) (m k : TV) (X : YwG) (K : TV -> YwG -> Option β) : Option β :=
 match vmap o t V X m, toD (kty o) k with
 | some (a, n, l, tags), some k => K .u (vset X a (some (.st (.i .i64 n :: .l (mapC o t V) (mdl (keq o) k l) :: tags))))
 | _, _ => none
def Yzi (o : Option IntKind) (t : Ty) (V : Cs) (ag : Bool) (it : TV) (X : YwG) (K : TV -> YwG -> Option β) : Option β :=
 match it with
 | .np i => match vget X i with
   | some (.st [.np a, .i .i64 _, .i .i64 tm, .l c seen, _]) => match vmap o t V X (.np a), asL c I64 seen with
     | some (_, n, l, tags), some seen => bif Nat.beq tags.length (knd ag) && knk ag V then chk (tm = n) (match seen.getLast? with
       | some b => match mbf b l with
         | some e => K (.tp [tvOf (kty o) e.1, mvT ag (.cons t V) e.2]) X
         | none => none
       | none => none) else none
     | _, _ => none
   | _ => none
 | _ => none
def vG (op : VOp) (env : VEnv) (X : YwG) (K : TV -> YwG -> Option β) : Option β :=
 match op with
 | .mkm o t V ag => K (.np X.length) (X ++ [some (.st (.i .i64 0 :: .l (mapC o t V) [] :: List.replicate (knd ag) (.b false)))])
 | .mget o t V ag ok m k => Yzf o t V ag ok (vo env m) (vo env k) X K
 | .mput o t V ag m k v => Yzg o t V ag (vo env m) (vo env k) (vo env v) X K
 | .mdel o t V m k => Yzh o t V (vo env m) (vo env k) X K
 | .mlen m => match vo env m with
   | .np a => match vget X a with
     | some (.st (.i .i64 _ :: .l _ l :: tags)) => bif Nat.beq tags.length 1 || Nat.beq tags.length 2 then K (.i .i64 (l.length : Nat)) X else none
     | _ => none
   | _ => none
 | .mrng m => match vo env m with
   | .np a => match vget X a with
     | some (.st (.i .i64 n :: .l _ _ :: tags)) => bif Nat.beq tags.length 1 || Nat.beq tags.length 2 then K (.np X.length) (X ++ [some (.st [.np a, .i .i64 n, .i .i64 n, .l I64 [], .b false])]) else none
     | _ => none
   | _ => none
 | .ment o t V ag it => Yzi o t V ag (vo env it) X K
 | .mnxt _ => none
 | .cpy c d s => match vo env d with
   | .ref a => match vget X a with
     | some (.sq c' l) => match srcV c (vo env s) with
       | some m => match asL c c' m with
         | some m => bif Nat.blt 0 c.width then K (.i .i64 ((min m.length l.length : Nat) : Int)) (vset X a (some (.sq c' (m.take (min m.length l.length) ++ l.drop (min m.length l.length))))) else none
         | none => none
       | none => none
     | _ => none
   | _ => none
 | .mm mx xs => match xs.map (vo env) with
   | .i k m :: r => match mmV mx k m r with | some v => K v X | none => none
   | _ => none
 | .emz x lo hi mx => match vo env lo, vo env hi, vo env mx with
   | .i _ l, .i _ h, .i _ m => chk (l = 0 /\ h = 0 /\ m = 0) (match vo env x with
     | .l c _ => K (.e c) X
     | .e c => K (.e c) X
     | _ => none)
   | _, _, _ => none
 | .mv x => K (vo env x) X
 | .pick c a b => match vo env c with
   | .b t => bif t then K (vo env a) X else K (vo env b) X
   | _ => none
 | .box x => match YwO X (vo env x) with
   | some (c :: cs) => bif Nat.ble (cs.length + 1) 1000 then K (.ptr X.length 0 0) (X ++ [some (.st (c :: cs))]) else none
   | _ => none
 | .alloc z => bif z.all K1.ok && Nat.blt 0 z.length then K (.ptr X.length 0 0) (X ++ [some (.st (z.map K1.tv))]) else none
 | .build z parts => bif z.all K1.ok then match Yyz X (z.map K1.tv) env parts with
   | some cs => K (.ag cs) X
   | none => none
   else none
 | .bsl c n parts => bif Nat.blt 0 c.width then match Yx5 X c.width (List.replicate n c.zcells) env parts with
   | some [] => K (.e c) X
   | some (e :: els) => match YxP c (e :: els) with
     | some l => K (.l c l) X
     | none => K (.lt (e :: els)) X
   | none => none
   else none
 | .load g n x => YyN g n (vo env x) X K
 | .loadR g n x => match vo env x with
   | .rp cs => match YxQ g n cs with | some a => K a X | none => none
   | _ => none
 | .store n x y => YyA n (vo env x) (vo env y) X K
 | .nilc x => match vo env x with
   | .rp cs => K (.rp cs) X
   | .ptr a i j => bif (vget X a).isSome then K (.ptr a i j) X else none
   | .pti a ver i k j => match vget X a with | some (.fm _ ver' none _) => bif Nat.beq ver ver' then K (.pti a ver i k j) X else none | _ => none
   | .clo f cs => K (.clo f cs) X
   | _ => none
 | .bin op x y => vbin op (vo env x) (vo env y) fun r => K r X
 | .beq ng x y => match vo env x, vo env y with
   | .b s, .b t => K (.b (match ng with | true => !(s == t) | false => s == t)) X
   | _, _ => none
 | .eqa ng ks x y => match vo env x, vo env y with
   | .ag cs, .ag ds => match eqV ks cs ds with | some r => K (.b (match ng with | true => !r | false => r)) X | none => none
   | _, _ => none
 | .not x => match vo env x with
   | .b b => K (.b (!b)) X
   | _ => none
 | .neg x => match vo env x with
   | .i k n => K (.i k (k.wrap (0 - n))) X
   | _ => none
 | .conv k x => match vo env x with
   | .i _ n => K (.i k (k.wrap n)) X
   | _ => none
 | .cvs x => match vo env x with
   | .s s => K (.s s) X
   | _ => none
 | .fad off x => match vo env x with
   | .rp cs => K (.rp (cs.drop off)) X
   | .ptr a i j => bif (vget X a).isSome then K (.ptr a i (j + off)) X else none
   | .pti a ver i k j => match vget X a with | some (.fm _ ver' none _) => bif Nat.beq ver ver' then K (.pti a ver i k (j + off)) X else none | _ => none
   | _ => none
 | .fld g off n x => match vo env x with
   | .ag cs => bif Nat.ble off cs.length then match YxQ g n (cs.drop off) with | some a => K a X | none => none else none
   | _ => none
 | .iad es x i => viad es (vo env x) (vo env i) X K
 | .iada _ _ _ _ => none
 | .idx x i => match vo env x, vo env i with
   | .s s, .i _ n => chk (0 <= n /\ n < (s.size : Int)) (K (.i .u8 (YwK s n)) X)
   | _, _ => none
 | .slcS x lo hi => match vo env x with
   | .s s => match vsb env lo 0, vsb env hi s.size with
     | some l, some h => chk (0 <= l /\ l <= h /\ h <= (s.size : Int)) (K (.s (s.extract l.toNat h.toNat)) X)
     | _, _ => none
   | _ => none
 | .slcR es0 x lo hi => match vo env x with
   | .l c v => bif Nat.beq c.width es0 then match vsb env lo 0, vsb env hi v.length with
     | some l, some h => chk (0 <= l /\ l <= h /\ h <= (v.length : Int)) (K (.l c ((v.take h.toNat).drop l.toNat)) X)
     | _, _ => none
     else none
   | .e c => match vsb env lo 0, vsb env hi 0 with
     | some l, some h => chk (l = 0 /\ h = 0) (K (.e c) X)
     | _, _ => none
   | .ref a => match vget X a with
     | some (.sq _ l) => match vsb env lo 0, hi with
       | some lo, none => chk (lo = 0) (K (.ref a) X)
       | some lo, some hi => match vo env hi with
         | .i _ h => chk (lo = 0 /\ 0 <= h /\ h <= (l.length : Int)) (K (.pre a h) X)
         | _ => none
       | _, _ => none
     | _ => none
   | .pre a m => match vget X a with
     | some (.sq _ _) => match vsb env lo 0, vsb env hi m with
       | some lo, some h => chk (lo = 0 /\ 0 <= h /\ h <= m) (K (.pre a h) X)
       | _, _ => none
     | _ => none
   | _ => none
 | .ext x i => match vo env x with
   | .tp l => match l[i]? with | some b => K b X | none => none
   | _ => none
 | .lenS x => match vo env x with
   | .s s => K (.i .i64 (s.size : Nat)) X
   | _ => none
 | .len x => vlen (vo env x) X K
 | .app c w s x => vapp c w (vo env s) (vo env x) X K
 | .mksl c w n cp => match vo env n, vo env cp with
   | .i _ n, .i _ cp => chk (0 <= n /\ n <= cp /\ cp <= (maxEl : Nat)) (match w, c with
     | 2, .cons (.l c') .nil => bif Nat.blt 0 c'.width then K (.ref X.length) (X ++ [some (.fm c' 0 none (List.replicate n.toNat []))]) else none
     | 0, c => bif Nat.blt 0 c.width then K (.ref X.length) (X ++ [some (.sq c (List.replicate n.toNat c.dft))]) else none
     | _, _ => none)
   | _, _ => none
 | .mkf f caps => K (.clo f (caps.map (vo env))) X
 | .lit c xs => match Yxh X (xs.map (vo env)) with
   | some (e :: els) => bif Nat.blt 0 c.width && Nat.ble (els.length + 1) 1000000 then match YxP c (e :: els) with
     | some l => K (.ref X.length) (X ++ [some (.sq c l)])
     | none => none
     else none
   | _ => none
 | .appD c s x => bif Nat.blt 0 c.width then Yzc c (vo env s) (vo env x) X K else none
 | .apps s x => match vo env x with
   | .s b => Yzw (vo env s) b X K
   | _ => none
 | .bstr x => Yze (vo env x) X K
 | .appb s x => Yzd (vo env s) (vo env x) X K
 | .appDb s x => YyB (vo env s) (vo env x) X K
 | .litb xs => match Yxh X (xs.map (vo env)) with
   | some (e :: els) => bif Nat.ble (els.length + 1) 1000000 then match YxP U8 (e :: els) with
     | some l => bif inB l then K (.ref X.length) (X ++ [some (.sb (YwQ l))]) else none
     | none => none
     else none
   | _ => none
 | .bld => K (.ptr X.length 0 0) (X ++ [some (.st [.np X.length, .v (.slice none 0 0)])])
 | .sbyt x => match vo env x with
   | .s b => K (.l U8 (strL b)) X
   | _ => none
 | .add64 xs => match xs.map (vo env) with
   | [.i .u64 x, .i .u64 y, .i .u64 c] => chk (c.toNat <= 1) (K (.tp [.i .u64 (YxA x y c).1, .i .u64 (YxA x y c).2]) X)
   | _ => none
 | .sub64 xs => match xs.map (vo env) with
   | [.i .u64 x, .i .u64 y, .i .u64 c] => chk (c.toNat <= 1) (K (.tp [.i .u64 (YxB x y c).1, .i .u64 (YxB x y c).2]) X)
   | _ => none
 | .call _ _ => none
 | .dyn _ _ => none
 | .dynP _ _ => none
 | .callN _ _ => none
end
end Go.Abs
namespace Go.Abs
open Go Go.RowKit
structure Lf where
 t : Ty
 v : t.den
inductive SV where
 | i (k : IntKind)
 | b
 | s
 | l (c : Cs)
 | u
 | e (c : Cs)
 | ref (a : Nat)
 | pre (a : Nat)
 | ptr (a i j : Nat)
 | ag (l : List SV)
 | tp (l : List SV)
 | clo (g : Nat) (l : List SV)
 | np (a : Nat)
inductive SO where
 | sq (c : Cs)
 | fm (c : Cs)
 | st (l : List SV)
 | dd
 | sb
mutual
def SV.eqb : SV -> SV -> Bool
 | .i k, .i k' => decide (k = k')
 | .b, .b => true
 | .s, .s => true
 | .l c, .l c' => c.eqb c'
 | .u, .u => true
 | .e c, .e c' => c.eqb c'
 | .ref a, .ref a' => Nat.beq a a'
 | .pre a, .pre a' => Nat.beq a a'
 | .ptr a p q, .ptr a' p' q' => Nat.beq a a' && Nat.beq p p' && Nat.beq q q'
 | .ag x, .ag x' => SV.eqbs x x'
 | .tp x, .tp x' => SV.eqbs x x'
 | .clo g x, .clo g' x' => Nat.beq g g' && SV.eqbs x x'
 | .np a, .np a' => Nat.beq a a'
 | _, _ => false
def SV.eqbs : List SV -> List SV -> Bool
 | [], [] => true
 | a :: r, a' :: r' => a.eqb a' && SV.eqbs r r'
 | _, _ => false
end
def SO.eqb : SO -> SO -> Bool
 | .sq c, .sq c' => c.eqb c'
 | .fm c, .fm c' => c.eqb c'
 | .st l, .st l' => SV.eqbs l l'
 | .dd, .dd => true
 | .sb, .sb => true
 | _, _ => false
def SO.eqbs : List SO -> List SO -> Bool
 | [], [] => true
 | a :: r, a' :: r' => a.eqb a' && SO.eqbs r r'
 | _, _ => false
mutual
def TV.sh : TV -> Option SV
 | .i k _ => some (.i k)
 | .b _ => some .b
 | .s _ => some .s
 | .l c _ => some (.l c)
 | .u => some .u
 | .e c => some (.e c)
 | .ref a => some (.ref a)
 | .pre a _ => some (.pre a)
 | .ptr a p q => some (.ptr a p q)
 | .np a => some (.np a)
 | .ag x => match TV.shs x with | some y => some (.ag y) | none => none
 | .tp x => match TV.shs x with | some y => some (.tp y) | none => none
 | .clo g x => match TV.shs x with | some y => some (.clo g y) | none => none
 | _ => none
def TV.shs : List TV -> Option (List SV)
 | [] => some []
 | a :: r => match a.sh, TV.shs r with
   | some x, some xs => some (x :: xs)
   | _, _ => none
end
mutual
def TV.lv : TV -> List Lf
 | .i k n => [⟨.i k, n⟩]
 | .b x => [⟨.b, x⟩]
 | .s x => [⟨.s, x⟩]
 | .l c w => [⟨.l c, w⟩]
 | .pre _ n => [⟨.i .i64, n⟩]
 | .ag y => TV.lvs y
 | .tp y => TV.lvs y
 | .clo _ y => TV.lvs y
 | _ => []
def TV.lvs : List TV -> List Lf
 | [] => []
 | a :: r => a.lv ++ TV.lvs r
end
def VObj.sh : VObj -> Option SO
 | .sq c _ => some (.sq c)
 | .fm c ver none _ => bif Nat.beq ver 0 then some (.fm c) else none
 | .fm _ _ (some _) _ => none
 | .st cs => match TV.shs cs with | some l => some (.st l) | none => none
 | .sb _ => some .sb
def VObj.lv : VObj -> List Lf
 | .sq c l => [⟨.l c, l⟩]
 | .fm c _ _ l => [⟨.l (.cons (.l c) .nil), l⟩]
 | .st cs => TV.lvs cs
 | .sb s => [⟨.s, s⟩]
def Yxs : List Lf -> (c : Cs) × c.den
 | [] => ⟨.nil, ()⟩
 | a :: r => match Yxs r with
   | ⟨c, x⟩ => ⟨.cons a.t c, mkP c a.v x⟩
def unp : (c : Cs) -> c.den -> List Lf
 | .nil, _ => []
 | .cons t r, x => ⟨t, fstP r x⟩ :: unp r (sndP r x)
mutual
def YwP : SV -> List Lf -> Option (TV × List Lf)
 | .i k, ⟨.i k', n⟩ :: r => bif decide (k = k') then some (.i k n, r) else none
 | .b, ⟨.b, x⟩ :: r => some (.b x, r)
 | .s, ⟨.s, x⟩ :: r => some (.s x, r)
 | .l c, ⟨.l c', v⟩ :: r => match asL c' c v with | some v => some (.l c v, r) | none => none
 | .u, r => some (.u, r)
 | .e c, r => some (.e c, r)
 | .ref a, r => some (.ref a, r)
 | .pre a, ⟨.i .i64, n⟩ :: r => some (.pre a n, r)
 | .ptr a i j, r => some (.ptr a i j, r)
 | .np a, r => some (.np a, r)
 | .ag l, r => match YwZ l r with | some (l, r) => some (.ag l, r) | none => none
 | .tp l, r => match YwZ l r with | some (l, r) => some (.tp l, r) | none => none
 | .clo g l, r => match YwZ l r with | some (l, r) => some (.clo g l, r) | none => none
 | _, _ => none
def YwZ : List SV -> List Lf -> Option (List TV × List Lf)
 | [], r => some ([], r)
 | a :: as, r => match YwP a r with
   | some (x, r) => match YwZ as r with
     | some (xs, r) => some (x :: xs, r)
     | none => none
   | none => none
end
def Yxt : SO -> List Lf -> Option (VObj × List Lf)
 | .sq c, ⟨.l c', v⟩ :: r => match asL c' c v with | some v => some (.sq c v, r) | none => none
 | .fm c, ⟨.l (.cons (.l c') .nil), v⟩ :: r => match asL (.cons (.l c') .nil) (.cons (.l c) .nil) v with | some v => some (.fm c 0 none v, r) | none => none
 | .st l, r => match YwZ l r with | some (l, r) => some (.st l, r) | none => none
 | .sb, ⟨.s, x⟩ :: r => some (.sb x, r)
 | _, _ => none
def YwX : List SO -> List Lf -> Option (YwG × List Lf)
 | [], r => some ([], r)
 | .dd :: as, r => match YwX as r with
   | some (xs, r) => some (none :: xs, r)
   | none => none
 | a :: as, r => match Yxt a r with
   | some (x, r) => match YwX as r with
     | some (xs, r) => some (some x :: xs, r)
     | none => none
   | none => none
structure Sg where
 ts : List Nat
 vs : List SV
 os : List SO
 c : Cs
def zipE : List Nat -> List TV -> VEnv
 | t :: ts, v :: vs => (t, v) :: zipE ts vs
 | _, _ => []
def Sg.fill (g : Sg) (x : g.c.den) : Option VSt :=
 match YwZ g.vs (unp g.c x) with
 | some (vs, r) => match YwX g.os r with
   | some (X, []) => some ⟨zipE g.ts vs, X⟩
   | _ => none
 | none => none
def shOs : YwG -> Option (List SO)
 | [] => some []
 | some o :: r => match o.sh, shOs r with
   | some x, some xs => some (x :: xs)
   | _, _ => none
 | none :: r => match shOs r with
   | some xs => some (.dd :: xs)
   | none => none
def lvOs : YwG -> List Lf
 | [] => []
 | some o :: r => o.lv ++ lvOs r
 | none :: r => lvOs r
def Sg.read (g : Sg) (vs : List TV) (X : YwG) : Option g.c.den :=
 match TV.shs vs, shOs X with
 | some svs, some sos => bif SV.eqbs svs g.vs && SO.eqbs sos g.os then
   match Yxs (TV.lvs vs ++ lvOs X) with
   | ⟨c, x⟩ => c.cast g.c x
   else none
 | _, _ => none
mutual
def TV.ids : TV -> List Nat
 | .ref a => [a]
 | .pre a _ => [a]
 | .ptr a _ _ => [a]
 | .np a => [a]
 | .ag y => TV.idss y
 | .tp y => TV.idss y
 | .clo _ y => TV.idss y
 | _ => []
def TV.idss : List TV -> List Nat
 | [] => []
 | a :: r => a.ids ++ TV.idss r
end
mutual
def TV.ren (r : Nat -> Option Nat) : TV -> TV
 | .ref a => match r a with | some q => .ref q | none => .u
 | .pre a n => match r a with | some q => .pre q n | none => .u
 | .ptr a x y => match r a with | some q => .ptr q x y | none => .u
 | .np a => match r a with | some q => .np q | none => .u
 | .e c => .e c
 | .sub _ _ _ => .u
 | .pti _ _ _ _ _ => .u
 | .rp _ => .u
 | .lt _ => .u
 | .v _ => .u
 | .ag y => .ag (TV.rens r y)
 | .tp y => .tp (TV.rens r y)
 | .clo g y => .clo g (TV.rens r y)
 | .i k n => .i k n
 | .b x => .b x
 | .s x => .s x
 | .l c x => .l c x
 | .u => .u
def TV.rens (r : Nat -> Option Nat) : List TV -> List TV
 | [] => []
 | a :: y => a.ren r :: TV.rens r y
end
def VObj.ids : Option VObj -> List Nat
 | some (.st cs) => TV.idss cs
 | _ => []
def VObj.ren (r : Nat -> Option Nat) : VObj -> VObj
 | .sq c l => .sq c l
 | .fm c _ h l => .fm c 0 h l
 | .st cs => .st (TV.rens r cs)
 | .sb s => .sb s
def YwU (X : YwG) : List Nat -> List Nat -> List Nat
 | m, [] => m
 | m, a :: r => bif (vget X a).isSome && !(m.any (Nat.beq a)) then YwU X (m ++ [a]) r else YwU X m r
def Yw2 (X : YwG) : Nat -> List Nat -> List Nat
 | 0, m => m
 | d + 1, m => match YwU X m (m.flatMap fun a => VObj.ids (vget X a)) with
   | m' => bif Nat.beq m'.length m.length then m else Yw2 X d m'
def idxV : List Nat -> Nat -> Nat -> Option Nat
 | [], _, _ => none
 | x :: r, a, i => bif Nat.beq x a then some i else idxV r a (i + 1)
def rnM (a n : Nat) : List Nat := (List.range n).map (fun b => bif Nat.beq b a then n else b) ++ [a]
def rnV (a : Nat) (s : VSt) : VSt := match rnM a s.heap.length with
 | m => ⟨s.env.map fun p => (p.1, p.2.ren fun b => idxV m b 0), m.map fun b => (vget s.heap b).map (VObj.ren fun b => idxV m b 0)⟩
def ownV : List (Nat × Option Nat × Bool) -> VSt -> VSt
 | [], s => s
 | (t, none, w) :: r, s => match w, YwV s.env t with
   | false, .e c => bif Nat.blt 0 c.width then ownV r ⟨(t, .ref s.heap.length) :: s.env, s.heap ++ [some (.sq c [])]⟩ else ownV r s
   | true, .e (.cons (.l c) .nil) => bif Nat.blt 0 c.width then ownV r ⟨(t, .ref s.heap.length) :: s.env, s.heap ++ [some (.fm c 0 none [])]⟩ else ownV r s
   | _, _ => ownV r s
 | (t, some j, w) :: r, s => match YwV s.env t with
   | .ptr a _ _ => match vget s.heap a with
     | some (.st cs) => match w, cs[j]? with
       | false, some (.e c) => bif Nat.blt 0 c.width then ownV r ⟨s.env, vset s.heap a (some (.st (cs.set j (.ref s.heap.length)))) ++ [some (.sq c [])]⟩ else ownV r s
       | true, some (.e (.cons (.l c) .nil)) => bif Nat.blt 0 c.width then ownV r ⟨s.env, vset s.heap a (some (.st (cs.set j (.ref s.heap.length)))) ++ [some (.fm c 0 none [])]⟩ else ownV r s
       | false, some (.v (.slice none 0 0)) => ownV r ⟨s.env, vset s.heap a (some (.st (cs.set j (.ref s.heap.length)))) ++ [some (.sb (ByteArray.mk #[]))]⟩
       | _, _ => ownV r s
     | _ => ownV r s
   | .ref a => ownV r (rnV a s)
   | _ => ownV r s
mutual
def TV.nrm : TV -> TV
 | .e c => .l c []
 | .ag y => .ag (TV.nrms y)
 | .tp y => .tp (TV.nrms y)
 | .clo g y => .clo g (TV.nrms y)
 | a => a
def TV.nrms : List TV -> List TV
 | [] => []
 | a :: y => a.nrm :: TV.nrms y
end
def VObj.nrm : VObj -> VObj
 | .st cs => .st (TV.nrms cs)
 | o => o
def nrmX (X : YwG) : YwG := X.map fun o => o.map VObj.nrm
def YxG (k : Nat) (ts : List Nat) (s : VSt) : List TV × YwG :=
 match ts.map (fun t => (YwV s.env t).nrm), nrmX s.heap with
 | vs, X => match Yw2 X 5 (YwU X (List.range (min k X.length)) (TV.idss vs)) with
   | m => (TV.rens (fun a => idxV m a 0) vs, m.map fun a => (vget X a).map (VObj.ren fun a => idxV m a 0))
def frzT (X : YwG) (F : List Nat) : TV -> TV
 | .ref a => bif F.any (Nat.beq a) then match vget X a with
   | some (.sq c l) => .l c l
   | some (.fm c _ none l) => .l (.cons (.l c) .nil) l
   | some (.sb s) => .l U8 (strL s)
   | _ => .ref a
   else .ref a
 | .pre a n => bif F.any (Nat.beq a) then match vget X a with
   | some (.sq c l) => .l c (l.take n.toNat)
   | _ => .pre a n
   else .pre a n
 | a => a
mutual
def frzA (X : YwG) (F : List Nat) : TV -> TV
 | .ag l => .ag (Yyg X F l)
 | .tp l => .tp (Yyg X F l)
 | .clo g l => .clo g (Yyg X F l)
 | .sub _ _ _ => .u
 | .pti _ _ _ _ _ => .u
 | .rp _ => .u
 | .lt _ => .u
 | a => frzT X F a
def Yyg (X : YwG) (F : List Nat) : List TV -> List TV
 | [] => []
 | a :: r => frzA X F a :: Yyg X F r
end
def frzO (X : YwG) (F : List Nat) : Option VObj -> Option VObj
 | some (.st cs) => some (.st (Yyg X F cs))
 | o => o
def Yx0 (X : YwG) : List Nat -> YwG
 | [] => X
 | a :: r => vset (Yx0 X r) a none
def Yx1 (X : YwG) (a : Nat) : Bool :=
 match vget X a with
 | some (.sq _ _) => true
 | some (.fm _ _ none _) => true
 | some (.sb _) => true
 | _ => false
def Yy5 (X : YwG) : TV -> List Nat
 | .ptr a _ _ => match vget X a with
   | some (.st cs) => (TV.idss cs).filter (Yx1 X)
   | _ => []
 | a => a.ids.filter (Yx1 X)
def Yzj (s : VSt) (t : Nat) : List Nat :=
 bif Nat.blt t 1000000 then Yy5 s.heap (YwV s.env t) else
 match YwV s.env (Nat.mod t 1000000) with
 | .ptr a _ _ => match vget s.heap a with
   | some (.st cs) => match cs[Nat.sub (Nat.div t 1000000) 1]? with
     | some c => c.ids.filter (Yx1 s.heap)
     | none => []
   | _ => []
 | _ => []
def frzV (ts : List Nat) (s : VSt) : VSt :=
 match ts.flatMap (Yzj s) with
 | F => ⟨s.env.map fun p => (p.1, frzA s.heap F p.2), Yx0 (s.heap.map (frzO s.heap F)) F⟩
def Yym (X : YwG) : Bool := X.all fun o => match o with | some (.fm _ _ (some _) _) => false | _ => true
structure Out1 where
 ex : Ex
 g : Sg
def altT (A B : Type) : List Out1 -> Type
 | [] => A
 | _ :: _ => A ⊕ B
def Alt : List Out1 -> Type
 | [] => Empty
 | o :: r => altT o.g.c.den (Alt r) r
def altK {γ : Type} : (os : List Out1) -> Alt os -> ((o : Out1) -> o.g.c.den -> γ) -> γ
 | [o], y, K => K o y
 | o :: o' :: r, y, K => match y with
   | .inl x => K o x
   | .inr z => altK (o' :: r) z K
def YyC : (os : List Out1) -> Nat -> ((o : Out1) -> Option o.g.c.den) -> Option (Alt os)
 | [], _, _ => none
 | [o], 0, f => f o
 | o :: _ :: _, 0, f => match f o with | some x => some (.inl x) | none => none
 | [_], _ + 1, _ => none
 | _ :: o' :: r, n + 1, f => match YyC (o' :: r) n f with | some y => some (.inr y) | none => none
structure LpE where
 id : Nat
 own : List (Nat × Option Nat × Bool)
 g : Sg
 outs : List Out1
 F : g.c.den -> Option (Alt outs)
structure FnE where
 g : Nat
 pf : Bool
 args : Sg
 res : SV
 os : List SO
 co : Cs
 F : args.c.den -> Option co.den
structure Tabs where
 pf : Nat -> Bool
 fs : List FnE
 ls : List LpE
 kb : Nat := 0
def ldT (X : YwG) : TV -> Option TV
 | .ref a => match vget X a with
   | some (.sq c l) => some (.l c l)
   | some (.sb s) => some (.l U8 (strL s))
   | _ => none
 | .pre a n => match vget X a with
   | some (.sq c l) => some (.l c (l.take n.toNat))
   | _ => none
 | _ => none
def ldC (X : YwG) : List TV -> List TV × Bool
 | [] => ([], false)
 | a :: r => match ldC X r with
   | (as, t) => match ldT X a with
     | some x => (x :: as, true)
     | none => match a with
       | .e c => (.l c [] :: as, t)
       | a => (a :: as, t)
def ldL (X : YwG) : List TV -> List TV × Bool
 | [] => ([], false)
 | a :: r => match ldL X r with
   | (as, t) => match ldT X a with
     | some x => (x :: as, true)
     | none => match a with
       | .ag cs => match ldC X cs with
         | (ds, b) => (.ag ds :: as, b || t)
       | .e c => (.l c [] :: as, t)
       | a => (a :: as, t)
def Yzx : SV -> Bool
 | .i _ | .b | .s => true
 | .tp l => l.all fun y => match y with | .i _ | .b | .s => true | _ => false
 | _ => false
def YyO (g : Nat) (svs : List SV) : List FnE -> Option FnE
 | [] => none
 | e :: r => bif Nat.beq e.g g && SV.eqbs svs e.args.vs then some e else YyO g svs r
def Yyh (id : Nat) : List LpE -> Option LpE
 | [] => none
 | e :: r => bif Nat.beq e.id id then some e else Yyh id r
structure VI where
 dst : Option Nat
 op : VOp
 guard : Option (Nat × Bool)
 old : Bool
 nw : Bool
inductive VCode where
 | skip
 | reg (ops : List VI)
 | seq (a b : VCode)
 | cond (c : VOpd) (a b : VCode)
 | blk (id : Nat) (b : VCode)
 | loop (lid : Nat) (b : VCode)
 | jn (lid : Nat) (b : VCode)
 | exit (id : Nat)
 | bad
 | ret
 | fz (ts : List Nat) (b : VCode)
 | ow (ws : List (Nat × Option Nat × Bool)) (b : VCode)
 | regN (ns : List Nat) (ops : List VI)
section
variable {β : Type}
mutual
def YxH : TV -> Bool
 | .i _ _ | .b _ | .s _ | .l _ _ => true
 | .ag x => Yw0 x
 | .tp x => Yw0 x
 | .clo _ x => Yw0 x
 | _ => false
def Yw0 : List TV -> Bool
 | [] => true
 | a :: r => YxH a && Yw0 r
end
def YyD (T : Tabs) (g : Nat) (args : List TV) (X : YwG) (K : TV -> YwG -> Option β) : Option β :=
 match ldL X args with
 | (as, lent) => match TV.shs as with
   | some svs => match YyO g svs T.fs with
     | some e => bif Yw0 as && (!lent || Yzx e.res) then match e.args.read as [] with
       | some x => Option.bind (e.F x) fun y => match YwP e.res (unp e.co y) with
         | some (v, []) => bif YxH v then K v X else none
         | _ => none
       | none => none
       else none
     | none => none
   | none => none
def Yx6 (g : Nat) (svs : List SV) (sos : List SO) : List FnE -> Option FnE
 | [] => none
 | e :: r => bif Nat.beq e.g g && (SV.eqbs svs e.args.vs && SO.eqbs sos e.args.os) then some e else Yx6 g svs sos r
mutual
def clT (X : YwG) (m : List Nat) : TV -> Bool
 | .ref a | .pre a _ | .ptr a _ _ | .np a => (vget X a).isSome && !(m.any (Nat.beq a))
 | .u | .sub _ _ _ | .pti _ _ _ _ _ | .rp _ | .lt _ => false
 | .ag x => clTs X m x
 | .tp x => clTs X m x
 | .clo _ x => clTs X m x
 | _ => true
def clTs (X : YwG) (m : List Nat) : List TV -> Bool
 | [] => true
 | a :: r => clT X m a && clTs X m r
end
def clX (X : YwG) (m : List Nat) : YwG -> Nat -> Bool
 | [], _ => true
 | o :: r, i => (m.any (Nat.beq i) || (match o with | some (.st cs) => clTs X m cs | some (.fm _ _ (some _) _) => false | _ => true)) && clX X m r (i + 1)
mutual
def wfT (X : YwG) : TV -> Bool
 | .i _ _ | .b _ | .s _ | .l _ _ | .u | .e _ => true
 | .ref a => match vget X a with | some (.sq _ _) => true | some (.sb _) => true | _ => false
 | .ptr a i _ => Nat.beq i 0 && match vget X a with | some (.st _) => true | _ => false
 | .np a => match vget X a with | some (.st _) => true | _ => false
 | .ag x => wfTs X x
 | .tp x => wfTs X x
 | .clo _ x => wfTs X x
 | _ => false
def wfTs (X : YwG) : List TV -> Bool
 | [] => true
 | a :: r => wfT X a && wfTs X r
end
def wfX (X : YwG) : YwG -> Bool
 | [] => true
 | some (.sq c _) :: r => Nat.blt 0 c.width && wfX X r
 | some (.st cs) :: r => Nat.blt 0 cs.length && wfTs X cs && wfX X r
 | some (.sb _) :: r => wfX X r
 | some (.fm _ _ _ _) :: _ => false
 | none :: r => wfX X r
def Yxe {β : Type} : YwG -> YwG -> Option β -> Option β
 | [], _, x => x
 | some (.sq _ l) :: r, some (.sq _ l2) :: r2, x => chk (l2.length = l.length) (Yxe r r2 x)
 | some (.st _) :: r, some (.st _) :: r2, x => Yxe r r2 x
 | some (.sb s) :: r, some (.sb s2) :: r2, x => chk (s2.size = s.size) (Yxe r r2 x)
 | _ :: r, none :: r2, x => Yxe r r2 x
 | _, _, _ => none
def noFm : YwG -> Bool
 | [] => true
 | some (.fm _ _ _ _) :: _ => false
 | _ :: r => noFm r
def Yw9 (m : List Nat) (n : Nat) (i : Nat) : Nat := bif Nat.blt i m.length then m.getD i 0 else n + (i - m.length)
def Yx7 (r : Nat -> Option Nat) : YwG -> List Nat -> YwG -> YwG
 | X, a :: m, o :: Y => Yx7 r (vset X a (o.map (VObj.ren r))) m Y
 | X, _, _ => X
def Yw6 (m : List Nat) (r : Nat -> Option Nat) (X Y : YwG) : YwG := Yx7 r X m Y ++ (Y.drop m.length).map fun o => o.map (VObj.ren r)
def YyE (m : List Nat) : YwG -> Nat -> List Nat
 | [], _ => []
 | o :: r, i => bif (VObj.ids o).any (fun a => m.any (Nat.beq a)) then i :: YyE m r (i + 1) else YyE m r (i + 1)
def Yxu (X : YwG) : Nat -> List Nat -> List Nat
 | 0, m => m
 | d + 1, m => match YwU X m (YyE m X 0) with
   | m' => bif Nat.beq m'.length m.length then m else Yxu X d (Yw2 X 5 m')
def YyF (T : Tabs) (g : Nat) (args : List TV) (X : YwG) (K : TV -> YwG -> Option β) : Option β :=
 match Yxu X 4 (Yw2 X 5 (YwU X [] (TV.idss args))) with
 | m => match TV.rens (fun a => idxV m a 0) args, m.map (fun a => (vget X a).map (VObj.ren fun a => idxV m a 0)) with
   | as, Xs => bif clX X m X 0 && noFm Xs then match TV.shs as, shOs Xs with
     | some svs, some sos => match Yx6 g svs sos T.fs with
       | some e => match e.args.read as Xs with
         | some x => Option.bind (e.F x) fun y => match YwP e.res (unp e.co y) with
           | some (v, r) => match YwX e.os r with
             | some (X2, []) => bif Nat.ble m.length X2.length && (wfT X2 v && wfX X2 X2) then
               Yxe Xs X2 (K (v.ren fun a => some (Yw9 m X.length a)) (Yw6 m (fun a => some (Yw9 m X.length a)) X X2))
               else none
             | _ => none
           | none => none
         | none => none
       | none => none
     | _, _ => none
     else none
def YyG (T : Tabs) (g : Nat) (args : List TV) (X : YwG) (K : TV -> YwG -> Option β) : Option β :=
 bif T.pf g then YyD T g args X K else YyF T g args X K
def YyH (T : Tabs) (g : Nat) (args : List TV) (X : YwG) (K : TV -> YwG -> Option β) : Option β :=
 match ldL X args with
 | (as, lent) => match TV.shs as with
   | some svs => match Yx6 g svs [] T.fs with
     | some e => bif !lent && Yw0 as then match e.args.read as [] with
       | some x => Option.bind (e.F x) fun y => match YwP e.res (unp e.co y) with
         | some (.ref 0, l) => match YwX e.os l with
           | some ([some (.sq c z)], []) => bif Nat.blt 0 c.width then K (.ref X.length) (X ++ [some (.sq c z)]) else none
           | _ => none
         | _ => none
       | none => none
       else none
     | none => none
   | none => none
def vop (T : Tabs) (op : VOp) (env : VEnv) (X : YwG) (K : TV -> YwG -> Option β) : Option β :=
 match op with
 | .call g args => YyG T g (args.map (vo env)) X K
 | .dyn x args => match vo env x with
   | .clo f cs => YyG T f (args.map (vo env) ++ cs) X K
   | _ => none
 | .dynP x args => match vo env x with
   | .clo f cs => bif T.pf f then YyG T f (args.map (vo env) ++ cs) X K else none
   | _ => none
 | .callN g args => bif T.pf g then none else YyH T g (args.map (vo env)) X K
 | op => vG op env X K
def VOp.touched : VOp -> List VOpd
 | .load _ _ x | .store _ x _ | .iad _ x _ => [x]
 | .app _ _ s _ => [s]
 | .appD _ s _ => [s]
 | .apps s _ => [s]
 | .bstr x => [x]
 | .appb s _ => [s]
 | .appDb s _ => [s]
 | .mget _ _ _ _ _ m _ => [m]
 | .mput _ _ _ _ m _ _ => [m]
 | .mdel _ _ _ m _ => [m]
 | .mlen m => [m]
 | .mrng m => [m]
 | .ment _ _ _ _ it => [it]
 | .mnxt it => [it]
 | .cpy _ d _ => [d]
 | .call _ args => args
 | .dynP x args => x :: args
 | _ => []
def Yzy (s : VSt) (t : Nat) : List Nat :=
 bif Nat.blt t 1000000 then (YwV s.env t).ids else
 match YwV s.env (Nat.mod t 1000000) with
 | .ptr a _ _ => match vget s.heap a with
   | some (.st cs) => match cs[Nat.sub (Nat.div t 1000000) 1]? with
     | some c => c.ids
     | none => []
   | _ => []
 | _ => []
abbrev Nw := Nat × List Nat
def Yx8 (n : Nw) (a : Nat) : Bool := Nat.ble n.1 a || n.2.any (Nat.beq a)
def oldC (X : YwG) (n0 : Nw) : TV -> Bool
 | .ref a | .pre a _ | .ptr a _ _ | .np a => (vget X a).isSome && !Yx8 n0 a
 | .u | .sub _ _ _ | .pti _ _ _ _ _ | .v _ => false
 | .ag _ => false
 | _ => true
def oldB (X : YwG) (n0 : Nw) : TV -> Bool
 | .ag cs => cs.all (oldC X n0)
 | a => oldC X n0 a
def oldT (X : YwG) (n0 : Nw) : TV -> Bool
 | .clo _ cs => cs.all (oldB X n0)
 | a => oldB X n0 a
def newT (X : YwG) (n0 : Nw) : TV -> Bool
 | .ref a | .ptr a _ _ | .np a => (vget X a).isSome && Yx8 n0 a
 | .i _ _ | .b _ | .s _ | .l _ _ | .e _ => true
 | _ => false
def nwT (X : YwG) (n0 : Nw) (env : VEnv) : VOp -> Bool
 | .app _ _ s _ => newT X n0 (vo env s)
 | .appD _ s _ => newT X n0 (vo env s)
 | .apps s _ => newT X n0 (vo env s)
 | .appb s _ => newT X n0 (vo env s)
 | .appDb s _ => newT X n0 (vo env s)
 | .mput _ _ _ _ m _ _ => newT X n0 (vo env m)
 | .mdel _ _ _ m _ => newT X n0 (vo env m)
 | .cpy _ d _ => newT X n0 (vo env d)
 | .store _ x _ => newT X n0 (vo env x)
 | _ => false
def okM (X : YwG) (n0 : Nw) (i : VI) (env : VEnv) : Bool :=
 (!i.old || i.op.touched.all fun x => oldT X n0 (vo env x)) && (!i.nw || nwT X n0 env i.op)
def vput (env : VEnv) (d : Option Nat) (v : TV) : VEnv :=
 match d with
 | some d => (d, v) :: env
 | none => env
def vgo (T : Tabs) (n0 : Nw) (i : VI) (env : VEnv) (X : YwG) (K : VSt -> Option β) : Option β :=
 bif okM X n0 i env then vop T i.op env X fun v X' => K ⟨vput env i.dst v, X'⟩ else none
abbrev undV : TV := .v (.tuple ⟨[]⟩)
def vai (T : Tabs) (n0 : Nw) (i : VI) (s : VSt) (K : VSt -> Option β) : Option β :=
 match i.guard with
 | none => vgo T n0 i s.env s.heap K
 | some (g, w) => match YwV s.env g with
   | .b t => match w with
     | true => bif t then vgo T n0 i ((g, .b true) :: s.env) s.heap K else K ⟨vput ((g, .b false) :: s.env) i.dst undV, s.heap⟩
     | false => bif t then K ⟨vput ((g, .b true) :: s.env) i.dst undV, s.heap⟩ else vgo T n0 i ((g, .b false) :: s.env) s.heap K
   | .v (.tuple ⟨[]⟩) => K ⟨vput s.env i.dst undV, s.heap⟩
   | _ => none
def vops (T : Tabs) (n0 : Nw) : List VI -> VSt -> (VSt -> Option β) -> Option β
 | [], s, K => K s
 | i :: r, s, K => vai T n0 i s fun s' => vops T n0 r s' K
def refV (s : VSt) : VOpd -> Bool -> VSt
 | .t g, b => ⟨(g, .b b) :: s.env, s.heap⟩
 | .c _, _ => s
def vsub (T : Tabs) (lid : Nat) (s : VSt) (K : Ex -> VSt -> Option β) : Option β :=
 match Yyh lid T.ls with
 | some e => match YxG T.kb e.g.ts (ownV e.own s) with
   | (vs, X) => match e.g.read vs X with
     | some x => Option.bind (e.F x) fun y => altK e.outs y fun o z => match o.g.fill z with
       | some s' => K o.ex s'
       | none => none
     | none => none
 | none => none
def ev (T : Tabs) : VCode -> VSt -> (Ex -> VSt -> Option β) -> Option β
 | .bad, _, _ => none
 | .skip, s, K => K .nor s
 | .reg ops, s, K => vops T (s.heap.length, []) ops s fun s' => K .nor s'
 | .regN ns ops, s, K => vops T (s.heap.length, ns.flatMap (Yzy s)) ops s fun s' => K .nor s'
 | .seq a b, s, K => ev T a s fun e s' => match e with
   | .nor => ev T b s' K
   | e => K e s'
 | .cond c a b, s, K => match vo s.env c with
   | .b t => bif t then ev T a (refV s c true) K else ev T b (refV s c false) K
   | _ => none
 | .blk id b, s, K => ev T b s fun e s' => match e with
   | .exit id' => bif Nat.beq id' id then K .nor s' else K (.exit id') s'
   | e => K e s'
 | .loop lid _, s, K => vsub T lid s K
 | .jn lid _, s, K => vsub T lid s K
 | .exit id, s, K => K (.exit id) s
 | .ret, s, K => K .ret s
 | .fz ts b, s, K => bif Yym s.heap then ev T b (frzV ts s) K else none
 | .ow ws b, s, K => ev T b (ownV ws s) K
end
def Yxl {S R : Type} (step : S -> Option (S ⊕ R)) : Nat -> S -> Option R
 | 0, _ => none
 | n + 1, s => match step s with
   | some (.inl s') => Yxl step n s'
   | some (.inr r) => some r
   | none => none
open Classical in
noncomputable def Yxi {S R : Type} (step : S -> Option (S ⊕ R)) (s : S) : Option R :=
 if h : ∃ n r, Yxl step n s = some r then some (Classical.choose (Classical.choose_spec h)) else none
def exEq : Ex -> Ex -> Bool
 | .nor, .nor => true
 | .ret, .ret => true
 | .exit a, .exit b => Nat.beq a b
 | _, _ => false
def YyP (e : Ex) : List Out1 -> Nat -> Option Nat
 | [], _ => none
 | o :: r, n => bif exEq o.ex e then some n else YyP e r (n + 1)
def outK (kb : Nat) (outs : List Out1) (e : Ex) (s : VSt) : Option (Alt outs) :=
 match YyP e outs 0 with
 | some n => YyC outs n fun o => match YxG kb o.g.ts s with
   | (vs, X) => o.g.read vs X
 | none => none
def YwY (T : Tabs) (own : List (Nat × Option Nat × Bool)) (g : Sg) (outs : List Out1) (b : VCode) (x : g.c.den) : Option (g.c.den ⊕ Alt outs) :=
 match g.fill x with
 | some s => ev T b s fun e s' => match e with
   | .nor => match YxG T.kb g.ts (ownV own s') with
     | (vs, X) => match g.read vs X with
       | some x' => some (.inl x')
       | none => none
   | e => match outK T.kb outs e s' with
     | some y => some (.inr y)
     | none => none
 | none => none
def stepJ (T : Tabs) (g : Sg) (outs : List Out1) (b : VCode) (x : g.c.den) : Option (Alt outs) :=
 match g.fill x with
 | some s => ev T b s fun e s' => outK T.kb outs e s'
 | none => none
structure VFn where
 pf : Bool
 slots : Nat
 res : List RV
 code : VCode
def Yzk (s : VSt) : RV -> Option TV
 | .t n => some (YwV s.env n)
 | .c n g sz => YyN g sz (YwV s.env n) s.heap fun v _ => some v
def Yx9 (s : VSt) : List RV -> Option (List TV)
 | [] => some []
 | r :: rs => match Yzk s r, Yx9 s rs with
   | some v, some vs => some (v :: vs)
   | _, _ => none
def tupV : List TV -> TV
 | [v] => v
 | vs => .tp vs
mutual
def TV.dat (X : YwG) : TV -> TV
 | .ref a => match vget X a with
   | some (.sq c y) => .l c y
   | some (.fm c _ none y) => .l (.cons (.l c) .nil) y
   | some (.sb y) => .l U8 (strL y)
   | _ => .u
 | .pre a n => match vget X a with
   | some (.sq c y) => .l c (y.take n.toNat)
   | _ => .u
 | .e c => .l c []
 | .ag y => .ag (TV.dats X y)
 | .tp y => .tp (TV.dats X y)
 | .clo g y => .clo g (TV.dats X y)
 | a => a
def TV.dats (X : YwG) : List TV -> List TV
 | [] => []
 | a :: r => a.dat X :: TV.dats X r
end
def YyQ (sv : SV) (c : Cs) (v : TV) : Option c.den :=
 match v.sh with
 | some sv' => bif sv'.eqb sv then match Yxs v.lv with | ⟨c', x⟩ => c'.cast c x else none
 | none => none
def evP (T : Tabs) (F : VFn) (g : Sg) (res : SV) (co : Cs) (x : g.c.den) : Option co.den :=
 match g.fill x with
 | some s => ev T F.code s fun e s' => match e with
   | .exit _ => none
   | _ => match Yx9 s' F.res with
     | some vs => YyQ res co ((tupV vs).dat s'.heap)
     | none => none
 | none => none
def retI (k : Nat) (vs0 : TV) (X0 : YwG) : TV × YwG :=
 match vs0.nrm, nrmX X0 with
 | vs, X => match Yw2 X 5 (YwU X (List.range (min k X.length)) vs.ids) with
   | m => (vs.ren fun a => idxV m a 0, m.map fun a => (vget X a).map (VObj.ren fun a => idxV m a 0))
def YyR (sv : SV) (os : List SO) (c : Cs) (v : TV) (X : YwG) : Option c.den :=
 match v.sh, shOs X with
 | some sv', some os' => bif sv'.eqb sv && SO.eqbs os' os then match Yxs (v.lv ++ lvOs X) with | ⟨c', x⟩ => c'.cast c x else none
 | _, _ => none
def evI (T : Tabs) (F : VFn) (g : Sg) (res : SV) (os : List SO) (co : Cs) (x : g.c.den) : Option co.den :=
 match g.fill x with
 | some s => ev T F.code s fun e s' => match e with
   | .exit _ => none
   | _ => match Yx9 s' F.res with
     | some vs => match retI T.kb (tupV vs) s'.heap with
       | (v, X) => YyR res os co v X
     | none => none
 | none => none
end Go.Abs
namespace Go.Abs
open Go Go.RowKit
inductive Pos where
 | m (a : Nat)
 | n (a i : Nat)
 deriving DecidableEq
abbrev Pl := Pos -> Option Nat
def elN : VObj -> Nat
 | .sq _ l => l.length
 | .fm _ _ _ l => l.length
 | .st _ => 1
 | .sb s => s.size
def YyI (X : YwG) (a ver : Nat) : Prop := ∀ o, vget X a = some o -> ∃ c ver' hole l, o = .fm c ver' hole l /\ (ver < ver' \/ (ver = ver' /\ hole ≠ none))
def isFm : VObj -> Bool
 | .fm _ _ _ _ => true
 | _ => false
inductive TR (X : YwG) (pl : Pl) : TV -> AV -> Prop
 | i (k : IntKind) (n : Int) : TR X pl (.i k n) (.v (.int k n))
 | b (x : Bool) : TR X pl (.b x) (.v (.bool x))
 | s (x : ByteArray) : TR X pl (.s x) (.v (.string x))
 | l (c : Cs) (v : List c.den) (a : AV) (h : Coe a (.rd c.width (v.map c.enc))) : TR X pl (.l c v) a
 | e (c : Cs) : TR X pl (.e c) .emp
 | u (a : AV) : TR X pl .u a
 | v (x : Value) : TR X pl (.v x) (.v x)
 | ref (a x : Nat) (o : VObj) (n : Nat) (h : vget X a = some o) (hn : lenO o = some n) (hp : pl (.m a) = some x) : TR X pl (.ref a) (.ref x 0 n)
 | refD (a : Nat) (av : AV) (h : vget X a = none) (ha : a < X.length) : TR X pl (.ref a) av
 | pre (a x : Nat) (m : Int) (o : VObj) (n : Nat) (h : vget X a = some o) (hn : lenO o = some n) (hp : pl (.m a) = some x) (h0 : 0 <= m) (hm : m.toNat <= n) : TR X pl (.pre a m) (.ref x 0 m.toNat)
 | preD (a : Nat) (m : Int) (av : AV) (h : vget X a = none) (ha : a < X.length) : TR X pl (.pre a m) av
 | sub (a ver i y : Nat) (c : Cs) (l : List (List c.den)) (h : vget X a = some (.fm c ver none l)) (hi : i < l.length) (hp : pl (.n a i) = some y) : TR X pl (.sub a ver i) (.ref y 0 (l.getD i []).length)
 | sube (a ver i : Nat) (c : Cs) (l : List (List c.den)) (h : vget X a = some (.fm c ver none l)) (hi : i < l.length) (hp : pl (.n a i) = none) (h0 : l.getD i [] = []) : TR X pl (.sub a ver i) .emp
 | subD (a ver i : Nat) (av : AV) (h : YyI X a ver) (ha : a < X.length) : TR X pl (.sub a ver i) av
 | ptr (a i j x : Nat) (o : VObj) (h : vget X a = some o) (hi : i < elN o) (hp : pl (.m a) = some x) : TR X pl (.ptr a i j) (.ptr x i j)
 | ptrD (a i j : Nat) (av : AV) (h : vget X a = none) (ha : a < X.length) : TR X pl (.ptr a i j) av
 | pti (a ver i k j y : Nat) (c : Cs) (l : List (List c.den)) (h : vget X a = some (.fm c ver none l)) (hi : i < l.length) (hk : k < (l.getD i []).length) (hp : pl (.n a i) = some y) : TR X pl (.pti a ver i k j) (.ptr y k j)
 | ptiD (a ver i k j : Nat) (av : AV) (h : YyI X a ver) (ha : a < X.length) : TR X pl (.pti a ver i k j) av
 | np (a x : Nat) (o : VObj) (h : vget X a = some o) (hp : pl (.m a) = some x) : TR X pl (.np a) (.np x)
 | npD (a : Nat) (av : AV) (h : vget X a = none) (ha : a < X.length) : TR X pl (.np a) av
 | rp (cs : List TV) (as : List AV) (hl : cs.length = as.length) (h : ∀ (j : Nat) (c : TV) (a : AV), cs[j]? = some c -> as[j]? = some a -> TR X pl c a) : TR X pl (.rp cs) (.rp as)
 | lt (es : Nat) (cs : List (List TV)) (as : List (List AV)) (hl : cs.length = as.length) (h0 : cs ≠ []) (hz : ∀ e ∈ cs, e.length = es) (hz' : ∀ e ∈ as, e.length = es)
   (h : ∀ (i j : Nat) (e : List TV) (f : List AV) (c : TV) (a : AV), cs[i]? = some e -> as[i]? = some f -> e[j]? = some c -> f[j]? = some a -> TR X pl c a) : TR X pl (.lt cs) (.rd es as)
 | ag (cs : List TV) (as : List AV) (hl : cs.length = as.length) (h : ∀ (j : Nat) (c : TV) (a : AV), cs[j]? = some c -> as[j]? = some a -> TR X pl c a) : TR X pl (.ag cs) (.agg as)
 | tp (cs : List TV) (as : List AV) (hl : cs.length = as.length) (h : ∀ (j : Nat) (c : TV) (a : AV), cs[j]? = some c -> as[j]? = some a -> TR X pl c a) : TR X pl (.tp cs) (.tup as)
 | clo (g : Nat) (cs : List TV) (as : List AV) (hl : cs.length = as.length) (h : ∀ (j : Nat) (c : TV) (a : AV), cs[j]? = some c -> as[j]? = some a -> TR X pl c a) : TR X pl (.clo g cs) (.clo g as)
def CC (e e' : List AV) : Prop := e.length = e'.length /\ ∀ (j : Nat) (x x' : AV), e[j]? = some x -> e'[j]? = some x' -> Coe x x'
def Rows (el : List (List AV)) (c : Cs) (l : List c.den) : Prop :=
 el.length = l.length /\ ∀ (i : Nat) (e : List AV) (v : c.den), el[i]? = some e -> l[i]? = some v -> CC e (c.enc v)
def CT (X : YwG) (pl : Pl) (cs : List TV) (as : List AV) : Prop :=
 cs.length = as.length /\ ∀ (j : Nat) (c : TV) (a : AV), cs[j]? = some c -> as[j]? = some a -> TR X pl c a
def OR (X : YwG) (pl : Pl) (H : Heap) (a : Nat) : VObj -> Prop
 | .sq c l => ∃ x el, pl (.m a) = some x /\ H[x]? = some (some ⟨c.width, el⟩) /\ 0 < c.width /\ Rows el c l
 | .fm c _ hole l => ∃ x el, pl (.m a) = some x /\ H[x]? = some (some ⟨1, el⟩) /\ 0 < c.width /\ el.length = l.length /\
   (∀ e ∈ el, e.length = 1) /\
   (∀ (i : Nat) (e : List AV) (v : List c.den), el[i]? = some e -> l[i]? = some v -> hole ≠ some i ->
    (∃ y el', pl (.n a i) = some y /\ e = [.ref y 0 v.length] /\ H[y]? = some (some ⟨c.width, el'⟩) /\ Rows el' c v) \/ (pl (.n a i) = none /\ v = [] /\ e = [.emp]))
 | .st cs => ∃ x e, pl (.m a) = some x /\ H[x]? = some (some ⟨cs.length, [e]⟩) /\ 0 < cs.length /\ CT X pl cs e
 | .sb s => ∃ x, pl (.m a) = some x /\ H[x]? = some (some ⟨0, strA s⟩)
def Live (X : YwG) : Pos -> Prop
 | .m a => ∃ o, vget X a = some o
 | .n a i => ∃ c ver hole l, vget X a = some (.fm c ver hole l) /\ i < l.length /\ hole ≠ some i
structure HRel (Fr : Nat -> Prop) (H0 : Heap) (X : YwG) (pl : Pl) (H : Heap) : Prop where
 obj : ∀ a o, vget X a = some o -> OR X pl H a o
 inj : ∀ p q x, pl p = some x -> pl q = some x -> p = q
 own : ∀ p x, pl p = some x -> Live X p
 fr : ∀ x, Fr x -> x < H0.length /\ H[x]? = H0[x]?
 nfr : ∀ p x, pl p = some x -> ¬ Fr x
 le : H0.length <= H.length
structure Ext (X : YwG) (pl : Pl) (X' : YwG) (pl' : Pl) : Prop where
 le : X.length <= X'.length
 keep : ∀ a, a < X.length -> vget X' a = none \/ ∃ o o', vget X a = some o /\ vget X' a = some o' /\ elN o' = elN o /\ lenO o' = lenO o /\ pl' (.m a) = pl (.m a) /\ isFm o' = isFm o /\
  ∀ c ver hole l, o' = .fm c ver hole l -> ∃ ver0 hole0 l0, o = .fm c ver0 hole0 l0 /\ l.length = l0.length /\ (ver0 < ver \/ (ver0 = ver /\ (hole = none -> hole0 = none /\ ∀ i, (l.getD i []).length = (l0.getD i []).length /\ pl' (.n a i) = pl (.n a i))))
theorem Yah : ∀ {X : YwG} {a : Nat} {o : VObj}, vget X a = some o -> a < X.length
 | [], _, _, h => by simp [vget] at h
 | _ :: _, 0, _, _ => by simp
 | _ :: r, a + 1, o, h => by simp only [vget] at h; have := Yah h; simp; omega
theorem Ext.sub {X : YwG} {pl : Pl} {X' : YwG} {pl' : Pl} (hx : Ext X pl X' pl') {a ver : Nat} {c : Cs} {l : List (List c.den)} (h : vget X a = some (.fm c ver none l)) :
  YyI X' a ver \/ ∃ l', vget X' a = some (.fm c ver none l') /\ l'.length = l.length /\ ∀ i, (l'.getD i []).length = (l.getD i []).length /\ pl' (.n a i) = pl (.n a i) := by
 rcases hx.keep a (Yah h) with h' | ⟨o1, o', h1, h2, h3, h4, h5, h7, h6⟩
 ·exact .inl (fun o ho => by rw [h'] at ho; cases ho)
 ·rw [h] at h1; injection h1 with h1; subst h1
  cases o' with
  | sq c' l' => cases h7
  | st cs => cases h7
  | sb s => cases h7
  | fm c' ver' hole' l' =>
    obtain ⟨ver0, hole0, l0, e1, e2, e3⟩ := h6 c' ver' hole' l' rfl
    injection e1 with e1 e5 e6 e4
    subst e1; have e4 := eq_of_heq e4; subst e4; subst e5; subst e6
    rcases e3 with e3 | ⟨rfl, e3⟩
    ·exact .inl (fun o ho => by rw [h2] at ho; injection ho with ho; exact ⟨_, _, _, _, ho.symm, .inl e3⟩)
    ·cases hole' with
     | none => exact .inr ⟨l', h2, e2, (e3 rfl).2⟩
     | some q => exact .inl (fun o ho => by rw [h2] at ho; injection ho with ho; exact ⟨_, _, _, _, ho.symm, .inr ⟨rfl, by simp⟩⟩)
theorem Ext.dead {X : YwG} {pl : Pl} {X' : YwG} {pl' : Pl} (hx : Ext X pl X' pl') {a ver : Nat} (ha : a < X.length) (h : YyI X a ver) : YyI X' a ver := by
 intro o ho
 rcases hx.keep a ha with h' | ⟨o1, o', h1, h2, h3, h4, h5, h7, h6⟩
 ·rw [h'] at ho; cases ho
 ·rw [h2] at ho; injection ho with ho; subst ho
  obtain ⟨c, ver', hole, l, rfl, hd⟩ := h o1 h1
  cases o' with
  | sq c' l' => cases h7
  | st cs => cases h7
  | sb s => cases h7
  | fm c' ver2 hole' l' =>
    refine ⟨_, _, _, _, rfl, ?_⟩
    obtain ⟨ver0, hole0, l0, e1, e2, e3⟩ := h6 c' ver2 hole' l' rfl
    injection e1 with e1 e5 e6 e4
    subst e5; subst e6
    rcases e3 with e3 | ⟨rfl, e3⟩
    ·rcases hd with hd | ⟨rfl, hd⟩
     ·exact .inl (by omega)
     ·exact .inl e3
    ·rcases hd with hd | ⟨rfl, hd⟩
     ·exact .inl hd
     ·exact .inr ⟨rfl, fun e => hd (e3 e).1⟩
theorem TR.ext {X : YwG} {pl : Pl} {X' : YwG} {pl' : Pl} (hx : Ext X pl X' pl') {v : TV} {a : AV} (h : TR X pl v a) : TR X' pl' v a := by
 induction h with
 | i k n => exact .i k n
 | b x => exact .b x
 | s x => exact .s x
 | l c v a h => exact .l c v a h
 | e c => exact .e c
 | u a => exact .u a
 | v x => exact .v x
 | ref a x o n h hn hp =>
   rcases hx.keep a (Yah h) with h' | ⟨o1, o', h1, h2, h3, h4, h5, _, _⟩
   ·exact .refD _ _ h' (Nat.lt_of_lt_of_le (Yah h) hx.le)
   ·rw [h] at h1; injection h1 with h1; subst h1
    exact .ref a x o' n h2 (h4.trans hn) (h5.trans hp)
 | refD a av h ha =>
   rcases hx.keep a ha with h' | ⟨o1, o', h1, _⟩
   ·exact .refD _ _ h' (Nat.lt_of_lt_of_le ha hx.le)
   ·rw [h] at h1; cases h1
 | pre a x m o n h hn hp h0 hm =>
   rcases hx.keep a (Yah h) with h' | ⟨o1, o', h1, h2, h3, h4, h5, _, _⟩
   ·exact .preD _ _ _ h' (Nat.lt_of_lt_of_le (Yah h) hx.le)
   ·rw [h] at h1; injection h1 with h1; subst h1
    exact .pre a x m o' n h2 (h4.trans hn) (h5.trans hp) h0 hm
 | preD a m av h ha =>
   rcases hx.keep a ha with h' | ⟨o1, o', h1, _⟩
   ·exact .preD _ _ _ h' (Nat.lt_of_lt_of_le ha hx.le)
   ·rw [h] at h1; cases h1
 | sub a ver i y c l h hi hp =>
   have hlt := Nat.lt_of_lt_of_le (Yah h) hx.le
   rcases hx.sub h with hd | ⟨l', h1, h2, h3⟩
   ·exact .subD _ _ _ _ hd hlt
   ·rw [<- (h3 i).1]
    exact .sub a ver i y c l' h1 (by omega) ((h3 i).2.trans hp)
 | sube a ver i c l h hi hp h0 =>
   have hlt := Nat.lt_of_lt_of_le (Yah h) hx.le
   rcases hx.sub h with hd | ⟨l', h1, h2, h3⟩
   ·exact .subD _ _ _ _ hd hlt
   ·refine .sube a ver i c l' h1 (by omega) ((h3 i).2.trans hp) (YzY.1 ?_)
    rw [(h3 i).1, h0]; rfl
 | subD a ver i av h ha => exact .subD _ _ _ _ (hx.dead ha h) (Nat.lt_of_lt_of_le ha hx.le)
 | ptr a i j x o h hi hp =>
   rcases hx.keep a (Yah h) with h' | ⟨o1, o', h1, h2, h3, h4, h5, _, _⟩
   ·exact .ptrD _ _ _ _ h' (Nat.lt_of_lt_of_le (Yah h) hx.le)
   ·rw [h] at h1; injection h1 with h1; subst h1
    exact .ptr a i j x o' h2 (by omega) (h5.trans hp)
 | ptrD a i j av h ha =>
   rcases hx.keep a ha with h' | ⟨o1, o', h1, _⟩
   ·exact .ptrD _ _ _ _ h' (Nat.lt_of_lt_of_le ha hx.le)
   ·rw [h] at h1; cases h1
 | pti a ver i k j y c l h hi hk hp =>
   have hlt := Nat.lt_of_lt_of_le (Yah h) hx.le
   rcases hx.sub h with hd | ⟨l', h1, h2, h3⟩
   ·exact .ptiD _ _ _ _ _ _ hd hlt
   ·exact .pti a ver i k j y c l' h1 (by omega) (by have := (h3 i).1; omega) ((h3 i).2.trans hp)
 | ptiD a ver i k j av h ha => exact .ptiD _ _ _ _ _ _ (hx.dead ha h) (Nat.lt_of_lt_of_le ha hx.le)
 | np a x o h hp =>
   rcases hx.keep a (Yah h) with h' | ⟨o1, o', h1, h2, h3, h4, h5, _, _⟩
   ·exact .npD _ _ h' (Nat.lt_of_lt_of_le (Yah h) hx.le)
   ·exact .np a x o' h2 (h5.trans hp)
 | npD a av h ha =>
   rcases hx.keep a ha with h' | ⟨o1, o', h1, _⟩
   ·exact .npD _ _ h' (Nat.lt_of_lt_of_le ha hx.le)
   ·rw [h] at h1; cases h1
 | rp cs as hl h ih => exact .rp cs as hl ih
 | lt es cs as hl h0 hz hz' h ih => exact .lt es cs as hl h0 hz hz' ih
 | ag cs as hl h ih => exact .ag cs as hl ih
 | tp cs as hl h ih => exact .tp cs as hl ih
 | clo g cs as hl h ih => exact .clo g cs as hl ih
theorem CT.ext {X : YwG} {pl : Pl} {X' : YwG} {pl' : Pl} (hx : Ext X pl X' pl') {cs : List TV} {as : List AV} (h : CT X pl cs as) : CT X' pl' cs as :=
 ⟨h.1, fun j c a h1 h2 => (h.2 j c a h1 h2).ext hx⟩
theorem Ext.refl (X : YwG) (pl : Pl) : Ext X pl X pl := by
 refine ⟨Nat.le_refl _, fun a _ => ?_⟩
 cases h : vget X a with
 | none => exact .inl rfl
 | some o => exact .inr ⟨o, o, rfl, rfl, rfl, rfl, rfl, rfl, fun c ver hole l e => ⟨ver, hole, l, e, rfl, .inr ⟨rfl, fun h => ⟨h, fun i => ⟨rfl, rfl⟩⟩⟩⟩⟩
theorem Ext.trans {A : YwG} {p : Pl} {B : YwG} {q : Pl} {C : YwG} {r : Pl} (h : Ext A p B q) (k : Ext B q C r) : Ext A p C r := by
 refine ⟨Nat.le_trans h.le k.le, fun a ha => ?_⟩
 rcases k.keep a (Nat.lt_of_lt_of_le ha h.le) with k' | ⟨o2, o3, k1, k2, k3, k4, k5, k7, k6⟩
 ·exact .inl k'
 ·rcases h.keep a ha with h' | ⟨o1, o2', h1, h2, h3, h4, h5, h7, h6⟩
  ·rw [k1] at h'; cases h'
  ·rw [k1] at h2; injection h2 with h2; subst h2
   refine .inr ⟨o1, o3, h1, k2, k3.trans h3, k4.trans h4, k5.trans h5, k7.trans h7, fun c ver hole l e => ?_⟩
   obtain ⟨v0, q0, l0, e1, e2, e3⟩ := k6 c ver hole l e
   obtain ⟨v1, q1, l1, f1, f2, f3⟩ := h6 c v0 q0 l0 e1
   refine ⟨v1, q1, l1, f1, e2.trans f2, ?_⟩
   rcases e3 with e3 | ⟨rfl, e3⟩ <;> rcases f3 with f3 | ⟨rfl, f3⟩
   ·exact .inl (by omega)
   ·exact .inl e3
   ·exact .inl f3
   ·refine .inr ⟨rfl, fun hh => ?_⟩
    obtain ⟨g1, g2⟩ := e3 hh
    obtain ⟨g3, g4⟩ := f3 g1
    exact ⟨g3, fun i => ⟨(g2 i).1.trans (g4 i).1, (g2 i).2.trans (g4 i).2⟩⟩
end Go.Abs
namespace Go.Abs
open Go Go.RowKit
theorem Yae : ∀ (X : YwG) (a : Nat) (o : Option VObj), (vset X a o).length = X.length
 | [], _, _ => rfl
 | _ :: _, 0, _ => rfl
 | _ :: r, a + 1, o => by simp [vset, Yae r a o]
theorem Yax : ∀ {X : YwG} {a : Nat} (o : Option VObj), a < X.length -> vget (vset X a o) a = o
 | _ :: _, 0, _, _ => rfl
 | _ :: r, a + 1, o, h => by simp only [vset, vget]; exact Yax o (by simpa using h)
theorem Yao : ∀ {X : YwG} {a b : Nat} (o : Option VObj), a ≠ b -> vget (vset X a o) b = vget X b
 | [], _, _, _, _ => rfl
 | _ :: _, 0, 0, _, h => absurd rfl h
 | _ :: _, 0, _ + 1, _, _ => rfl
 | _ :: _, _ + 1, 0, _, _ => rfl
 | _ :: r, a + 1, b + 1, o, h => by simp only [vset, vget]; exact Yao o (by omega)
theorem Yaz : ∀ {X : YwG} {Y : YwG} {a : Nat}, a < X.length -> vget (X ++ Y) a = vget X a
 | _ :: _, _, 0, _ => rfl
 | _ :: r, Y, a + 1, h => by simp only [YAe, vget]; exact Yaz (by simpa using h)
theorem Yap : ∀ (X : YwG) (o : Option VObj), vget (X ++ [o]) X.length = o
 | [], _ => rfl
 | _ :: r, o => by simp only [YAe, YAb, vget]; exact Yap r o
theorem YaA : ∀ {X : YwG} {a : Nat}, X.length <= a -> vget X a = none
 | [], _, _ => rfl
 | _ :: r, 0, h => by simp at h
 | _ :: r, a + 1, h => by simp only [vget]; exact YaA (by simpa using h)
def plS (pl : Pl) (p : Pos) (x : Option Nat) : Pl := fun q => if q = p then x else pl q
def Pos.of : Pos -> Nat
 | .m a => a
 | .n a _ => a
def plK (pl : Pl) (a : Nat) : Pl := fun q => if q.of = a then none else pl q
section
variable {Fr : Nat -> Prop} {H0 : Heap} {X : YwG} {pl : Pl} {H : Heap}
theorem HRel.lt (hr : HRel Fr H0 X pl H) {p : Pos} {x : Nat} (hp : pl p = some x) : ∃ o, H[x]? = some (some o) := by
 have hl := hr.own p x hp
 cases p with
 | m a =>
   obtain ⟨o, ho⟩ := hl
   have := hr.obj a o ho
   cases o with
   | sq c l => obtain ⟨y, el, h1, h2, _⟩ := this; rw [hp] at h1; injection h1 with h1; subst h1; exact ⟨_, h2⟩
   | fm c ver hole l => obtain ⟨y, el, h1, h2, _⟩ := this; rw [hp] at h1; injection h1 with h1; subst h1; exact ⟨_, h2⟩
   | st cs => obtain ⟨y, el, h1, h2, _⟩ := this; rw [hp] at h1; injection h1 with h1; subst h1; exact ⟨_, h2⟩
   | sb s => obtain ⟨y, h1, h2⟩ := this; rw [hp] at h1; injection h1 with h1; subst h1; exact ⟨_, h2⟩
 | n a i =>
   obtain ⟨c, ver, hole, l, ho, hi, hne⟩ := hl
   obtain ⟨y, el, h1, h2, h3, h4, h5, h6⟩ := hr.obj a _ ho
   have hi' : i < el.length := by omega
   rcases h6 i el[i] l[i] (YzO hi') (YzO hi) hne with ⟨y', el', k1, _, k3, _⟩ | ⟨k1, _⟩
   ·rw [hp] at k1; injection k1 with k1; subst k1; exact ⟨_, k3⟩
   ·rw [hp] at k1; cases k1
theorem HRel.bd (hr : HRel Fr H0 X pl H) {p : Pos} {x : Nat} (hp : pl p = some x) : x < H.length := by
 obtain ⟨o, ho⟩ := hr.lt hp
 exact (YzN.1 ho).1
theorem HRel.dead (hr : HRel Fr H0 X pl H) {p : Pos} (h : vget X p.of = none) : pl p = none := by
 cases hp : pl p with
 | none => rfl
 | some x =>
   have := hr.own p x hp
   cases p with
   | m a => obtain ⟨o, ho⟩ := this; simp only [Pos.of] at h; rw [h] at ho; cases ho
   | n a i => obtain ⟨_, _, _, _, ho, _⟩ := this; simp only [Pos.of] at h; rw [h] at ho; cases ho
theorem OR.keep {X' : YwG} {pl' : Pl} {H' : Heap} {a : Nat} {o : VObj} (h : OR X pl H a o) (hx : Ext X pl X' pl') (hp : ∀ p, p.of = a -> pl' p = pl p)
  (hH : ∀ p x, p.of = a -> pl p = some x -> H'[x]? = H[x]?) : OR X' pl' H' a o := by
 cases o with
 | sq c l =>
   obtain ⟨x, el, h1, h2, h3, h4⟩ := h
   exact ⟨x, el, (hp _ rfl).trans h1, (hH _ x rfl h1).trans h2, h3, h4⟩
 | fm c ver hole l =>
   obtain ⟨x, el, h1, h2, h3, h4, h5, h6⟩ := h
   refine ⟨x, el, (hp _ rfl).trans h1, (hH _ x rfl h1).trans h2, h3, h4, h5, fun i e v k1 k2 k3 => ?_⟩
   rcases h6 i e v k1 k2 k3 with ⟨y, el', g1, g2, g3, g4⟩ | ⟨g1, g2, g3⟩
   ·exact .inl ⟨y, el', (hp _ rfl).trans g1, g2, (hH _ y rfl g1).trans g3, g4⟩
   ·exact .inr ⟨(hp _ rfl).trans g1, g2, g3⟩
 | st cs =>
   obtain ⟨x, e, h1, h2, h3, h4⟩ := h
   exact ⟨x, e, (hp _ rfl).trans h1, (hH _ x rfl h1).trans h2, h3, h4.ext hx⟩
 | sb s =>
   obtain ⟨x, h1, h2⟩ := h
   exact ⟨x, (hp _ rfl).trans h1, (hH _ x rfl h1).trans h2⟩
theorem Yat (hr : HRel Fr H0 X pl H) (o : VObj) (O : AObj) (ho : Ext X pl (X ++ [some o]) (plS pl (.m X.length) (some H.length)) -> OR (X ++ [some o]) (plS pl (.m X.length) (some H.length)) (H ++ [some O]) X.length o) :
  HRel Fr H0 (X ++ [some o]) (plS pl (.m X.length) (some H.length)) (H ++ [some O]) /\ Ext X pl (X ++ [some o]) (plS pl (.m X.length) (some H.length)) := by
 have hx : Ext X pl (X ++ [some o]) (plS pl (.m X.length) (some H.length)) := by
  refine ⟨by simp, fun a ha => ?_⟩
  have hne : (Pos.m a : Pos) ≠ .m X.length := fun e => by injection e with e; omega
  cases h : vget X a with
  | none => exact .inl (by rw [Yaz ha]; exact h)
  | some o1 =>
    refine .inr ⟨o1, o1, rfl, by rw [Yaz ha]; exact h, rfl, rfl, by unfold plS; rw [if_neg hne], rfl, fun c ver hole l e => ⟨ver, hole, l, e, rfl, .inr ⟨rfl, fun h => ⟨h, fun i => ⟨rfl, by unfold plS; rw [if_neg (fun e => by cases e)]⟩⟩⟩⟩⟩
 refine ⟨⟨fun a o1 h1 => ?_, fun p q x hp hq => ?_, fun p x hp => ?_, fun x hx' => ?_, fun p x hp => ?_, ?_⟩, hx⟩
 ·by_cases e : a = X.length
  ·subst e
   rw [Yap] at h1; injection h1 with h1; subst h1; exact ho hx
  ·have ha : a < X.length := by
    have := Yah h1; simp at this; omega
   rw [Yaz ha] at h1
   refine (hr.obj a o1 h1).keep hx (fun p hp => ?_) (fun p x hp hpx => ?_)
   ·unfold plS; rw [if_neg (fun h => e (by subst h; exact hp.symm))]
   ·rw [YzS (hr.bd hpx)]
 ·unfold plS at hp hq
  split at hp <;> split at hq
  ·rename_i h1 h2; rw [h1, h2]
  ·injection hp with hp; subst hp; have := hr.bd hq; omega
  ·injection hq with hq; subst hq; have := hr.bd hp; omega
  ·exact hr.inj p q x hp hq
 ·unfold plS at hp
  split at hp
  ·rename_i h; subst h; exact ⟨o, Yap X _⟩
  ·have := hr.own p x hp
   cases p with
   | m a => obtain ⟨o1, h1⟩ := this; exact ⟨o1, by rw [Yaz (Yah h1)]; exact h1⟩
   | n a i => obtain ⟨c, ver, hole, l, h1, h2⟩ := this; exact ⟨c, ver, hole, l, by rw [Yaz (Yah h1)]; exact h1, h2⟩
 ·have h1 := hr.fr x hx'
  have := hr.le
  exact ⟨h1.1, by rw [YzS (by omega)]; exact h1.2⟩
 ·unfold plS at hp
  split at hp
  ·injection hp with hp; subst hp; intro hf; have := (hr.fr _ hf).1; have := hr.le; omega
  ·exact hr.nfr p x hp
 ·have := hr.le; simp; omega
theorem YcB (hr : HRel Fr H0 X pl H) {a x : Nat} {o : VObj} (ha : vget X a = some o) (hp : pl (.m a) = some x) :
  HRel Fr H0 (vset X a none) (plK pl a) (H.set x none) /\ Ext X pl (vset X a none) (plK pl a) := by
 have hal := Yah ha
 have hx : Ext X pl (vset X a none) (plK pl a) := by
  refine ⟨by rw [Yae]; exact Nat.le_refl _, fun b hb => ?_⟩
  by_cases e : b = a
  ·subst e; exact .inl (Yax _ hal)
  ·rw [Yao _ (Ne.symm e)]
   cases h : vget X b with
   | none => exact .inl rfl
   | some o1 => exact .inr ⟨o1, o1, rfl, rfl, rfl, rfl, by unfold plK; rw [if_neg (by simpa [Pos.of] using e)], rfl, fun c ver hole l e' => ⟨ver, hole, l, e', rfl, .inr ⟨rfl, fun h => ⟨h, fun i => ⟨rfl, by unfold plK; rw [if_neg (by simpa [Pos.of] using e)]⟩⟩⟩⟩⟩
 have hk : ∀ {p y}, plK pl a p = some y -> p.of ≠ a /\ pl p = some y := by
  intro p y h
  unfold plK at h
  split at h
  ·cases h
  ·exact ⟨by assumption, h⟩
 have hyx : ∀ {p y}, p.of ≠ a -> pl p = some y -> y ≠ x := fun h1 h2 e => by
  subst e
  have := hr.inj _ _ _ h2 hp
  subst this; exact h1 rfl
 refine ⟨⟨fun b o1 h1 => ?_, fun p q y h1 h2 => hr.inj p q y (hk h1).2 (hk h2).2, fun p y h1 => ?_, fun y hy => ?_, fun p y h1 => hr.nfr p y (hk h1).2, by have := hr.le; simpa using this⟩, hx⟩
 ·have hb : b ≠ a := fun e => by subst e; rw [Yax _ hal] at h1; cases h1
  rw [Yao _ (Ne.symm hb)] at h1
  refine (hr.obj b o1 h1).keep hx (fun p hpb => ?_) (fun p y hpb hpy => ?_)
  ·unfold plK; rw [if_neg (by rw [hpb]; exact hb)]
  ·rw [YzV (Ne.symm (hyx (by rw [hpb]; exact hb) hpy))]
 ·obtain ⟨h2, h3⟩ := hk h1
  have := hr.own p y h3
  cases p with
  | m b => obtain ⟨o1, k1⟩ := this; exact ⟨o1, by rw [Yao _ (show a ≠ b from fun e => h2 e.symm)]; exact k1⟩
  | n b i => obtain ⟨c, ver, hole, l, k1, k2⟩ := this; exact ⟨c, ver, hole, l, by rw [Yao _ (show a ≠ b from fun e => h2 e.symm)]; exact k1, k2⟩
 ·have h1 := hr.fr y hy
  refine ⟨h1.1, ?_⟩
  rw [YzV (fun e => hr.nfr _ _ hp (by rw [e]; exact hy))]
  exact h1.2
theorem YbE (hr : HRel Fr H0 X pl H) {a x : Nat} {o o' : VObj} (ha : vget X a = some o) (hp : pl (.m a) = some x) (O : AObj) (hn : elN o' = elN o) (hl : lenO o' = lenO o) (hnf : ∀ c v h l, o' ≠ .fm c v h l) (hnf0 : ∀ c v h l, o ≠ .fm c v h l)
  (ho : Ext X pl (vset X a (some o')) pl -> OR (vset X a (some o')) pl (H.set x (some O)) a o') :
  HRel Fr H0 (vset X a (some o')) pl (H.set x (some O)) /\ Ext X pl (vset X a (some o')) pl := by
 have hal := Yah ha
 have hx : Ext X pl (vset X a (some o')) pl := by
  refine ⟨by rw [Yae]; exact Nat.le_refl _, fun b hb => ?_⟩
  by_cases e : b = a
  ·subst e; exact .inr ⟨o, o', ha, Yax _ hal, hn, hl, rfl, by cases o <;> cases o' <;> first | rfl | exact absurd rfl (hnf _ _ _ _) | exact absurd rfl (hnf0 _ _ _ _), fun c ver hole l e => absurd e (hnf _ _ _ _)⟩
  ·rw [Yao _ (Ne.symm e)]
   cases h : vget X b with
   | none => exact .inl rfl
   | some o1 => exact .inr ⟨o1, o1, rfl, rfl, rfl, rfl, rfl, rfl, fun c ver hole l e' => ⟨ver, hole, l, e', rfl, .inr ⟨rfl, fun h => ⟨h, fun i => ⟨rfl, rfl⟩⟩⟩⟩⟩
 have hno : ∀ {p y}, p.of = a -> pl p = some y -> p = .m a := by
  intro p y h1 h2
  have := hr.own p y h2
  cases p with
  | m b => simp only [Pos.of] at h1; rw [h1]
  | n b i =>
    simp only [Pos.of] at h1; subst h1
    obtain ⟨c, v, h, l, k, _⟩ := this
    rw [ha] at k; injection k with k; exact absurd k (hnf0 _ _ _ _)
 refine ⟨⟨fun b o1 h1 => ?_, hr.inj, fun p y h1 => ?_, fun y hy => ?_, hr.nfr, by have := hr.le; simpa using this⟩, hx⟩
 ·by_cases e : b = a
  ·subst e
   rw [Yax _ hal] at h1; injection h1 with h1; subst h1; exact ho hx
  ·rw [Yao _ (Ne.symm e)] at h1
   refine (hr.obj b o1 h1).keep hx (fun p _ => rfl) (fun p y hpb hpy => ?_)
   rw [YzV (fun e' => e (by subst e'; have := hr.inj _ _ _ hpy hp; subst this; exact hpb.symm))]
 ·have := hr.own p y h1
  by_cases e : p.of = a
  ·have := hno e h1; subst this; exact ⟨o', Yax _ hal⟩
  ·cases p with
   | m b => obtain ⟨o1, k1⟩ := this; exact ⟨o1, by rw [Yao _ (show a ≠ b from fun e' => e e'.symm)]; exact k1⟩
   | n b i => obtain ⟨c, ver, hole, l, k1, k2⟩ := this; exact ⟨c, ver, hole, l, by rw [Yao _ (show a ≠ b from fun e' => e e'.symm)]; exact k1, k2⟩
 ·have h1 := hr.fr y hy
  refine ⟨h1.1, ?_⟩
  rw [YzV (fun e => hr.nfr _ _ hp (by rw [e]; exact hy))]
  exact h1.2
end
end Go.Abs
namespace Go.Abs
open Go Go.RowKit
def K1.av : K1 -> AV
 | .i k n => .v (.int k n)
 | .b x => .v (.bool x)
 | .s x => .v (.string x)
 | .e _ => .emp
 | .v x => .v x
def K1.val : K1 -> Value
 | .i k n => .int k n
 | .b x => .bool x
 | .s x => .string x
 | .e _ => .slice none 0 0
 | .v x => x
def KC.av : KC -> AV
 | .one k => k.av
 | .ag l => .agg (l.map K1.av)
 | .tp l => .tup (l.map K1.av)
 | .f g => .clo g []
 | .v x => .v x
def VOpd.er : VOpd -> Opd
 | .t n => .t n
 | .c k => .c k.av
theorem Ykx {k : K1} (h : k.ok = true) : zc k.val = k.av := by
 cases k with
 | v x => cases x <;> first | rfl | cases h
 | _ => rfl
theorem CT.nil {X : YwG} {pl : Pl} : CT X pl [] [] := ⟨rfl, fun j c a h => by simp at h⟩
theorem CT.cons {X : YwG} {pl : Pl} {c : TV} {cs : List TV} {a : AV} {as : List AV} (h : TR X pl c a) (k : CT X pl cs as) : CT X pl (c :: cs) (a :: as) := by
 refine ⟨by simp [k.1], fun j c' a' h1 h2 => ?_⟩
 cases j with
 | zero => simp at h1 h2; subst h1; subst h2; exact h
 | succ j => simp at h1 h2; exact k.2 j c' a' h1 h2
theorem CT.inv {X : YwG} {pl : Pl} {c : TV} {cs : List TV} {as : List AV} (h : CT X pl (c :: cs) as) : ∃ a r, as = a :: r /\ TR X pl c a /\ CT X pl cs r := by
 cases as with
 | nil => have := h.1; simp at this
 | cons a r => exact ⟨a, r, rfl, h.2 0 c a rfl rfl, by simpa using h.1, fun j c' a' h1 h2 => h.2 (j + 1) c' a' h1 h2⟩
theorem CT.get {X : YwG} {pl : Pl} {cs : List TV} {as : List AV} (h : CT X pl cs as) {j : Nat} {c : TV} (hj : cs[j]? = some c) : ∃ a, as[j]? = some a /\ TR X pl c a := by
 have hl : j < cs.length := (YzN.1 hj).1
 have hl' : j < as.length := by rw [<- h.1]; exact hl
 exact ⟨as[j], YzO hl', h.2 j c _ hj (YzO hl')⟩
theorem CT.take {X : YwG} {pl : Pl} {cs : List TV} {as : List AV} (h : CT X pl cs as) (n : Nat) : CT X pl (cs.take n) (as.take n) := by
 refine ⟨by simp [h.1], fun j c a h1 h2 => ?_⟩
 rw [Yz3] at h1 h2
 split at h1
 ·rename_i hj; rw [if_pos hj] at h2; exact h.2 j c a h1 h2
 ·cases h1
theorem CT.drop {X : YwG} {pl : Pl} {cs : List TV} {as : List AV} (h : CT X pl cs as) (n : Nat) : CT X pl (cs.drop n) (as.drop n) := by
 refine ⟨by simp [h.1], fun j c a h1 h2 => ?_⟩
 rw [Yz8] at h1 h2
 exact h.2 _ c a h1 h2
theorem CT.append {X : YwG} {pl : Pl} {cs ds : List TV} {as bs : List AV} (h : CT X pl cs as) (k : CT X pl ds bs) : CT X pl (cs ++ ds) (as ++ bs) := by
 refine ⟨by simp [h.1, k.1], fun j c a h1 h2 => ?_⟩
 by_cases hj : j < cs.length
 ·rw [YzS hj] at h1
  rw [YzS (by rw [<- h.1]; exact hj)] at h2
  exact h.2 j c a h1 h2
 ·rw [YzU (by omega)] at h1
  rw [YzU (by rw [<- h.1]; omega), <- h.1] at h2
  exact k.2 _ c a h1 h2
theorem CT.spl {X : YwG} {pl : Pl} {l cs : List TV} {as bs : List AV} (h : CT X pl l as) (k : CT X pl cs bs) (j : Nat) : CT X pl (spl l j cs) (splice as j bs) := by
 unfold Go.Abs.spl splice
 rw [<- k.1]
 exact ((h.take j).append k).append (h.drop _)
theorem CT.map1 {X : YwG} {pl : Pl} (l : List K1) : CT X pl (l.map K1.tv) (l.map K1.av) := by
 induction l with
 | nil => exact .nil
 | cons k r ih =>
   refine .cons ?_ ih
   cases k <;> first | exact .i _ _ | exact .b _ | exact .s _ | exact .e _ | exact .v _
section
variable {X : YwG} {pl : Pl}
theorem YqN (k : KC) : TR X pl k.tv k.av := by
 cases k with
 | one k => cases k <;> first | exact .i _ _ | exact .b _ | exact .s _ | exact .e _ | exact .v _
 | ag l => have h := CT.map1 (X := X) (pl := pl) l; exact .ag _ _ h.1 h.2
 | tp l => have h := CT.map1 (X := X) (pl := pl) l; exact .tp _ _ h.1 h.2
 | f g => exact .clo g _ _ rfl (fun j c a h => by simp at h)
 | v x => exact .v x
def ERel (X : YwG) (pl : Pl) (env : VEnv) (ae : Env) : Prop := ∀ t, TR X pl (YwV env t) (YwJ ae t)
theorem ERel.ext {X' : YwG} {pl' : Pl} {env : VEnv} {ae : Env} (h : ERel X pl env ae) (hx : Ext X pl X' pl') : ERel X' pl' env ae := fun t => (h t).ext hx
theorem Yas {env : VEnv} {ae : Env} (h : ERel X pl env ae) (x : VOpd) : TR X pl (vo env x) (opd ae x.er) := by
 cases x with
 | t n => exact h n
 | c k => exact YqN k
theorem YaP {a : AV} {es : Nat} {l : List (List AV)} (h : Coe a (.rd es l)) : (a = .emp /\ l = []) \/ ∃ l0, a = .rd es l0 /\ l0.length = l.length /\ ∀ (i : Nat) (e e' : List AV), l0[i]? = some e -> l[i]? = some e' -> CC e e' := by
 generalize hb : AV.rd es l = b at h
 cases h with
 | refl => subst hb; exact .inr ⟨l, rfl, rfl, fun i e e' h1 h2 => by rw [h1] at h2; injection h2 with h2; subst h2; exact ⟨rfl, fun j x x' h3 h4 => by rw [h3] at h4; injection h4 with h4; subst h4; exact .refl _⟩⟩
 | empRd es => injection hb with _ h2; exact .inl ⟨rfl, h2⟩
 | rd es l0 l' hl hz h => injection hb with h1 h2; subst h1; subst h2; exact .inr ⟨l0, rfl, hl, fun i e e' h1 h2 => ⟨hz i e e' h1 h2, fun j x x' h3 h4 => h i e e' j x x' h1 h2 h3 h4⟩⟩
 | _ => cases hb
theorem YaN {a : AV} {x : Value} (h : Coe a (.v x)) : a = .v x := by cases h; rfl
theorem YqO {t : Ty} {v : t.den} {a : AV} (h : Coe a (t.enc v)) : TR X pl (tvOf t v) a := by
 cases t with
 | i k => simp only [Ty.enc] at h; rw [YaN h]; exact .i _ _
 | b => simp only [Ty.enc] at h; rw [YaN h]; exact .b _
 | s => simp only [Ty.enc] at h; rw [YaN h]; exact .s _
 | l c => simp only [Ty.enc] at h; exact .l c v a h
theorem YbF : ∀ (c : Cs) (v : c.den) {e : List AV}, CC e (c.enc v) -> CT X pl (cells c v) e
 | .nil, v, e, h => by
   have := h.1
   simp only [Cs.enc, List.length_nil] at this
   rw [YzY.1 this]; exact .nil
 | .cons t r, v, e, h => by
   cases e with
   | nil => have := h.1; simp [Cs.enc] at this
   | cons a as =>
     simp only [cells]
     refine .cons (YqO (h.2 0 a _ rfl (by simp [Cs.enc]))) (YbF r _ ⟨by have := h.1; simpa [Cs.enc] using this, fun j x x' h1 h2 => h.2 (j + 1) x x' h1 (by simpa [Cs.enc] using h2)⟩)
theorem YaQ {c c' : Cs} {l : List c.den} {l' : List c'.den} (h : asL c c' l = some l') : ∃ e : c = c', e ▸ l = l' := by
 unfold asL at h
 obtain ⟨e, h1⟩ := Ty.cast_some h
 injection e with e
 subst e
 exact ⟨rfl, h1⟩
theorem Yaa {β : Type} {b : Bool} {x : Option β} {r : β} (h : (bif b then x else none) = some r) : b = true /\ x = some r := by
 cases b with
 | false => cases h
 | true => exact ⟨rfl, h⟩
theorem Yky {t : Ty} {tv : TV} {a : AV} {x : t.den} (h : toD t tv = some x) (hr : TR X pl tv a) : Coe a (t.enc x) := by
 cases t with
 | i k =>
   cases tv with
   | i k' n =>
     obtain ⟨h1, h2⟩ := Yaa (b := decide (k' = k)) (x := some n) (by exact h)
     have := of_decide_eq_true h1; subst this
     injection h2 with h2; subst h2
     cases hr; exact .refl _
   | _ => cases h
 | b =>
   cases tv with
   | b y => have h : some y = some x := h; injection h with h; subst h; cases hr; exact .refl _
   | _ => cases h
 | s =>
   cases tv with
   | s y => have h : some y = some x := h; injection h with h; subst h; cases hr; exact .refl _
   | _ => cases h
 | l c =>
   cases tv with
   | l c' v =>
     obtain ⟨e, h1⟩ := YaQ (c := c') (c' := c) (l := v) (l' := x) h
     subst e; subst h1
     cases hr with
     | l _ _ _ h => exact h
   | e c' =>
     have h : (bif c'.eqb c then some ([] : List c.den) else none) = some x := h
     obtain ⟨h1, h2⟩ := Yaa h
     injection h2 with h2; subst h2
     cases hr; exact .empRd _
   | _ => cases h
theorem YcC : ∀ {c : Cs} {cs : List TV} {as : List AV} {v : c.den}, pack c cs = some v -> CT X pl cs as -> CC as (c.enc v)
 | .nil, [], as, v, h, hc => by
   have := hc.1
   cases as with
   | nil => exact ⟨rfl, fun j x x' h => by simp at h⟩
   | cons _ _ => simp at this
 | .cons t r, a :: cs, as, v, h, hc => by
   obtain ⟨b, bs, rfl, h1, h2⟩ := hc.inv
   simp only [pack] at h
   split at h
   ·rename_i x y hx hy
    injection h with h; subst h
    have k1 := Yky hx h1
    have k2 := YcC hy h2
    simp only [Cs.enc, YbB, YbC]
    refine ⟨by simp [k2.1], fun j x x' g1 g2 => ?_⟩
    cases j with
    | zero => simp at g1 g2; subst g1; subst g2; exact k1
    | succ j => simp at g1 g2; exact k2.2 j x x' g1 g2
   ·cases h
 | .nil, _ :: _, _, _, h, _ => by simp [pack] at h
 | .cons _ _, [], _, _, h, _ => by simp [pack] at h
theorem Ykz : ∀ {c : Cs} {cs : List TV} {v : c.den}, pack c cs = some v -> cs.length = c.width
 | .nil, [], _, _ => rfl
 | .cons t r, a :: cs, v, h => by
   simp only [pack] at h
   split at h
   ·rename_i x y hx hy; simp only [YAb, Cs.width, Ykz hy]
   ·cases h
 | .nil, _ :: _, _, h => by simp [pack] at h
 | .cons _ _, [], _, h => by simp [pack] at h
def CE (X : YwG) (pl : Pl) (cs : List (List TV)) (as : List (List AV)) : Prop :=
 cs.length = as.length /\ ∀ (i : Nat) (e : List TV) (f : List AV), cs[i]? = some e -> as[i]? = some f -> CT X pl e f
theorem YcD : ∀ {c : Cs} {cs : List (List TV)} {as : List (List AV)} {l : List c.den}, YxP c cs = some l -> CE X pl cs as -> Rows as c l
 | c, [], as, l, h, hc => by
   simp only [YxP] at h; injection h with h; subst h
   have := hc.1
   cases as with
   | nil => exact ⟨rfl, fun i e v h => by simp at h⟩
   | cons _ _ => simp at this
 | c, a :: cs, as, l, h, hc => by
   cases as with
   | nil => have := hc.1; simp at this
   | cons b bs =>
     simp only [YxP] at h
     split at h
     ·rename_i x y hx hy
      injection h with h; subst h
      have k1 := YcC hx (hc.2 0 a b rfl rfl)
      have k2 := YcD hy (as := bs) ⟨by simpa using hc.1, fun i e f h1 h2 => hc.2 (i + 1) e f h1 h2⟩
      refine ⟨by simp [k2.1], fun i e v h1 h2 => ?_⟩
      cases i with
      | zero => simp at h1 h2; subst h1; subst h2; exact k1
      | succ i => simp at h1 h2; exact k2.2 i e v h1 h2
     ·cases h
theorem Yfy {tv : TV} {a : AV} {cs : List TV} (h : YwO X tv = some cs) (hr : TR X pl tv a) : ∃ as, cellsOf a = some as /\ CT X pl cs as := by
 have one : ∀ {tv a}, TR X pl tv a -> CT X pl [tv] [a] := fun h => .cons h .nil
 cases tv with
 | i k n => simp only [YwO] at h; injection h with h; subst h; have hr' := hr; cases hr'; exact ⟨_, by simp [cellsOf, Value.oneCell'], one hr⟩
 | b x => simp only [YwO] at h; injection h with h; subst h; have hr' := hr; cases hr'; exact ⟨_, by simp [cellsOf, Value.oneCell'], one hr⟩
 | s x => simp only [YwO] at h; injection h with h; subst h; have hr' := hr; cases hr'; exact ⟨_, by simp [cellsOf, Value.oneCell'], one hr⟩
 | l c v =>
   simp only [YwO] at h; injection h with h; subst h
   have hr' := hr
   cases hr' with
   | l _ _ _ hc =>
     rcases YaP hc with ⟨rfl, _⟩ | ⟨l0, rfl, _⟩ <;> exact ⟨_, by simp [cellsOf], one hr⟩
 | e c => simp only [YwO] at h; injection h with h; subst h; have hr' := hr; cases hr'; exact ⟨_, by simp [cellsOf], one hr⟩
 | u => simp [YwO] at h
 | v x =>
   simp only [YwO] at h
   cases hx : x.oneCell' with
   | false => simp [hx] at h
   | true => simp [hx] at h; subst h; have hr' := hr; cases hr'; exact ⟨_, by simp [cellsOf, hx], one hr⟩
 | ref a =>
   simp only [YwO] at h
   cases ho : vget X a with
   | none => simp [ho] at h
   | some o =>
     simp [ho] at h; subst h
     have hr' := hr
     cases hr' with
     | ref => exact ⟨_, by simp [cellsOf], one hr⟩
     | refD _ _ h => rw [ho] at h; cases h
 | pre a n =>
   simp only [YwO] at h
   cases ho : vget X a with
   | none => simp [ho] at h
   | some o =>
     simp [ho] at h; subst h
     have hr' := hr
     cases hr' with
     | pre => exact ⟨_, by simp [cellsOf], one hr⟩
     | preD _ _ _ h => rw [ho] at h; cases h
 | ptr a i j =>
   simp only [YwO] at h
   cases ho : vget X a with
   | none => simp [ho] at h
   | some o =>
     simp [ho] at h; subst h
     have hr' := hr
     cases hr' with
     | ptr => exact ⟨_, by simp [cellsOf], one hr⟩
     | ptrD _ _ _ _ h => rw [ho] at h; cases h
 | np a =>
   simp only [YwO] at h
   cases ho : vget X a with
   | none => simp [ho] at h
   | some o =>
     simp [ho] at h; subst h
     have hr' := hr
     cases hr' with
     | np => exact ⟨_, by simp [cellsOf], one hr⟩
     | npD _ _ h => rw [ho] at h; cases h
 | sub _ _ _ => simp [YwO] at h
 | pti _ _ _ _ _ => simp [YwO] at h
 | lt _ => simp [YwO] at h
 | tp _ => simp [YwO] at h
 | ag ds => simp only [YwO] at h; injection h with h; subst h; cases hr with
   | ag _ as hl h => exact ⟨as, by simp [cellsOf], hl, h⟩
 | rp ds => simp only [YwO] at h; injection h with h; subst h; have hr' := hr; cases hr'; exact ⟨_, by simp [cellsOf], one hr⟩
 | clo g ds => simp only [YwO] at h; injection h with h; subst h; have hr' := hr; cases hr'; exact ⟨_, by simp [cellsOf], one hr⟩
theorem YkA {g : Bool} {n : Nat} {cs : List TV} {as : List AV} {v : TV} {K : AV -> Prop} (h : YxQ g n cs = some v) (hc : CT X pl cs as) (hk : ∀ a, TR X pl v a -> K a) : Yxj g n as K := by
 cases g with
 | true =>
   simp only [YxQ] at h
   cases hn : Nat.ble n cs.length with
   | false => rw [hn, cond_false] at h; cases h
   | true =>
     rw [hn, cond_true] at h; injection h with h; subst h
     exact ⟨by rw [<- hc.1]; simpa using hn, hk _ (.ag _ _ (hc.take n).1 (hc.take n).2)⟩
 | false =>
   simp only [YxQ] at h
   obtain ⟨a, h1, h2⟩ := hc.get h
   exact ⟨a, h1, hk a h2⟩
theorem Yaj {β : Type} {p : Prop} [Decidable p] {x : Option β} {r : β} (h : chk p x = some r) : p /\ x = some r := by
 unfold chk at h
 by_cases hp : p
 ·rw [decide_eq_true hp, cond_true] at h; exact ⟨hp, h⟩
 ·rw [decide_eq_false hp, cond_false] at h; cases h
theorem YkB (bs : ByteArray) : ∀ (m i : Nat) (r : List UInt8), bs.size - i = m -> ByteArray.toList.loop bs i r = r.reverse ++ bs.data.toList.drop i
 | 0, i, r, h => by
   unfold ByteArray.toList.loop
   have h2 : ¬ i < bs.size := by omega
   rw [if_neg h2, List.drop_of_length_le (by simp; change bs.data.size <= i; have : bs.size = bs.data.size := rfl; omega), YAk]
 | m + 1, i, r, h => by
   unfold ByteArray.toList.loop
   have h2 : i < bs.size := by omega
   have h3 : i < bs.data.toList.length := by simp; exact h2
   rw [if_pos h2, YkB bs m (i + 1) _ (by omega), List.drop_eq_getElem_cons h3]
   simp only [List.reverse_cons, YzX, List.singleton_append]
   congr 2
   simp only [ByteArray.get!]
   cases bs with
   | mk d => simp only [Array.getElem_toList]; rw [getElem!_pos d i (by simpa using h3)]
theorem YaR (bs : ByteArray) : bs.toList = bs.data.toList := by
 have := YkB bs _ 0 [] rfl
 simpa [ByteArray.toList] using this
theorem YkC (x y : ByteArray) : (x.toList == y.toList) = decide (x = y) := by
 rw [Bool.eq_iff_iff, beq_iff_eq, decide_eq_true_iff]
 constructor
 ·intro h
  have h2 : ∀ z : ByteArray, z.toList = z.data.toList := fun z => YaR z
  rw [h2, h2] at h
  cases x; cases y
  simp only [ByteArray.mk.injEq]
  exact Array.toList_inj.1 h
 ·rintro rfl; rfl
variable {β : Type} {r : β}
theorem YqP {op : BinOp} {k : IntKind} {x y : Int} {K : TV -> Option β} (h : vint op k x y K = some r) {KA : Value -> Prop} (hk : ∀ w z, K w = some r -> TR X pl w (.v z) -> KA z) : Yxq op k x y KA := by
 cases op <;> simp only [vint] at h
 case quo => obtain ⟨h1, h2⟩ := Yaj h; exact ⟨h1, hk _ _ h2 (.i _ _)⟩
 case rem => obtain ⟨h1, h2⟩ := Yaj h; exact ⟨h1, hk _ _ h2 (.i _ _)⟩
 case shl => obtain ⟨h1, h2⟩ := Yaj h; exact ⟨h1, hk _ _ h2 (.i _ _)⟩
 case shr => obtain ⟨h1, h2⟩ := Yaj h; exact ⟨h1, hk _ _ h2 (.i _ _)⟩
 case eql => simp only [Yxq]; rw [show (x == y) = decide (x = y) from by rw [Bool.eq_iff_iff]; simp]; exact hk _ _ h (.b _)
 case neq => simp only [Yxq]; rw [show (x != y) = !decide (x = y) from by rw [Bool.eq_iff_iff]; simp]; exact hk _ _ h (.b _)
 all_goals exact hk _ _ h (by constructor)
theorem YqQ {op : BinOp} {x y : ByteArray} {K : TV -> Option β} (h : vstr op x y K = some r) {KA : Value -> Prop} (hk : ∀ w z, K w = some r -> TR X pl w (.v z) -> KA z) : Yxz op x y KA := by
 cases op <;> simp only [vstr] at h
 case add => obtain ⟨h1, h2⟩ := Yaj h; exact ⟨Int.ofNat_le.2 (Nat.le_of_ble_eq_true h1), hk _ _ h2 (.s _)⟩
 all_goals first
  | (simp only [Yxz, YkC]; exact hk _ _ h (.b _))
  | cases h
theorem YqR {op : BinOp} {a b : TV} {va vb : AV} {K : TV -> Option β} (h : vbin op a b K = some r) (ha : TR X pl a va) (hb : TR X pl b vb) {KA : Value -> Prop}
  (hk : ∀ w z, K w = some r -> TR X pl w (.v z) -> KA z) : binK op va vb KA := by
 unfold vbin at h
 split at h
 ·obtain ⟨h1, h2⟩ := Yaa h
  cases ha; cases hb
  exact ⟨of_decide_eq_true h1, YqP h2 hk⟩
 ·cases ha; cases hb
  exact YqQ h hk
 ·cases h
theorem YkD : ∀ {ks : List Nat} {cs ds : List TV} {as bs : List AV} {x : Bool}, eqV ks cs ds = some x -> CT X pl cs as -> CT X pl ds bs -> eqL ks as bs = some x
 | [], [], [], as, bs, x, h, h1, h2 => by
   have k1 := h1.1; have k2 := h2.1
   cases as <;> cases bs <;> simp at k1 k2
   simpa [eqV, eqL] using h
 | k :: ks, a :: cs, b :: ds, as, bs, x, h, h1, h2 => by
   obtain ⟨va, vas, rfl, g1, g2⟩ := h1.inv
   obtain ⟨vb, vbs, rfl, g3, g4⟩ := h2.inv
   simp only [eqV] at h
   split at h
   ·rename_i x1 y1 hx hy
    simp only [eqL, YkD hy g2 g4]
    have : eqAV k va vb = some x1 := by
     unfold eqV1 at hx
     split at hx
     ·cases g1; cases g3; simpa [eqAV] using hx
     ·obtain ⟨e1, e2⟩ := Yaa hx
      have := of_decide_eq_true e1; subst this
      cases g1; cases g3
      simp only [eqAV, if_true]
      rw [<- e2]; rw [Option.some.injEq, Bool.eq_iff_iff]; simp
     ·cases g1; cases g3
      simp only [eqAV, YkC]; exact hx
     ·cases hx
    rw [this]; exact h
   ·cases h
 | [], [], _ :: _, _, _, _, h, _, _ => by simp [eqV] at h
 | [], _ :: _, _, _, _, _, h, _, _ => by simp [eqV] at h
 | _ :: _, [], _, _, _, _, h, _, _ => by simp [eqV] at h
 | _ :: _, _ :: _, [], _, _, _, h, _, _ => by simp [eqV] at h
theorem YkE {mx : Bool} {k : IntKind} : ∀ {l : List TV} {as : List AV} {m : Int} {v : TV}, mmV mx k m l = some v -> CT X pl l as -> ∃ a, mmF mx k m as = some a /\ TR X pl v a
 | [], as, m, v, h, hc => by
   have := hc.1
   cases as with
   | nil => simp only [mmV] at h; injection h with h; subst h; exact ⟨_, rfl, .i _ _⟩
   | cons _ _ => simp at this
 | a :: l, as, m, v, h, hc => by
   obtain ⟨b, bs, rfl, h1, h2⟩ := hc.inv
   unfold mmV at h
   split at h
   ·rename_i he; cases he
   ·rename_i _ _ k' n r' he
    injection he with e1 e2; subst e1; subst e2
    cases h1
    simp only [mmF]
    have := YkE h h2
    cases mx <;> exact this
   ·cases h
end
end Go.Abs
namespace Go.Abs
open Go Go.RowKit
section
variable {Fr : Nat -> Prop} {H0 : Heap} {X : YwG} {pl : Pl} {H : Heap}
theorem HRel.build (hr : HRel Fr H0 X pl H) {X' : YwG} {pl' : Pl} {H' : Heap} (A : Nat -> Prop) (hx : Ext X pl X' pl')
  (hX : ∀ b, ¬ A b -> vget X' b = vget X b) (hp : ∀ p : Pos, ¬ A p.of -> pl' p = pl p)
  (hH : ∀ (p : Pos) x, ¬ A p.of -> pl p = some x -> H'[x]? = H[x]?)
  (obj : ∀ b o, A b -> vget X' b = some o -> OR X' pl' H' b o)
  (own : ∀ (p : Pos) x, A p.of -> pl' p = some x -> Live X' p)
  (src : ∀ (p : Pos) x, A p.of -> pl' p = some x -> (∃ q : Pos, pl q = some x /\ A q.of) \/ H.length <= x)
  (inj : ∀ (p q : Pos) x, A p.of -> A q.of -> pl' p = some x -> pl' q = some x -> p = q)
  (frH : ∀ x, Fr x -> H'[x]? = H[x]?) (le : H.length <= H'.length) : HRel Fr H0 X' pl' H' := by
 have mixed : ∀ (p q : Pos) x, A p.of -> ¬ A q.of -> pl' p = some x -> pl' q = some x -> False := by
  intro p q x h1 h2 h3 h4
  rw [hp q h2] at h4
  rcases src p x h1 h3 with ⟨q', k1, k2⟩ | k
  ·have := hr.inj _ _ _ k1 h4
   subst this; exact h2 k2
  ·have := hr.bd h4; omega
 refine ⟨fun b o h1 => ?_, fun p q x h1 h2 => ?_, fun p x h1 => ?_, fun x h1 => ?_, fun p x h1 => ?_, Nat.le_trans hr.le le⟩
 ·by_cases hb : A b
  ·exact obj b o hb h1
  ·rw [hX b hb] at h1
   exact (hr.obj b o h1).keep hx (fun p e => hp p (by rw [e]; exact hb)) (fun p x e e2 => hH p x (by rw [e]; exact hb) e2)
 ·by_cases ha : A p.of <;> by_cases hb : A q.of
  ·exact inj p q x ha hb h1 h2
  ·exact (mixed p q x ha hb h1 h2).elim
  ·exact (mixed q p x hb ha h2 h1).elim
  ·rw [hp p ha] at h1; rw [hp q hb] at h2; exact hr.inj p q x h1 h2
 ·by_cases ha : A p.of
  ·exact own p x ha h1
  ·rw [hp p ha] at h1
   have := hr.own p x h1
   cases p with
   | m b => obtain ⟨o, k⟩ := this; exact ⟨o, by rw [hX b ha]; exact k⟩
   | n b i => obtain ⟨c, v, h, l, k, k2⟩ := this; exact ⟨c, v, h, l, by rw [hX b ha]; exact k, k2⟩
 ·have := hr.fr x h1
  exact ⟨this.1, by rw [frH x h1]; exact this.2⟩
 ·by_cases ha : A p.of
  ·rcases src p x ha h1 with ⟨q, k1, k2⟩ | k
   ·exact hr.nfr q x k1
   ·intro hf; have := (hr.fr x hf).1; have := hr.le; omega
  ·rw [hp p ha] at h1; exact hr.nfr p x h1
theorem YcE (hr : HRel Fr H0 X pl H) {a : Nat} {c : Cs} {ver : Nat} {hole : Option Nat} {l : List (List c.den)} (ha : vget X a = some (.fm c ver hole l)) {p : Pos} {x : Nat} (hp : pl p = some x) (hpa : p.of = a) :
  p = .m a \/ ∃ i, p = .n a i /\ i < l.length /\ hole ≠ some i := by
 have := hr.own p x hp
 cases p with
 | m b => simp only [Pos.of] at hpa; exact .inl (by rw [hpa])
 | n b i =>
   simp only [Pos.of] at hpa; subst hpa
   obtain ⟨c', v, h, l', k, k1, k2⟩ := this
   rw [ha] at k; injection k with k; injection k with k0 k3 k4 k5
   subst k0; have k5 := eq_of_heq k5; subst k5; subst k4
   exact .inr ⟨i, rfl, k1, k2⟩
theorem YqS (hr : HRel Fr H0 X pl H) {a : Nat} {c : Cs} {l : List c.den} (ha : vget X a = some (.sq c l)) {p : Pos} {x : Nat} (hp : pl p = some x) (hpa : p.of = a) : p = .m a := by
 have := hr.own p x hp
 cases p with
 | m b => simp only [Pos.of] at hpa; rw [hpa]
 | n b i =>
   simp only [Pos.of] at hpa; subst hpa
   obtain ⟨c', v, h, l', k, _⟩ := this
   rw [ha] at k; injection k with k; cases k
theorem YqT (hr : HRel Fr H0 X pl H) {a x m y i : Nat} {c : Cs} {ver : Nat} {hole : Option Nat} {l : List (List c.den)} {lm : List c.den} {el : List (List AV)}
  (ha : vget X a = some (.fm c ver hole l)) (hp : pl (.m a) = some x) (hm : vget X m = some (.sq c lm)) (hpm : pl (.m m) = some y) (hne : m ≠ a) (hi : i < l.length) (hh : hole = none \/ hole = some i) (hx : H[x]? = some (some ⟨1, el⟩)) :
  ∃ pl', HRel Fr H0 (vset (vset X m none) a (some (.fm c (ver + 1) none (l.set i lm)))) pl' (H.set x (some ⟨1, el.set i [.ref y 0 lm.length]⟩)) /\
    Ext X pl (vset (vset X m none) a (some (.fm c (ver + 1) none (l.set i lm)))) pl' := by
 have hal := Yah ha
 have hml := Yah hm
 refine ⟨fun q => if q = .n a i then some y else if q.of = m then none else pl q, ?_⟩
 have hgetm : vget (vset (vset X m none) a (some (.fm c (ver + 1) none (l.set i lm)))) m = none := by
  rw [Yao _ (Ne.symm hne)]; exact Yax _ hml
 have hgeta : vget (vset (vset X m none) a (some (.fm c (ver + 1) none (l.set i lm)))) a = some (.fm c (ver + 1) none (l.set i lm)) := Yax _ (by rw [Yae]; exact hal)
 have hgetb : ∀ b, b ≠ a -> b ≠ m -> vget (vset (vset X m none) a (some (.fm c (ver + 1) none (l.set i lm)))) b = vget X b := fun b h1 h2 => by
  rw [Yao _ (Ne.symm h1), Yao _ (Ne.symm h2)]
 have hpa : ∀ q : Pos, q.of ≠ a -> q.of ≠ m -> (if q = .n a i then some y else if q.of = m then none else pl q) = pl q := fun q h1 h2 => by
  rw [if_neg (fun e => by subst e; exact h1 rfl), if_neg h2]
 have hma : (if Pos.m a = .n a i then some y else if (Pos.m a).of = m then none else pl (.m a)) = pl (.m a) := by
  rw [if_neg (fun e => by cases e), if_neg (fun e => hne e.symm)]
 have hxt : Ext X pl (vset (vset X m none) a (some (.fm c (ver + 1) none (l.set i lm)))) (fun q => if q = .n a i then some y else if q.of = m then none else pl q) := by
  refine ⟨by rw [Yae, Yae]; exact Nat.le_refl _, fun b hb => ?_⟩
  by_cases e1 : b = a
  ·subst e1
   exact .inr ⟨_, _, ha, hgeta, by simp [elN], by simp [lenO], hma, rfl, fun c' v' h' l' e => by
    injection e with e0 e1 e2 e3
    subst e0; subst e1; subst e2; have e3 := eq_of_heq e3; subst e3
    exact ⟨ver, hole, l, rfl, by simp, .inl (by omega)⟩⟩
  ·by_cases e2 : b = m
   ·subst e2; exact .inl hgetm
   ·rw [hgetb b e1 e2]
    cases h : vget X b with
    | none => exact .inl rfl
    | some o => exact .inr ⟨o, o, rfl, rfl, rfl, rfl, hpa _ e1 e2, rfl, fun c' v' h' l' e => ⟨v', h', l', e, rfl, .inr ⟨rfl, fun h => ⟨h, fun j => ⟨rfl, hpa _ e1 e2⟩⟩⟩⟩⟩
 refine ⟨hr.build (fun b => b = a \/ b = m) hxt (fun b hb => hgetb b (fun e => hb (.inl e)) (fun e => hb (.inr e))) (fun p hb => hpa p (fun e => hb (.inl e)) (fun e => hb (.inr e))) (fun p z hb hz => ?_) (fun b o hb ho => ?_) (fun p z hb hz => ?_) (fun p z hb hz => ?_) (fun p q z hb hb' hz hz' => ?_) (fun z hz => ?_) (by simp), hxt⟩
 ·rw [YzV (fun e => ?_)]
  subst e
  have := hr.inj _ _ _ hz hp
  subst this; exact hb (.inl rfl)
 ·rcases hb with rfl | rfl
  ·rw [hgeta] at ho; injection ho with ho; subst ho
   obtain ⟨x', el', h1, h2, h3, h4, h5, h6⟩ := hr.obj b _ ha
   rw [hp] at h1; injection h1 with h1; subst h1
   rw [hx] at h2; injection h2 with h2; injection h2 with h2; injection h2 with _ h2; subst h2
   have hxl := (YzN.1 hx).1
   refine ⟨x, _, hma.trans hp, YzZ hxl, h3, by simp [h4], fun e he => ?_, fun j e v k1 k2 _ => ?_⟩
   ·rcases List.mem_or_eq_of_mem_set he with he | rfl
    ·exact h5 e he
    ·rfl
   ·by_cases hj : j = i
    ·subst hj
     rw [YzZ (by omega)] at k1 k2
     injection k1 with k1; injection k2 with k2; subst k1; subst k2
     obtain ⟨y', el2, g1, g2, g3, g4⟩ := hr.obj m _ hm
     rw [hpm] at g1; injection g1 with g1; subst g1
     refine .inl ⟨y, el2, by simp, rfl, ?_, g4⟩
     rw [YzV (fun e => by subst e; have := hr.inj _ _ _ hp hpm; injection this with this; exact hne this.symm)]
     exact g2
    ·rw [YzV (Ne.symm hj)] at k1 k2
     have hnj : hole ≠ some j := by rcases hh with rfl | rfl <;> simp; omega
     have hpj : (if Pos.n b j = .n b i then some y else if (Pos.n b j).of = m then none else pl (.n b j)) = pl (.n b j) := by
      rw [if_neg (fun e => by injection e with _ e; exact hj e), if_neg (fun e => hne e.symm)]
     rcases h6 j e v k1 k2 hnj with ⟨y', el2, g1, g2, g3, g4⟩ | ⟨g1, g2, g3⟩
     ·refine .inl ⟨y', el2, hpj.trans g1, g2, ?_, g4⟩
      rw [YzV (fun e => by subst e; have := hr.inj _ _ _ hp g1; cases this)]; exact g3
     ·exact .inr ⟨hpj.trans g1, g2, g3⟩
  ·rw [hgetm] at ho; cases ho
 ·skip
  split at hz
  ·rename_i e; subst e; exact ⟨_, _, _, _, hgeta, by simpa using hi, by simp⟩
  ·split at hz
   ·cases hz
   ·rename_i e1 e2
    have hpa' : p.of = a := hb.resolve_right e2
    rcases YcE hr ha hz hpa' with rfl | ⟨j, rfl, k1, k2⟩
    ·exact ⟨_, hgeta⟩
    ·exact ⟨_, _, _, _, hgeta, by simpa using k1, by simp⟩
 ·skip
  split at hz
  ·injection hz with hz; subst hz; exact .inl ⟨_, hpm, .inr rfl⟩
  ·split at hz
   ·cases hz
   ·exact .inl ⟨p, hz, hb⟩
 ·skip
  have key : ∀ {p : Pos} {z}, (if p = .n a i then some y else if p.of = m then none else pl p) = some z -> p = .n a i /\ z = y \/ (p ≠ .n a i /\ p.of ≠ m /\ pl p = some z) := by
   intro p z h
   split at h
   ·injection h with h; exact .inl ⟨by assumption, h.symm⟩
   ·split at h
    ·cases h
    ·exact .inr ⟨by assumption, by assumption, h⟩
  rcases key hz with ⟨rfl, rfl⟩ | ⟨h1, h2, h3⟩ <;> rcases key hz' with ⟨rfl, h4⟩ | ⟨h4, h5, h6⟩
  ·rfl
  ·have := hr.inj _ _ _ h6 hpm; subst this; exact absurd rfl h5
  ·subst h4; have := hr.inj _ _ _ h3 hpm; subst this; exact absurd rfl h2
  ·exact hr.inj _ _ _ h3 h6
 ·rw [YzV (fun e => hr.nfr _ _ hp (by rw [e]; exact hz))]
theorem YkF (hr : HRel Fr H0 X pl H) {a i : Nat} {c : Cs} {ver : Nat} {l : List (List c.den)} (ha : vget X a = some (.fm c ver none l)) {H' : Heap} (hlen : H'.length = H.length)
  (hH : ∀ z, pl (.n a i) ≠ some z -> H'[z]? = H[z]?) :
  HRel Fr H0 (vset X a (some (.fm c ver (some i) l))) (plS pl (.n a i) none) H' /\ Ext X pl (vset X a (some (.fm c ver (some i) l))) (plS pl (.n a i) none) := by
 have hal := Yah ha
 have hgeta : vget (vset X a (some (.fm c ver (some i) l))) a = some (.fm c ver (some i) l) := Yax _ hal
 have hgetb : ∀ b, b ≠ a -> vget (vset X a (some (.fm c ver (some i) l))) b = vget X b := fun b h => Yao _ (Ne.symm h)
 have hpb : ∀ p : Pos, p ≠ .n a i -> plS pl (.n a i) none p = pl p := fun p h => by unfold plS; rw [if_neg h]
 have hpo : ∀ p : Pos, p.of ≠ a -> p ≠ .n a i := fun p h e => by subst e; exact h rfl
 have hz0 : ∀ {p : Pos} {z}, plS pl (.n a i) none p = some z -> p ≠ .n a i /\ pl p = some z := by
  intro p z h
  unfold plS at h
  split at h
  ·cases h
  ·exact ⟨by assumption, h⟩
 have hxt : Ext X pl (vset X a (some (.fm c ver (some i) l))) (plS pl (.n a i) none) := by
  refine ⟨by rw [Yae]; exact Nat.le_refl _, fun b hb => ?_⟩
  by_cases e1 : b = a
  ·subst e1
   exact .inr ⟨_, _, ha, hgeta, rfl, rfl, hpb _ (fun e => by cases e), rfl, fun c' v' h' l' e => by
    injection e with e0 e1 e2 e3
    subst e0; subst e1; subst e2; have e3 := eq_of_heq e3; subst e3
    exact ⟨ver, none, l, rfl, rfl, .inr ⟨rfl, fun h => by cases h⟩⟩⟩
  ·rw [hgetb b e1]
   cases h : vget X b with
   | none => exact .inl rfl
   | some o => exact .inr ⟨o, o, rfl, rfl, rfl, rfl, hpb _ (hpo _ e1), rfl, fun c' v' h' l' e => ⟨v', h', l', e, rfl, .inr ⟨rfl, fun h => ⟨h, fun j => ⟨rfl, hpb _ (hpo _ e1)⟩⟩⟩⟩⟩
 have hHp : ∀ {p : Pos} {z}, p ≠ .n a i -> pl p = some z -> H'[z]? = H[z]? := fun h1 h2 => hH _ (fun e => h1 (hr.inj _ _ _ h2 e))
 refine ⟨hr.build (fun b => b = a) hxt (fun b hb => hgetb b hb) (fun p hb => hpb p (hpo p hb)) (fun p z hb hz => hHp (hpo p hb) hz) (fun b o hb ho => ?_) (fun p z hb hz => ?_) (fun p z hb hz => .inl ⟨p, (hz0 hz).2, hb⟩) (fun p q z _ _ hz hz' => hr.inj _ _ _ (hz0 hz).2 (hz0 hz').2) (fun z hz => ?_) (by omega), hxt⟩
 ·subst hb
  rw [hgeta] at ho; injection ho with ho; subst ho
  obtain ⟨x', el, h1, h2, h3, h4, h5, h6⟩ := hr.obj b _ ha
  refine ⟨x', el, (hpb _ (fun e => by cases e)).trans h1, (hHp (fun e => by cases e) h1).trans h2, h3, h4, h5, fun j e v k1 k2 k3 => ?_⟩
  have hj : (Pos.n b j : Pos) ≠ .n b i := fun e => by injection e with _ e; subst e; exact k3 rfl
  rcases h6 j e v k1 k2 (by simp) with ⟨y', el2, g1, g2, g3, g4⟩ | ⟨g1, g2, g3⟩
  ·exact .inl ⟨y', el2, (hpb _ hj).trans g1, g2, (hHp hj g1).trans g3, g4⟩
  ·exact .inr ⟨(hpb _ hj).trans g1, g2, g3⟩
 ·obtain ⟨h1, h2⟩ := hz0 hz
  rcases YcE hr ha h2 hb with rfl | ⟨j, rfl, k1, _⟩
  ·exact ⟨_, hgeta⟩
  ·exact ⟨_, _, _, _, hgeta, k1, fun e => h1 (by injection e with e; rw [e])⟩
 ·refine hH z (fun e => hr.nfr _ _ e hz)
theorem YqU (hr : HRel Fr H0 X pl H) {a i y : Nat} {c : Cs} {ver : Nat} {l : List (List c.den)} (ha : vget X a = some (.fm c ver none l)) (hi : i < l.length) (hp : pl (.n a i) = some y) {lm : List c.den} (hlm : lm.length = (l.getD i []).length)
  {el : List (List AV)} (hrow : Rows el c lm) :
  HRel Fr H0 (vset X a (some (.fm c ver none (l.set i lm)))) pl (H.set y (some ⟨c.width, el⟩)) /\ Ext X pl (vset X a (some (.fm c ver none (l.set i lm)))) pl := by
 have hal := Yah ha
 have hgeta : vget (vset X a (some (.fm c ver none (l.set i lm)))) a = some (.fm c ver none (l.set i lm)) := Yax _ hal
 have hgetb : ∀ b, b ≠ a -> vget (vset X a (some (.fm c ver none (l.set i lm)))) b = vget X b := fun b h => Yao _ (Ne.symm h)
 have hgd : l.getD i [] = l[i] := by simp [List.getD, hi]
 have hxt : Ext X pl (vset X a (some (.fm c ver none (l.set i lm)))) pl := by
  refine ⟨by rw [Yae]; exact Nat.le_refl _, fun b hb => ?_⟩
  by_cases e1 : b = a
  ·subst e1
   exact .inr ⟨_, _, ha, hgeta, by simp [elN], by simp [lenO], rfl, rfl, fun c' v' h' l' e => by
    injection e with e0 e1 e2 e3
    subst e0; subst e1; subst e2; have e3 := eq_of_heq e3; subst e3
    refine ⟨ver, none, l, rfl, by simp, .inr ⟨rfl, fun _ => ⟨rfl, fun j => ⟨?_, rfl⟩⟩⟩⟩
    by_cases hj : j = i
    ·subst hj; rw [<- hlm]; simp [List.getD, hi]
    ·simp [List.getD, YzV (Ne.symm hj)]⟩
  ·rw [hgetb b e1]
   cases h : vget X b with
   | none => exact .inl rfl
   | some o => exact .inr ⟨o, o, rfl, rfl, rfl, rfl, rfl, rfl, fun c' v' h' l' e => ⟨v', h', l', e, rfl, .inr ⟨rfl, fun h => ⟨h, fun j => ⟨rfl, rfl⟩⟩⟩⟩⟩
 have hne : ∀ {p : Pos} {z}, p ≠ .n a i -> pl p = some z -> (H.set y (some ⟨c.width, el⟩))[z]? = H[z]? := fun h1 h2 => by
  rw [YzV (fun e => h1 (by subst e; exact hr.inj _ _ _ h2 hp))]
 refine ⟨hr.build (fun b => b = a) hxt (fun b hb => hgetb b hb) (fun p _ => rfl) (fun p z hb hz => hne (fun e => by subst e; exact hb rfl) hz) (fun b o hb ho => ?_) (fun p z hb hz => ?_) (fun p z hb hz => .inl ⟨p, hz, hb⟩) (fun p q z _ _ hz hz' => hr.inj _ _ _ hz hz') (fun z hz => ?_) (by simp), hxt⟩
 ·subst hb
  rw [hgeta] at ho; injection ho with ho; subst ho
  obtain ⟨x', el0, h1, h2, h3, h4, h5, h6⟩ := hr.obj b _ ha
  refine ⟨x', el0, h1, (hne (fun e => by cases e) h1).trans h2, h3, by simpa using h4, h5, fun j e v k1 k2 k3 => ?_⟩
  by_cases hj : j = i
  ·subst hj
   rw [YzZ hi] at k2; injection k2 with k2; subst k2
   rcases h6 j e l[j] k1 (YzO hi) (by simp) with ⟨y', el2, g1, g2, g3, g4⟩ | ⟨g1, _⟩
   ·rw [hp] at g1; injection g1 with g1; subst g1
    exact .inl ⟨y, el, hp, by rw [g2, hlm, hgd], YzZ (YzN.1 g3).1, hrow⟩
   ·rw [hp] at g1; cases g1
  ·rw [YzV (Ne.symm hj)] at k2
   have hpj : (Pos.n b j : Pos) ≠ .n b i := fun e => by injection e with _ e; exact hj e
   rcases h6 j e v k1 k2 (by simp) with ⟨y', el2, g1, g2, g3, g4⟩ | ⟨g1, g2, g3⟩
   ·exact .inl ⟨y', el2, g1, g2, (hne hpj g1).trans g3, g4⟩
   ·exact .inr ⟨g1, g2, g3⟩
 ·rcases YcE hr ha hz hb with rfl | ⟨j, rfl, k1, _⟩
  ·exact ⟨_, hgeta⟩
  ·exact ⟨_, _, _, _, hgeta, by simpa using k1, by simp⟩
 ·rw [YzV (fun e => hr.nfr _ _ hp (by rw [e]; exact hz))]
end
end Go.Abs
namespace Go.Abs
open Go Go.RowKit
def er3 (ps : List (Nat × Nat × VOpd)) : List (Nat × Nat × Opd) := ps.map fun p => (p.1, p.2.1, p.2.2.er)
def er2 (ps : List (Nat × VOpd)) : List (Nat × Opd) := ps.map fun p => (p.1, p.2.er)
def kstr : Option IntKind -> Bool
 | none => true
 | some _ => false
def mzA (ag : Bool) (V : Cs) : AV :=
 match ag with
 | true => .agg (V.zeros.map zc)
 | false => match V.zeros.map zc with
   | [x] => x
   | _ => .u
def VOp.aop : VOp -> AOp
 | .mm mx xs => .pv (.mm mx) (xs.map VOpd.er)
 | .emz x lo hi mx => .pv .emz [x.er, lo.er, hi.er, mx.er]
 | .mv x => .mv x.er
 | .pick c a b => .pick c.er a.er b.er
 | .box x => .box x.er
 | .alloc z => .alloc (z.map K1.val)
 | .build z ps => .build (z.map K1.val) (er3 ps)
 | .bsl c n ps => .bsl c.width c.zeros n (er2 ps)
 | .load g n x => .load g n x.er
 | .loadR g n x => .loadR g n x.er
 | .store n x y => .store n x.er y.er
 | .nilc x => .nilc x.er
 | .bin op x y => .bin op x.er y.er
 | .beq ng x y => .beq ng x.er y.er
 | .eqa ng ks x y => .eqa ng ks x.er y.er
 | .not x => .not x.er
 | .neg x => .neg x.er
 | .conv k x => .conv k x.er
 | .cvs x => .cvs x.er
 | .fad off x => .fad off x.er
 | .fld g off n x => .fld g off n x.er
 | .iad es x i => .iad es x.er i.er
 | .iada es n x i => .iada es n x.er i.er
 | .idx x i => .idx x.er i.er
 | .slcS x lo hi => .slcS x.er (lo.map VOpd.er) (hi.map VOpd.er)
 | .slcR es x lo hi => .slcR es x.er (lo.map VOpd.er) (hi.map VOpd.er)
 | .ext x i => .ext x.er i
 | .len x => .len x.er
 | .lenS x => .lenS x.er
 | .app c _ s x => .app c.width s.er x.er
 | .mksl c _ n cp => .mksl c.width c.zeros n.er cp.er
 | .call f xs => .call f (xs.map VOpd.er)
 | .dyn x xs => .dyn x.er (xs.map VOpd.er)
 | .dynP x xs => .dynP x.er (xs.map VOpd.er)
 | .callN f xs => .callN f (xs.map VOpd.er)
 | .mkf f xs => .mkf f (xs.map VOpd.er)
 | .lit c xs => .px (.lit c.width) (xs.map VOpd.er)
 | .appD c s x => .px (.appD c.width) [s.er, x.er]
 | .apps s x => .px .apps [s.er, x.er]
 | .appb s x => .px .appb [s.er, x.er]
 | .appDb s x => .px .appDb [s.er, x.er]
 | .litb xs => .px .litb (xs.map VOpd.er)
 | .bstr x => .px .bstr [x.er]
 | .bld => .px .bld []
 | .sbyt x => .pv .sbyt [x.er]
 | .add64 xs => .pv .add64 (xs.map VOpd.er)
 | .sub64 xs => .pv .sub64 (xs.map VOpd.er)
 | .mkm o t V ag => .px (.mkm (knd ag) (mapC o t V).width) []
 | .mget o t V ag ok m k => .px (.mget (kstr o) (knd ag) ok) [m.er, k.er, .c (mzA ag (.cons t V))]
 | .mput o t V ag m k v => .px (.mput (kstr o) (knd ag) (mapC o t V).width) [m.er, k.er, v.er]
 | .mdel o t V m k => .px (.mdel (kstr o) (mapC o t V).width) [m.er, k.er]
 | .mlen m => .px .mlen [m.er]
 | .mrng m => .px .mrng [m.er]
 | .ment _ _ _ _ it => .px .ment [it.er]
 | .mnxt it => .px .mnxt [it.er]
 | .cpy c d s => .px (.cpy c.width) [d.er, s.er]
section
variable {Fr : Nat -> Prop} {H0 : Heap} {X : YwG} {pl : Pl} {H : Heap} {β : Type} {r : β} {env : VEnv} {ae : Env}
def Nxt (Fr : Nat -> Prop) (H0 : Heap) (X : YwG) (pl : Pl) (H : Heap) (v : TV) (X' : YwG) (va : AV) (us : List Upd) : Prop :=
 ∃ pl', TR X' pl' v va /\ (HRel Fr H0 X' pl' (YwT H us) /\ Ext X pl X' pl') /\
   (X'.length = X.length \/ (X'.length = X.length + 1 /\ pl' (.m X.length) = some H.length))
theorem Nxt.same (hr : HRel Fr H0 X pl H) {v : TV} {va : AV} (h : TR X pl v va) : Nxt Fr H0 X pl H v X va [] := ⟨pl, h, ⟨hr, Ext.refl _ _⟩, .inl rfl⟩
theorem Yau {x : Nat} {o : AObj} (h : H[x]? = some (some o)) {K : AObj -> Prop} (hk : K o) : objK (hf H) x K := ⟨o, h, hk⟩
theorem YcF {c : Cs} {l : List c.den} {i : Nat} (h : i < l.length) : l[i]? = some (getI c l i) := by
 rw [YzO h]; simp [getI, List.getD, h]
theorem strA_len' (s : ByteArray) : (strA s).length = s.size := by
 simp [strA, YaR]
theorem YqV {s : ByteArray} {i : Nat} (h : i < s.size) : (strA s)[i]? = some [.v (.int .u8 (YwK s i))] := by
 have h' : i < s.data.size := h
 unfold strA YwK
 rw [YaR, YzP, Array.getElem?_toList, Array.getElem?_eq_getElem h', Int.toNat_natCast, Array.getD_eq_getD_getElem?, Array.getElem?_eq_getElem h']
 rfl
theorem YkG {g : Bool} {n : Nat} {x : TV} {ax : AV} {K : TV -> YwG -> Option β} (h : YyN g n x X K = some r) (hx : TR X pl x ax) (hr : HRel Fr H0 X pl H) {KA : AV -> Prop}
  (hk : ∀ v va, K v X = some r -> TR X pl v va -> KA va) :
  (match (generalizing := false) ax with
   | .rp cs => Yxj g n cs KA
   | .ptr a i j => objK (hf H) a fun o => ∃ e, o.el[i]? = some e /\ Yxj g n (e.drop j) KA
   | _ => False) := by
 have lc : ∀ {cs : List TV} {as : List AV}, (match YxQ g n cs with | some a => K a X | none => none) = some r -> CT X pl cs as -> Yxj g n as KA := by
  intro cs as h hc
  split at h
  ·rename_i v hv; exact YkA hv hc (fun a ha => hk v a h ha)
  ·cases h
 unfold YyN at h
 split at h
 ·cases hx with
  | rp _ as hl hc => exact lc h ⟨hl, hc⟩
 ·rename_i a i j
  cases ho : vget X a with
  | none => simp [ho] at h
  | some o =>
    cases hx with
    | ptrD _ _ _ _ hd => rw [ho] at hd; cases hd
    | ptr _ _ _ x o' ho' hi hp =>
      rw [ho] at ho'; injection ho' with ho'; subst ho'
      have hob := hr.obj a o ho
      rw [ho] at h
      cases o with
      | sq c l =>
        obtain ⟨x', el, h1, h2, h3, h4⟩ := hob
        rw [hp] at h1; injection h1 with h1; subst h1
        simp only [elN] at hi
        have hie : i < el.length := by rw [h4.1]; exact hi
        refine Yau h2 ⟨el[i], YzO hie, lc h ?_⟩
        exact (YbF c _ (h4.2 i _ _ (YzO hie) (YcF hi))).drop j
      | st cs =>
        obtain ⟨x', e, h1, h2, h3, h4⟩ := hob
        rw [hp] at h1; injection h1 with h1; subst h1
        simp only at h
        obtain ⟨e1, e2⟩ := Yaa h
        have := Nat.eq_of_beq_eq_true e1; subst this
        exact Yau h2 ⟨e, rfl, lc e2 (h4.drop j)⟩
      | sb s =>
        obtain ⟨x', h1, h2⟩ := hob
        rw [hp] at h1; injection h1 with h1; subst h1
        simp only [elN] at hi
        simp only at h
        split at h
        ·exact Yau h2 ⟨_, YqV hi, _, rfl, hk _ _ h (.i _ _)⟩
        ·cases h
      | fm c ver hole l =>
        obtain ⟨x', el, h1, h2, h3, h4, h5, h6⟩ := hob
        rw [hp] at h1; injection h1 with h1; subst h1
        simp only at h
        split at h
        ·simp only [elN] at hi
         have hie : i < el.length := by omega
         refine Yau h2 ⟨el[i], YzO hie, ?_⟩
         have hgd : l.getD i [] = l[i] := by simp [List.getD, hi]
         rcases h6 i _ _ (YzO hie) (YzO hi) (by simp) with ⟨y, el', g1, g2, g3, g4⟩ | ⟨g1, g2, g3⟩
         ·rw [g2]
          exact ⟨_, rfl, hk _ _ h (by rw [<- hgd]; exact .sub a ver i y c l ho hi g1)⟩
         ·rw [g3]
          exact ⟨_, rfl, hk _ _ h (.sube a ver i c l ho hi g1 (hgd.trans g2))⟩
        ·cases h
 ·rename_i a ver i k j
  split at h
  ·rename_i c ver' l ho
   obtain ⟨e1, e2⟩ := Yaa h
   have := Nat.eq_of_beq_eq_true e1; subst this
   cases hx with
   | ptiD _ _ _ _ _ _ hd =>
     obtain ⟨c', v', h', l', e, hd⟩ := hd _ ho
     injection e with e0 e1 e2 e3
     subst e1; subst e2
     rcases hd with hd | ⟨_, hd⟩
     ·omega
     ·exact absurd rfl hd
   | pti _ _ _ _ _ y c' l' ho' hi hkk hp =>
     rw [ho] at ho'; injection ho' with ho'; injection ho' with e0 _ _ e3
     subst e0; have e3 := eq_of_heq e3; subst e3
     obtain ⟨x', el, h1, h2, h3, h4, h5, h6⟩ := hr.obj a _ ho
     have hie : i < el.length := by omega
     have hgd : l.getD i [] = l[i] := by simp [List.getD, hi]
     rcases h6 i _ _ (YzO hie) (YzO hi) (by simp) with ⟨y', el', g1, g2, g3, g4⟩ | ⟨g1, _⟩
     ·rw [hp] at g1; injection g1 with g1; subst g1
      rw [hgd] at hkk
      have hke : k < el'.length := by rw [g4.1]; exact hkk
      refine Yau g3 ⟨el'[k], YzO hke, lc e2 ?_⟩
      rw [hgd]
      exact (YbF c _ (g4.2 k _ _ (YzO hke) (YcF hkk))).drop j
     ·rw [hp] at g1; cases g1
  ·cases h
 ·cases h
theorem Ybm {a i j : Nat} {ax : AV} {o : VObj} (ho : vget X a = some o) (h : TR X pl (.ptr a i j) ax) : ∃ x, ax = .ptr x i j /\ pl (.m a) = some x /\ i < elN o := by
 cases h with
 | ptrD _ _ _ _ hd => rw [ho] at hd; cases hd
 | ptr _ _ _ x o' ho' hi hp => rw [ho] at ho'; injection ho' with ho'; subst ho'; exact ⟨x, rfl, hp, hi⟩
theorem Yaq {a : Nat} {ax : AV} {o : VObj} (ho : vget X a = some o) (h : TR X pl (.ref a) ax) : ∃ x n, ax = .ref x 0 n /\ pl (.m a) = some x /\ lenO o = some n := by
 cases h with
 | refD _ _ hd => rw [ho] at hd; cases hd
 | ref _ x o' n ho' hn hp => rw [ho] at ho'; injection ho' with ho'; subst ho'; exact ⟨x, n, rfl, hp, hn⟩
theorem Yb0 {a : Nat} {m : Int} {ax : AV} {o : VObj} (ho : vget X a = some o) (h : TR X pl (.pre a m) ax) : ∃ x n, ax = .ref x 0 m.toNat /\ pl (.m a) = some x /\ lenO o = some n /\ 0 <= m /\ m.toNat <= n := by
 cases h with
 | preD _ _ _ hd => rw [ho] at hd; cases hd
 | pre _ x _ o' n ho' hn hp h0 hm => rw [ho] at ho'; injection ho' with ho'; subst ho'; exact ⟨x, n, rfl, hp, hn, h0, hm⟩
theorem Yfz {a ver i : Nat} {ax : AV} {c : Cs} {l : List (List c.den)} (ho : vget X a = some (.fm c ver none l)) (h : TR X pl (.sub a ver i) ax) :
  i < l.length /\ ((∃ y, ax = .ref y 0 (l.getD i []).length /\ pl (.n a i) = some y) \/ (ax = .emp /\ pl (.n a i) = none /\ l.getD i [] = [])) := by
 cases h with
 | subD _ _ _ _ hd =>
   obtain ⟨c', v', h', l', e, hd⟩ := hd _ ho
   injection e with e0 e1 e2 e3
   subst e1; subst e2
   rcases hd with hd | ⟨_, hd⟩
   ·omega
   ·exact absurd rfl hd
 | sub _ _ _ y c' l' ho' hi hp =>
   rw [ho] at ho'; injection ho' with ho'; injection ho' with e0 _ _ e3
   subst e0; have e3 := eq_of_heq e3; subst e3
   exact ⟨hi, .inl ⟨y, rfl, hp⟩⟩
 | sube _ _ _ c' l' ho' hi hp h0 =>
   rw [ho] at ho'; injection ho' with ho'; injection ho' with e0 _ _ e3
   subst e0; have e3 := eq_of_heq e3; subst e3
   exact ⟨hi, .inr ⟨rfl, hp, h0⟩⟩
theorem YfA {a ver i k j : Nat} {ax : AV} {c : Cs} {l : List (List c.den)} (ho : vget X a = some (.fm c ver none l)) (h : TR X pl (.pti a ver i k j) ax) :
  ∃ y, ax = .ptr y k j /\ i < l.length /\ k < (l.getD i []).length /\ pl (.n a i) = some y := by
 cases h with
 | ptiD _ _ _ _ _ _ hd =>
   obtain ⟨c', v', h', l', e, hd⟩ := hd _ ho
   injection e with e0 e1 e2 e3
   subst e1; subst e2
   rcases hd with hd | ⟨_, hd⟩
   ·omega
   ·exact absurd rfl hd
 | pti _ _ _ _ _ y c' l' ho' hi hkk hp =>
   rw [ho] at ho'; injection ho' with ho'; injection ho' with e0 _ _ e3
   subst e0; have e3 := eq_of_heq e3; subst e3
   exact ⟨y, rfl, hi, hkk, hp⟩
theorem YkH {el : List (List AV)} {c : Cs} {l : List c.den} {i : Nat} {e : List AV} {v : c.den} (h : Rows el c l) (he : CC e (c.enc v)) : Rows (el.set i e) c (l.set i v) := by
 refine ⟨by simp [h.1], fun k f w h1 h2 => ?_⟩
 by_cases hk : k = i
 ·subst hk
  have hkl := (YzN.1 h1).1
  simp only [List.length_set] at hkl
  rw [YzZ hkl] at h1
  rw [YzZ (by rw [<- h.1]; exact hkl)] at h2
  injection h1 with h1; injection h2 with h2; subst h1; subst h2; exact he
 ·rw [YzV (Ne.symm hk)] at h1 h2
  exact h.2 k f w h1 h2
theorem Yb1 {y : TV} {ay : AV} {cs : List TV} (hc : YwO X y = some cs) (hy : TR X pl y ay) {K : List AV -> Prop} (hk : ∀ as, CT X pl cs as -> K as) : YxJ ay K := by
 obtain ⟨as, h1, h2⟩ := Yfy hc hy
 exact ⟨as, h1, hk as h2⟩
theorem YqW {n : Nat} {x y : TV} {ax ay : AV} {K : TV -> YwG -> Option β} (h : YyA n x y X K = some r) (hx : TR X pl x ax) (hy : TR X pl y ay) (hr : HRel Fr H0 X pl H) {KA : AV -> List Upd -> Prop}
  (hk : ∀ v X' va us, K v X' = some r -> Nxt Fr H0 X pl H v X' va us -> KA va us) :
  (match (generalizing := false) ax with
   | .ptr a i j => objK (hf H) a fun o => ∃ e, o.el[i]? = some e /\ YxJ ay fun cs => cs.length = n /\ j + n <= e.length /\ KA .u [.set a (some ⟨o.es, o.el.set i (splice e j cs)⟩)]
   | _ => False) := by
 unfold YyA at h
 split at h
 ·rename_i a i j
  cases ho : vget X a with
  | none => simp [ho] at h
  | some o =>
    obtain ⟨x, rfl, hp, hi⟩ := Ybm ho hx
    have hob := hr.obj a o ho
    rw [ho] at h
    cases o with
    | sq c l =>
      obtain ⟨x', el, h1, h2, h3, h4⟩ := hob
      rw [hp] at h1; injection h1 with h1; subst h1
      simp only [elN] at hi h
      have hie : i < el.length := by rw [h4.1]; exact hi
      split at h
      ·rename_i cs hcs
       obtain ⟨e1, e2⟩ := Yaa h
       simp only [Bool.and_eq_true] at e1
       split at e2
       ·rename_i e' he'
        have hcc := h4.2 i _ _ (YzO hie) (YcF hi)
        refine Yau h2 ⟨el[i], YzO hie, Yb1 hcs hy (fun as has => ⟨by rw [<- has.1]; exact Nat.eq_of_beq_eq_true e1.1, ?_, ?_⟩)⟩
        ·rw [hcc.1, Ybl]; simpa using e1.2
        ·refine hk .u _ .u _ e2 ⟨pl, .u _, ?_, .inl (Yae _ _ _)⟩
         exact YbE hr ho hp _ (by simp [elN]) (by simp [lenO]) (fun _ _ _ _ e => by cases e) (fun _ _ _ _ e => by cases e) (fun hx => ⟨x, _, hp, YzZ (YzN.1 h2).1, h3, YkH h4 (YcC he' ((YbF c _ hcc).spl has j))⟩)
       ·cases e2
      ·cases h
    | st ds =>
      obtain ⟨x', e, h1, h2, h3, h4⟩ := hob
      rw [hp] at h1; injection h1 with h1; subst h1
      simp only at h
      split at h
      ·rename_i cs hcs
       obtain ⟨e1, e2⟩ := Yaa h
       simp only [Bool.and_eq_true] at e1
       have := Nat.eq_of_beq_eq_true e1.1.1; subst this
       have hn := Nat.eq_of_beq_eq_true e1.1.2
       have hjn : j + n <= ds.length := by simpa using e1.2
       refine Yau h2 ⟨e, rfl, Yb1 hcs hy (fun as has => ⟨by rw [<- has.1]; exact hn, by rw [<- h4.1]; exact hjn, ?_⟩)⟩
       refine hk .u _ .u _ e2 ⟨pl, .u _, ?_, .inl (Yae _ _ _)⟩
       have hlen : (spl ds j cs).length = ds.length := by simp [spl]; omega
       exact YbE hr ho hp _ rfl rfl (fun _ _ _ _ e => by cases e) (fun _ _ _ _ e => by cases e) (fun hx => ⟨x, splice e j as, hp, by rw [hlen]; exact YzZ (YzN.1 h2).1, by rw [hlen]; exact h3, (h4.spl has j).ext hx⟩)
      ·cases h
    | sb s => cases h
    | fm c ver hole l =>
      obtain ⟨x', el, h1, h2, h3, h4, h5, h6⟩ := hob
      rw [hp] at h1; injection h1 with h1; subst h1
      simp only [elN] at hi h
      obtain ⟨e1, e2⟩ := Yaa h
      simp only [Bool.and_eq_true] at e1
      have hj := Nat.eq_of_beq_eq_true e1.1; subst hj
      have hn := Nat.eq_of_beq_eq_true e1.2; subst hn
      split at e2
      ·rename_i m
       cases hma : Nat.beq m a with
       | true => rw [hma, cond_true] at e2; cases e2
       | false =>
         rw [hma, cond_false] at e2
         have hne : m ≠ a := fun e => by subst e; rw [Nat.beq_refl] at hma; cases hma
         split at e2
         ·rename_i c' lm hm
          split at e2
          ·rename_i lm' hlm
           obtain ⟨rfl, rfl⟩ := YaQ hlm
           obtain ⟨y, n, rfl, hpm, hn⟩ := Yaq hm hy
           simp only [lenO] at hn; injection hn with hn; subst hn
           have hie : i < el.length := by omega
           have hel1 := h5 _ (YAu hie)
           have key : (hole = none \/ hole = some i) -> K .u (vset (vset X m none) a (some (.fm c' (ver + 1) none (l.set i lm)))) = some r ->
             objK (hf H) x fun o => ∃ e, o.el[i]? = some e /\ YxJ (.ref y 0 lm.length) fun cs => cs.length = 1 /\ 0 + 1 <= e.length /\ KA .u [.set x (some ⟨o.es, o.el.set i (splice e 0 cs)⟩)] := by
            intro hh hK
            obtain ⟨pl', k1, k2⟩ := YqT hr ho hp hm hpm hne hi hh h2
            refine Yau h2 ⟨el[i], YzO hie, [.ref y 0 lm.length], rfl, rfl, by omega, ?_⟩
            have : splice el[i] 0 [AV.ref y 0 lm.length] = [.ref y 0 lm.length] := by
             unfold splice; rw [List.drop_of_length_le (by simp; omega)]; simp
            rw [this]
            exact hk .u _ .u _ hK ⟨pl', .u _, ⟨k1, k2⟩, .inl (by rw [Yae, Yae])⟩
           split at e2
           ·exact key (.inl rfl) e2
           ·rename_i hh
            obtain ⟨e3, e4⟩ := Yaj e2
            subst e3
            exact key (.inr rfl) e4
          ·cases e2
         ·cases e2
      ·cases e2
 ·rename_i a ver i k j
  split at h
  ·rename_i c ver' l ho
   split at h
   ·rename_i cs hcs
    obtain ⟨e1, e2⟩ := Yaa h
    simp only [Bool.and_eq_true] at e1
    have := Nat.eq_of_beq_eq_true e1.1.1; subst this
    obtain ⟨y', rfl, hi, hkk, hp⟩ := YfA ho hx
    split at e2
    ·rename_i e' he'
     obtain ⟨x', el, h1, h2, h3, h4, h5, h6⟩ := hr.obj a _ ho
     have hie : i < el.length := by omega
     have hgd : l.getD i [] = l[i] := by simp [List.getD, hi]
     rcases h6 i _ _ (YzO hie) (YzO hi) (by simp) with ⟨y2, el', g1, g2, g3, g4⟩ | ⟨g1, _⟩
     ·rw [hp] at g1; injection g1 with g1; subst g1
      rw [<- hgd] at g4
      have hke : k < el'.length := by rw [g4.1]; exact hkk
      have hcc := g4.2 k _ _ (YzO hke) (YcF hkk)
      refine Yau g3 ⟨el'[k], YzO hke, Yb1 hcs hy (fun as has => ⟨by rw [<- has.1]; exact Nat.eq_of_beq_eq_true e1.1.2, ?_, ?_⟩)⟩
      ·rw [hcc.1, Ybl]; simpa using e1.2
      ·refine hk .u _ .u _ e2 ⟨pl, .u _, ?_, .inl (Yae _ _ _)⟩
       exact YqU hr ho hi hp (by simp) (YkH g4 (YcC he' ((YbF c _ hcc).spl has j)))
     ·rw [hp] at g1; cases g1
    ·cases e2
   ·cases h
  ·cases h
 ·cases h
theorem YqX {es : Nat} {x i : TV} {ax ai : AV} {K : TV -> YwG -> Option β} (h : viad es x i X K = some r) (hx : TR X pl x ax) (hi : TR X pl i ai) (hr : HRel Fr H0 X pl H) {KA : AV -> Prop}
  (hk : ∀ v va, K v X = some r -> TR X pl v va -> KA va) :
  intK ai fun n => (match (generalizing := false) ax with
   | .rd es' l => es' = es /\ 0 <= n /\ ∃ e, l[n.toNat]? = some e /\ KA (.rp e)
   | .ref a off len => objK (hf H) a fun o => wd o.es = es /\ off + len <= o.el.length /\ 0 <= n /\ n < len /\ KA (.ptr a (off + n.toNat) 0)
   | _ => False) := by
 unfold viad at h
 split at h
 ·rename_i k n
  cases hi
  refine ⟨k, n, rfl, ?_⟩
  split at h
  ·rename_i c v
   obtain ⟨e1, e2⟩ := Yaa h
   obtain ⟨e3, e4⟩ := Yaj e2
   have hw := Nat.eq_of_beq_eq_true e1
   have hlt : n.toNat < v.length := by omega
   cases hx with
   | l _ _ _ hc =>
     rcases YaP hc with ⟨rfl, hb⟩ | ⟨l0, rfl, hl, hcc⟩
     ·have := congrArg List.length hb; simp at this; subst this; simp at hlt
     ·simp only [Yz7] at hl
      have hlt0 : n.toNat < l0.length := by omega
      refine ⟨hw, e3.1, l0[n.toNat], YzO hlt0, hk _ _ e4 ?_⟩
      have := YbF (X := X) (pl := pl) c (getI c v n.toNat) (hcc _ _ _ (YzO hlt0) (by rw [YzP, YcF hlt]; rfl))
      exact .rp _ _ this.1 this.2
  ·rename_i a
   split at h
   ·rename_i c l ho
    obtain ⟨e1, e2⟩ := Yaa h
    obtain ⟨e3, e4⟩ := Yaj e2
    obtain ⟨x, n', rfl, hp, hn⟩ := Yaq ho hx
    simp only [lenO] at hn; injection hn with hn; subst hn
    obtain ⟨x', el, h1, h2, h3, h4⟩ := hr.obj a _ ho
    rw [hp] at h1; injection h1 with h1; subst h1
    refine Yau h2 ⟨(YaL h3).trans (Nat.eq_of_beq_eq_true e1), by simp [h4.1], e3.1, e3.2, hk _ _ e4 ?_⟩
    rw [Nat.zero_add]
    exact .ptr a _ 0 x _ ho (by simp only [elN]; omega) hp
   ·rename_i c ver hole l ho
    obtain ⟨e1, e2⟩ := Yaa h
    obtain ⟨e3, e4⟩ := Yaj e2
    obtain ⟨x, n', rfl, hp, hn⟩ := Yaq ho hx
    simp only [lenO] at hn; injection hn with hn; subst hn
    obtain ⟨x', el, h1, h2, h3, h4, _⟩ := hr.obj a _ ho
    rw [hp] at h1; injection h1 with h1; subst h1
    refine Yau h2 ⟨(Nat.eq_of_beq_eq_true e1).symm, by simp [h4], e3.1, e3.2, hk _ _ e4 ?_⟩
    rw [Nat.zero_add]
    exact .ptr a _ 0 x _ ho (by simp only [elN]; omega) hp
   ·rename_i s ho
    obtain ⟨e1, e2⟩ := Yaa h
    obtain ⟨e3, e4⟩ := Yaj e2
    obtain ⟨x, n', rfl, hp, hn⟩ := Yaq ho hx
    simp only [lenO] at hn; injection hn with hn; subst hn
    obtain ⟨x', h1, h2⟩ := hr.obj a _ ho
    rw [hp] at h1; injection h1 with h1; subst h1
    refine Yau h2 ⟨(Nat.eq_of_beq_eq_true e1).symm, by rw [Nat.zero_add, strA_len']; exact Nat.le_refl _, e3.1, e3.2, hk _ _ e4 ?_⟩
    rw [Nat.zero_add]
    exact .ptr a _ 0 x _ ho (by simp only [elN]; omega) hp
   ·cases h
  ·rename_i a m
   split at h
   ·rename_i c l ho
    obtain ⟨e1, e2⟩ := Yaa h
    obtain ⟨e3, e4⟩ := Yaj e2
    obtain ⟨x, n', rfl, hp, hn, h0, hm⟩ := Yb0 ho hx
    simp only [lenO] at hn; injection hn with hn; subst hn
    obtain ⟨x', el, h1, h2, h3, h4⟩ := hr.obj a _ ho
    rw [hp] at h1; injection h1 with h1; subst h1
    refine Yau h2 ⟨(YaL h3).trans (Nat.eq_of_beq_eq_true e1), by rw [h4.1, Nat.zero_add]; exact hm, e3.1, by omega, hk _ _ e4 ?_⟩
    rw [Nat.zero_add]
    exact .ptr a _ 0 x _ ho (by simp only [elN]; omega) hp
   ·cases h
  ·rename_i a ver i
   split at h
   ·rename_i c ver' l ho
    obtain ⟨e1, e2⟩ := Yaa h
    obtain ⟨e3, e4⟩ := Yaj e2
    simp only [Bool.and_eq_true] at e1
    have := Nat.eq_of_beq_eq_true e1.2; subst this
    obtain ⟨hi, h1 | ⟨rfl, _, h0⟩⟩ := Yfz ho hx
    ·obtain ⟨y, rfl, hp⟩ := h1
     obtain ⟨x', el, k1, k2, k3, k4, k5, k6⟩ := hr.obj a _ ho
     have hie : i < el.length := by omega
     have hgd : l.getD i [] = l[i] := by simp [List.getD, hi]
     rcases k6 i _ _ (YzO hie) (YzO hi) (by simp) with ⟨y2, el', g1, g2, g3, g4⟩ | ⟨g1, _⟩
     ·rw [hp] at g1; injection g1 with g1; subst g1
      rw [<- hgd] at g4
      refine Yau g3 ⟨(YaL k3).trans (Nat.eq_of_beq_eq_true e1.1), by simp [g4.1], e3.1, e3.2, hk _ _ e4 ?_⟩
      rw [Nat.zero_add]
      exact .pti a _ i _ 0 y c l ho hi (by omega) hp
     ·rw [hp] at g1; cases g1
    ·rw [h0] at e3; simp at e3; omega
   ·cases h
  ·cases h
 ·cases h
end
end Go.Abs
namespace Go.Abs
open Go Go.RowKit
section
variable {Fr : Nat -> Prop} {H0 : Heap} {X : YwG} {pl : Pl} {H : Heap}
theorem YqY (hr : HRel Fr H0 X pl H) {a x m y : Nat} {c : Cs} {ver : Nat} {l : List (List c.den)} {lm : List c.den} {el : List (List AV)}
  (ha : vget X a = some (.fm c ver none l)) (hp : pl (.m a) = some x) (hm : vget X m = some (.sq c lm)) (hpm : pl (.m m) = some y) (hne : m ≠ a) (hx : H[x]? = some (some ⟨1, el⟩)) :
  ∃ pl', HRel Fr H0 (vset (vset X m none) a none ++ [some (.fm c 0 none (l ++ [lm]))]) pl' (H.set x none ++ [some ⟨1, el ++ [[.ref y 0 lm.length]]⟩]) /\
    Ext X pl (vset (vset X m none) a none ++ [some (.fm c 0 none (l ++ [lm]))]) pl' /\ pl' (.m X.length) = some H.length := by
 have hal := Yah ha
 have hml := Yah hm
 have hXl : (vset (vset X m none) a none).length = X.length := by rw [Yae, Yae]
 have hxl := (YzN.1 hx).1
 obtain ⟨x', el2, h1, h2, h3, h4, h5, h6⟩ := hr.obj a _ ha
 rw [hp] at h1; injection h1 with h1; subst h1
 rw [hx] at h2; injection h2 with h2; injection h2 with h2; injection h2 with _ h2; subst h2
 obtain ⟨y', elm, g1, g2, g3, g4⟩ := hr.obj m _ hm
 rw [hpm] at g1; injection g1 with g1; subst g1
 let pl' : Pl := fun q => if q.of = X.length then (match q with | .m _ => some H.length | .n _ i => if i < l.length then pl (.n a i) else if i = l.length then some y else none) else if q.of = a \/ q.of = m then none else pl q
 have hgn : vget (vset (vset X m none) a none ++ [some (.fm c 0 none (l ++ [lm]))]) X.length = some (.fm c 0 none (l ++ [lm])) := by
  have := Yap (vset (vset X m none) a none) (some (.fm c 0 none (l ++ [lm])))
  rwa [hXl] at this
 have hga : ∀ b, b ≠ X.length -> (b = a \/ b = m) -> vget (vset (vset X m none) a none ++ [some (.fm c 0 none (l ++ [lm]))]) b = none := fun b h1 h2 => by
  by_cases e : b = a
  ·subst e; rw [Yaz (by rw [hXl]; exact hal)]; exact Yax _ (by rw [Yae]; exact hal)
  ·have e2 := h2.resolve_left e
   subst e2
   rw [Yaz (by rw [hXl]; exact hml), Yao _ (Ne.symm e)]; exact Yax _ hml
 have hgb : ∀ b, b ≠ X.length -> b ≠ a -> b ≠ m -> vget (vset (vset X m none) a none ++ [some (.fm c 0 none (l ++ [lm]))]) b = vget X b := fun b h0 h1 h2 => by
  by_cases hb : b < X.length
  ·rw [Yaz (by rw [hXl]; exact hb), Yao _ (Ne.symm h1), Yao _ (Ne.symm h2)]
  ·rw [YaA (by simp [hXl]; omega), YaA (by omega)]
 have hpb : ∀ q : Pos, q.of ≠ X.length -> q.of ≠ a -> q.of ≠ m -> pl' q = pl q := fun q h0 h1 h2 => by
  show (if _ then _ else if _ then _ else _) = _
  rw [if_neg h0, if_neg (fun h => h.elim h1 h2)]
 have hpn : ∀ q : Pos, q.of ≠ X.length -> (q.of = a \/ q.of = m) -> pl' q = none := fun q h0 h1 => by
  show (if _ then _ else if _ then _ else _) = _
  rw [if_neg h0, if_pos h1]
 have hpm' : pl' (.m X.length) = some H.length := if_pos rfl
 have hpi : ∀ i, pl' (.n X.length i) = if i < l.length then pl (.n a i) else if i = l.length then some y else none := fun i => if_pos rfl
 have hxt : Ext X pl (vset (vset X m none) a none ++ [some (.fm c 0 none (l ++ [lm]))]) pl' := by
  refine ⟨by simp [hXl], fun b hb => ?_⟩
  have hbn : b ≠ X.length := by omega
  by_cases e1 : b = a \/ b = m
  ·exact .inl (hga b hbn e1)
  ·rw [hgb b hbn (fun e => e1 (.inl e)) (fun e => e1 (.inr e))]
   have hh : ∀ p : Pos, p.of = b -> pl' p = pl p := fun p h => hpb p (by rw [h]; exact hbn) (by rw [h]; exact fun e => e1 (.inl e)) (by rw [h]; exact fun e => e1 (.inr e))
   cases h : vget X b with
   | none => exact .inl rfl
   | some o => exact .inr ⟨o, o, rfl, rfl, rfl, rfl, hh _ rfl, rfl, fun c' v' h' l' e => ⟨v', h', l', e, rfl, .inr ⟨rfl, fun h => ⟨h, fun j => ⟨rfl, hh _ rfl⟩⟩⟩⟩⟩
 have hnew : ∀ {p : Pos} {z}, (p.of = X.length \/ p.of = a \/ p.of = m) -> pl' p = some z -> (p = .m X.length /\ z = H.length) \/ (∃ i, p = .n X.length i /\ i < l.length /\ pl (.n a i) = some z) \/ (p = .n X.length l.length /\ z = y) := by
  intro p z h1 h2
  by_cases e : p.of = X.length
  ·cases p with
   | m b =>
     simp only [Pos.of] at e; subst e
     rw [hpm'] at h2; injection h2 with h2; exact .inl ⟨rfl, h2.symm⟩
   | n b i =>
     simp only [Pos.of] at e; subst e
     rw [hpi] at h2
     split at h2
     ·exact .inr (.inl ⟨i, rfl, by assumption, h2⟩)
     ·split at h2
      ·rename_i e; subst e; injection h2 with h2; exact .inr (.inr ⟨rfl, h2.symm⟩)
      ·cases h2
  ·rw [hpn p e (h1.resolve_left e)] at h2; cases h2
 have hne2 : ∀ {p : Pos} {z}, p ≠ .m a -> pl p = some z -> (H.set x none ++ [some ⟨1, el ++ [[AV.ref y 0 lm.length]]⟩])[z]? = H[z]? := fun h1 h2 => by
  rw [YzS (by simpa using hr.bd h2), YzV (fun e => h1 (by subst e; exact hr.inj _ _ _ h2 hp))]
 refine ⟨pl', hr.build (fun b => b = X.length \/ b = a \/ b = m) hxt (fun b hb => hgb b (fun e => hb (.inl e)) (fun e => hb (.inr (.inl e))) (fun e => hb (.inr (.inr e)))) (fun p hb => hpb p (fun e => hb (.inl e)) (fun e => hb (.inr (.inl e))) (fun e => hb (.inr (.inr e))))
  (fun p z hb hz => hne2 (fun e => by subst e; exact hb (.inr (.inl rfl))) hz) (fun b o hb ho => ?_) (fun p z hb hz => ?_) (fun p z hb hz => ?_) (fun p q z hb hb' hz hz' => ?_) (fun z hz => ?_) (by simp), hxt, hpm'⟩
 ·by_cases e : b = X.length
  ·subst e
   rw [hgn] at ho; injection ho with ho; subst ho
   refine ⟨H.length, el ++ [[.ref y 0 lm.length]], hpm', by rw [YzU (by simp)]; simp, h3, by simp [h4], fun e he => ?_, fun i e v k1 k2 _ => ?_⟩
   ·rcases Yz6.1 he with he | he
    ·exact h5 e he
    ·simp only [Yz0] at he; subst he; rfl
   ·rw [hpi]
    by_cases hi : i < l.length
    ·rw [YzS (by omega)] at k1
     rw [YzS hi] at k2
     rw [if_pos hi]
     rcases h6 i e v k1 k2 (by simp) with ⟨y2, el3, q1, q2, q3, q4⟩ | ⟨q1, q2, q3⟩
     ·exact .inl ⟨y2, el3, q1, q2, (hne2 (fun e => by cases e) q1).trans q3, q4⟩
     ·exact .inr ⟨q1, q2, q3⟩
    ·have hil : i = l.length := by
      have := (YzN.1 k2).1; simp at this; omega
     subst hil
     rw [<- h4] at k1
     rw [YzU (Nat.le_refl _)] at k1 k2
     simp only [Nat.sub_self, List.getElem?_cons_zero] at k1 k2
     injection k1 with k1; injection k2 with k2; subst k1; subst k2
     rw [if_neg (by omega), if_pos rfl]
     exact .inl ⟨y, elm, rfl, rfl, (hne2 (fun e => by injection e with e; exact hne e) hpm).trans g2, g4⟩
  ·rw [hga b e (hb.resolve_left e)] at ho; cases ho
 ·rcases hnew hb hz with ⟨rfl, _⟩ | ⟨i, rfl, h, _⟩ | ⟨rfl, _⟩
  ·exact ⟨_, hgn⟩
  ·exact ⟨_, _, _, _, hgn, by simp; omega, by simp⟩
  ·exact ⟨_, _, _, _, hgn, by simp, by simp⟩
 ·rcases hnew hb hz with ⟨rfl, rfl⟩ | ⟨i, rfl, h, hz'⟩ | ⟨rfl, rfl⟩
  ·exact .inr (Nat.le_refl _)
  ·exact .inl ⟨_, hz', .inr (.inl rfl)⟩
  ·exact .inl ⟨_, hpm, .inr (.inr rfl)⟩
 ·rcases hnew hb hz with ⟨rfl, rfl⟩ | ⟨i, rfl, h, k1⟩ | ⟨rfl, rfl⟩ <;> rcases hnew hb' hz' with ⟨rfl, k2⟩ | ⟨j, rfl, h', k2⟩ | ⟨rfl, k2⟩
  ·rfl
  ·have := hr.bd k2; omega
  ·have := hr.bd hpm; omega
  ·have := hr.bd k1; omega
  ·have := hr.inj _ _ _ k1 k2; injection this with _ this; rw [this]
  ·subst k2; have := hr.inj _ _ _ k1 hpm; cases this
  ·have := hr.bd hpm; omega
  ·have := hr.inj _ _ _ k2 hpm; cases this
  ·rfl
 ·have := (hr.fr z hz).1; have := hr.le
  rw [YzS (by simp; omega), YzV (fun e => hr.nfr _ _ hp (by rw [e]; exact hz))]
theorem YqZ (hr : HRel Fr H0 X pl H) {m y : Nat} {c : Cs} {lm : List c.den} (hm : vget X m = some (.sq c lm)) (hpm : pl (.m m) = some y) :
  ∃ pl', HRel Fr H0 (vset X m none ++ [some (.fm c 0 none [lm])]) pl' (H ++ [some ⟨1, [[.ref y 0 lm.length]]⟩]) /\
    Ext X pl (vset X m none ++ [some (.fm c 0 none [lm])]) pl' /\ pl' (.m X.length) = some H.length := by
 have hml := Yah hm
 have hXl : (vset X m none).length = X.length := Yae _ _ _
 obtain ⟨y', elm, g1, g2, g3, g4⟩ := hr.obj m _ hm
 rw [hpm] at g1; injection g1 with g1; subst g1
 let pl' : Pl := fun q => if q = .m X.length then some H.length else if q = .n X.length 0 then some y else if q.of = m then none else pl q
 have hgn : vget (vset X m none ++ [some (.fm c 0 none [lm])]) X.length = some (.fm c 0 none [lm]) := by
  have := Yap (vset X m none) (some (.fm c 0 none [lm]))
  rwa [hXl] at this
 have hgm : vget (vset X m none ++ [some (.fm c 0 none [lm])]) m = none := by
  rw [Yaz (by rw [hXl]; exact hml)]; exact Yax _ hml
 have hgb : ∀ b, b ≠ X.length -> b ≠ m -> vget (vset X m none ++ [some (.fm c 0 none [lm])]) b = vget X b := fun b h0 h2 => by
  by_cases hb : b < X.length
  ·rw [Yaz (by rw [hXl]; exact hb), Yao _ (Ne.symm h2)]
  ·rw [YaA (by simp [hXl]; omega), YaA (by omega)]
 have hpb : ∀ q : Pos, q.of ≠ X.length -> q.of ≠ m -> pl' q = pl q := fun q h0 h2 => by
  show (if _ then _ else if _ then _ else if _ then _ else _) = _
  rw [if_neg (fun e => h0 (by rw [e]; rfl)), if_neg (fun e => h0 (by rw [e]; rfl)), if_neg h2]
 have hpm' : pl' (.m X.length) = some H.length := if_pos rfl
 have hp0 : pl' (.n X.length 0) = some y := by
  simp [pl']
 have hxt : Ext X pl (vset X m none ++ [some (.fm c 0 none [lm])]) pl' := by
  refine ⟨by simp [hXl], fun b hb => ?_⟩
  have hbn : b ≠ X.length := by omega
  by_cases e1 : b = m
  ·subst e1; exact .inl hgm
  ·rw [hgb b hbn e1]
   have hh : ∀ p : Pos, p.of = b -> pl' p = pl p := fun p h => hpb p (by rw [h]; exact hbn) (by rw [h]; exact e1)
   cases h : vget X b with
   | none => exact .inl rfl
   | some o => exact .inr ⟨o, o, rfl, rfl, rfl, rfl, hh _ rfl, rfl, fun c' v' h' l' e => ⟨v', h', l', e, rfl, .inr ⟨rfl, fun h => ⟨h, fun j => ⟨rfl, hh _ rfl⟩⟩⟩⟩⟩
 have hnew : ∀ {p : Pos} {z}, (p.of = X.length \/ p.of = m) -> pl' p = some z -> (p = .m X.length /\ z = H.length) \/ (p = .n X.length 0 /\ z = y) := by
  intro p z h1 h2
  by_cases e : p = .m X.length
  ·subst e; rw [hpm'] at h2; injection h2 with h2; exact .inl ⟨rfl, h2.symm⟩
  ·by_cases e2 : p = .n X.length 0
   ·subst e2; rw [hp0] at h2; injection h2 with h2; exact .inr ⟨rfl, h2.symm⟩
   ·have h2' : (if p.of = m then none else pl p) = some z := by
     simpa only [pl', e, e2, if_false] using h2
    split at h2'
    ·cases h2'
    ·rename_i e3
     have e4 := h1.resolve_right e3
     have := hr.dead (p := p) (by rw [e4]; exact YaA (Nat.le_refl _))
     rw [this] at h2'; cases h2'
 have hne2 : ∀ {p : Pos} {z}, pl p = some z -> (H ++ [some ⟨1, [[AV.ref y 0 lm.length]]⟩])[z]? = H[z]? := fun h2 => by
  rw [YzS (hr.bd h2)]
 refine ⟨pl', hr.build (fun b => b = X.length \/ b = m) hxt (fun b hb => hgb b (fun e => hb (.inl e)) (fun e => hb (.inr e))) (fun p hb => hpb p (fun e => hb (.inl e)) (fun e => hb (.inr e)))
  (fun p z hb hz => hne2 hz) (fun b o hb ho => ?_) (fun p z hb hz => ?_) (fun p z hb hz => ?_) (fun p q z hb hb' hz hz' => ?_) (fun z hz => ?_) (by simp), hxt, hpm'⟩
 ·by_cases e : b = X.length
  ·subst e
   rw [hgn] at ho; injection ho with ho; subst ho
   refine ⟨H.length, [[.ref y 0 lm.length]], hpm', by rw [YzU (Nat.le_refl _)]; simp, g3, by simp, fun e he => by simp at he; subst he; rfl, fun i e v k1 k2 _ => ?_⟩
   cases i with
   | zero =>
     simp at k1 k2; subst k1; subst k2
     exact .inl ⟨y, elm, hp0, rfl, (hne2 hpm).trans g2, g4⟩
   | succ i => simp at k1
  ·have := hb.resolve_left e; subst this; rw [hgm] at ho; cases ho
 ·rcases hnew hb hz with ⟨rfl, _⟩ | ⟨rfl, _⟩
  ·exact ⟨_, hgn⟩
  ·exact ⟨_, _, _, _, hgn, by simp, by simp⟩
 ·rcases hnew hb hz with ⟨rfl, rfl⟩ | ⟨rfl, rfl⟩
  ·exact .inr (Nat.le_refl _)
  ·exact .inl ⟨_, hpm, .inr rfl⟩
 ·rcases hnew hb hz with ⟨rfl, rfl⟩ | ⟨rfl, rfl⟩ <;> rcases hnew hb' hz' with ⟨rfl, k2⟩ | ⟨rfl, k2⟩
  ·rfl
  ·have := hr.bd hpm; omega
  ·have := hr.bd hpm; omega
  ·rfl
 ·have := (hr.fr z hz).1; have := hr.le
  rw [YzS (by omega)]
variable {β : Type} {r : β}
theorem YkI {c : Cs} {x : TV} {ax : AV} {m : List c.den} (h : srcV c x = some m) (hx : TR X pl x ax) : (ax = .emp /\ m = []) \/ ∃ l, ax = .rd c.width l /\ Rows l c m := by
 unfold srcV at h
 split at h
 ·rename_i c' v
  obtain ⟨rfl, rfl⟩ := YaQ h
  cases hx with
  | l _ _ _ hc =>
    rcases YaP hc with ⟨rfl, hb⟩ | ⟨l0, rfl, hl, hcc⟩
    ·exact .inl ⟨rfl, by simpa using hb⟩
    ·exact .inr ⟨l0, rfl, by simpa using hl, fun i e w h1 h2 => hcc i e _ h1 (by rw [YzP, h2]; rfl)⟩
 ·injection h with h; subst h; cases hx; exact .inl ⟨rfl, rfl⟩
 ·rename_i els
  cases hx with
  | lt es _ as hl h0 hz hz' hc =>
    have hce : CE X pl els as := ⟨hl, fun i e f h1 h2 => ⟨by rw [hz e (YzQ h1), hz' f (YzQ h2)], fun j c a h3 h4 => hc i j e f c a h1 h2 h3 h4⟩⟩
    have hr := YcD h hce
    have hw : es = c.width := by
     cases els with
     | nil => exact absurd rfl h0
     | cons e els =>
       simp only [YxP] at h
       split at h
       ·rename_i x y hx hy; rw [<- Ykz hx, hz e (Yz2 ..)]
       ·cases h
    exact .inr ⟨as, by rw [hw], hr⟩
 ·cases h
theorem YdC {c : Cs} {x : TV} {ax s : AV} {m : List c.den} {es : Nat} (hes : c.width = es) (h : srcV c x = some m) (hx : TR X pl x ax) {h' : HF} {nid : Nat} {KA : AV -> List Upd -> Prop}
  (hk : ∀ l, Rows l c m -> (∀ e ∈ l, e.length = es) -> appK es s l h' nid KA) :
  (match (generalizing := false) ax with | .rd es' l => es' = es /\ appK es s l h' nid KA | .emp => appK es s [] h' nid KA | _ => False) := by
 rcases YkI h hx with ⟨rfl, rfl⟩ | ⟨l, rfl, hl⟩
 ·exact hk [] ⟨rfl, fun i e v h => by simp at h⟩ (fun e h => by simp at h)
 ·refine ⟨hes, hk l hl (fun e he => ?_)⟩
  obtain ⟨i, hi⟩ := Yz1.1 he
  have hil := (YzN.1 hi).1
  have him : i < m.length := by rw [<- hl.1]; exact hil
  rw [(hl.2 i e m[i] hi (YzO him)).1, Ybl, hes]
theorem YbG {a b : List (List AV)} {c : Cs} {l m : List c.den} (h : Rows a c l) (k : Rows b c m) : Rows (a ++ b) c (l ++ m) := by
 refine ⟨by simp [h.1, k.1], fun i e v h1 h2 => ?_⟩
 by_cases hi : i < l.length
 ·rw [YzS (by rw [h.1]; exact hi)] at h1
  rw [YzS hi] at h2
  exact h.2 i e v h1 h2
 ·rw [YzU (by rw [h.1]; omega), h.1] at h1
  rw [YzU (by omega)] at h2
  exact k.2 _ e v h1 h2
theorem Yq0 {c : Cs} {w : Nat} {s x : TV} {as ax : AV} {K : TV -> YwG -> Option β} (h : vapp c w s x X K = some r) (hs : TR X pl s as) (hx : TR X pl x ax) (hr : HRel Fr H0 X pl H) {KA : AV -> List Upd -> Prop}
  (hk : ∀ v X' va us, K v X' = some r -> Nxt Fr H0 X pl H v X' va us -> KA va us) :
  (match (generalizing := false) ax with | .rd es' l => es' = c.width /\ appK c.width as l (hf H) H.length KA | .emp => appK c.width as [] (hf H) H.length KA | _ => False) := by
 have push : ∀ {c' : Cs} {m : List c'.den} {l : List (List AV)}, 0 < c'.width -> Rows l c' m -> K (.ref X.length) (X ++ [some (.sq c' m)]) = some r -> KA (.ref H.length 0 l.length) [.push (some ⟨c'.width, l⟩)] := by
  intro c' m l h0 hl hK
  have hn := Yap X (some (.sq c' m))
  obtain ⟨k1, k2⟩ := Yat hr (.sq c' m) ⟨c'.width, l⟩ (fun _ => ⟨H.length, l, by unfold plS; rw [if_pos rfl], by simp, h0, hl⟩)
  exact hk _ _ _ _ hK ⟨_, .ref X.length H.length _ _ hn (by simp [lenO, hl.1]) (by unfold plS; rw [if_pos rfl]), ⟨k1, k2⟩, .inr ⟨by simp [Yae], by unfold plS; rw [if_pos rfl]⟩⟩
 unfold vapp at h
 split at h
 ·rename_i a
  split at h
  ·rename_i c' l ho
   split at h
   ·rename_i m hm
    obtain ⟨e1, e2⟩ := Yaa h
    obtain ⟨e3, e4⟩ := Yaj e2
    have hw := Nat.eq_of_beq_eq_true e1
    obtain ⟨x, n, rfl, hp, hn⟩ := Yaq ho hs
    simp only [lenO] at hn; injection hn with hn; subst hn
    obtain ⟨x', el, h1, h2, h3, h4⟩ := hr.obj a _ ho
    rw [hp] at h1; injection h1 with h1; subst h1
    refine YdC hw.symm hm hx (fun L hL hLe => Yau h2 ⟨rfl, h4.1.symm, hw.symm, by rw [h4.1, hL.1]; exact e3, hLe, ?_⟩)
    obtain ⟨k1, k2⟩ := YcB hr ho hp
    have hXl : (vset X a none).length = X.length := Yae _ _ _
    have hHl : (H.set x none).length = H.length := by simp
    obtain ⟨k3, k4⟩ := Yat k1 (.sq c' (l ++ m)) ⟨c'.width, el ++ L⟩ (fun _ => ⟨H.length, el ++ L, by unfold plS; rw [if_pos rfl, hHl], by rw [<- hHl]; simp, h3, YbG h4 hL⟩)
    rw [hXl, hHl] at k3 k4
    rw [hw]
    refine hk _ _ _ _ e4 ⟨_, ?_, ⟨k3, k2.trans k4⟩, .inr ⟨by simp [Yae], by unfold plS; rw [if_pos rfl]⟩⟩
    refine .ref X.length H.length (.sq c' (l ++ m)) _ ?_ (by simp [lenO, h4.1, hL.1]) (by unfold plS; rw [if_pos rfl])
    have := Yap (vset X a none) (some (.sq c' (l ++ m))); rwa [hXl] at this
   ·cases h
  ·rename_i c' ver l ho
   split at h
   ·rename_i m
    cases hb : (Nat.beq m a || !(Nat.beq c.width 1)) with
    | true => rw [hb, cond_true] at h; cases h
    | false =>
      rw [hb, cond_false] at h
      simp only [Bool.or_eq_false_iff, Bool.not_eq_false'] at hb
      have hw := Nat.eq_of_beq_eq_true hb.2
      have hne : m ≠ a := fun e => by have := hb.1; subst e; rw [Nat.beq_refl] at this; cases this
      split at h
      ·rename_i c2 lm hm
       split at h
       ·rename_i lm' hlm
        obtain ⟨rfl, rfl⟩ := YaQ hlm
        obtain ⟨e3, e4⟩ := Yaj h
        obtain ⟨x, n, rfl, hp, hn⟩ := Yaq ho hs
        simp only [lenO] at hn; injection hn with hn; subst hn
        obtain ⟨x', el, h1, h2, h3, h4, _⟩ := hr.obj a _ ho
        rw [hp] at h1; injection h1 with h1; subst h1
        cases hx with
        | lt es _ asx hl h0 hz hz' hc =>
          cases asx with
          | nil => simp at hl
          | cons f fs =>
            have hfs : fs = [] := by simp at hl; exact hl
            subst hfs
            have hes : es = 1 := (hz [TV.ref m] (Yz2 ..)).symm
            have hf1 := hz' f (Yz2 ..)
            rw [hes] at hf1
            match f, hf1 with
            | [av], _ =>
              have hav := hc 0 0 [.ref m] [av] (.ref m) av rfl rfl rfl rfl
              obtain ⟨y, n', rfl, hpm, hn'⟩ := Yaq hm hav
              simp only [lenO] at hn'; injection hn' with hn'; subst hn'
              refine ⟨by rw [hes, hw], Yau h2 ⟨rfl, h4.symm, by rw [hw], by rw [h4]; exact e3, fun e he => by simp at he; subst he; rw [hw]; rfl, ?_⟩⟩
              obtain ⟨pl', k1, k2, k3⟩ := YqY hr ho hp hm hpm hne h2
              rw [hw]
              refine hk _ _ _ _ e4 ⟨pl', ?_, ⟨k1, k2⟩, .inr ⟨by simp [Yae], k3⟩⟩
              have hXl : (vset (vset X m none) a none).length = X.length := by rw [Yae, Yae]
              refine .ref X.length H.length (.fm c2 0 none (l ++ [lm])) _ ?_ (by simp [lenO, h4]) k3
              have := Yap (vset (vset X m none) a none) (some (.fm c2 0 none (l ++ [lm]))); rwa [hXl] at this
       ·cases h
      ·cases h
   ·cases h
  ·cases h
 ·rename_i c0
  cases hs
  split at h
  ·obtain ⟨e1, e2⟩ := Yaa h
   split at e2
   ·rename_i m hm
    obtain ⟨e3, e4⟩ := Yaj e2
    refine YdC rfl hm hx (fun L hL hLe => ⟨by rw [hL.1]; exact e3, hLe, fun h0 => absurd (show 0 < c.width by simpa using e1) (by rw [h0]; exact Nat.lt_irrefl 0), push (by simpa using e1) hL e4⟩)
   ·cases e2
  ·cases h
  ·split at h
   ·rename_i c' m
    split at h
    ·rename_i c2 lm hm
     split at h
     ·rename_i lm' hlm
      obtain ⟨rfl, rfl⟩ := YaQ hlm
      cases hx with
      | lt es _ asx hl h0 hz hz' hc =>
        cases asx with
        | nil => simp at hl
        | cons f fs =>
          have hfs : fs = [] := by simp at hl; exact hl
          subst hfs
          have hes : es = 1 := (hz [TV.ref m] (Yz2 ..)).symm
          have hf1 := hz' f (Yz2 ..)
          rw [hes] at hf1
          match f, hf1 with
          | [av], _ =>
            have hav := hc 0 0 [.ref m] [av] (.ref m) av rfl rfl rfl rfl
            obtain ⟨y, n', rfl, hpm, hn'⟩ := Yaq hm hav
            simp only [lenO] at hn'; injection hn' with hn'; subst hn'
            refine ⟨by rw [hes]; rfl, by simp [maxEl], fun e he => by simp at he; subst he; rfl, fun h0 => by simp, ?_⟩
            obtain ⟨pl', k1, k2, k3⟩ := YqZ hr hm hpm
            refine hk _ _ _ _ h ⟨pl', ?_, ⟨k1, k2⟩, .inr ⟨by simp [Yae], k3⟩⟩
            have hXl : (vset X m none).length = X.length := Yae _ _ _
            refine .ref X.length H.length (.fm c2 0 none [lm]) _ ?_ rfl k3
            have := Yap (vset X m none) (some (.fm c2 0 none [lm])); rwa [hXl] at this
     ·cases h
    ·cases h
   ·cases h
 ·rename_i a ver i
  split at h
  ·rename_i c' ver' l ho
   split at h
   ·rename_i m hm
    obtain ⟨e1, e2⟩ := Yaa h
    obtain ⟨e3, e4⟩ := Yaj e2
    simp only [Bool.and_eq_true] at e1
    have := Nat.eq_of_beq_eq_true e1.2; subst this
    have hw := Nat.eq_of_beq_eq_true e1.1
    obtain ⟨hi, hsub⟩ := Yfz ho hs
    obtain ⟨x', el, k1, k2, k3, k4, k5, k6⟩ := hr.obj a _ ho
    have hie : i < el.length := by omega
    have hgd : l.getD i [] = l[i] := by simp [List.getD, hi]
    have hXl : (vset X a (some (.fm c' ver (some i) l))).length = X.length := Yae _ _ _
    have hgn := fun o => Yap (vset X a (some (.fm c' ver (some i) l))) o
    rw [hXl] at hgn
    rcases hsub with ⟨y, rfl, hp⟩ | ⟨rfl, hp, h0⟩
    ·rcases k6 i _ _ (YzO hie) (YzO hi) (by simp) with ⟨y2, el', g1, g2, g3, g4⟩ | ⟨g1, _⟩
     ·rw [hp] at g1; injection g1 with g1; subst g1
      rw [<- hgd] at g4
      refine YdC hw.symm hm hx (fun L hL hLe => Yau g3 ⟨rfl, g4.1.symm, hw.symm, by rw [g4.1, hL.1]; exact e3, hLe, ?_⟩)
      have hHl : (H.set y none).length = H.length := by simp
      obtain ⟨q1, q2⟩ := YkF hr (i := i) ho hHl (fun z hz => YzV (fun e => hz (by rw [hp, e])))
      obtain ⟨q3, q4⟩ := Yat q1 (.sq c' (l.getD i [] ++ m)) ⟨c'.width, el' ++ L⟩ (fun _ => ⟨H.length, el' ++ L, by unfold plS; rw [if_pos rfl, hHl], by rw [<- hHl]; simp, k3, YbG g4 hL⟩)
      rw [hXl, hHl] at q3 q4
      rw [hw]
      exact hk _ _ _ _ e4 ⟨_, .ref X.length H.length (.sq c' (l.getD i [] ++ m)) _ (hgn _) (by simp [lenO, g4.1, hL.1]) (by unfold plS; rw [if_pos rfl]), ⟨q3, q2.trans q4⟩, .inr ⟨by simp [Yae], by unfold plS; rw [if_pos rfl]⟩⟩
     ·rw [hp] at g1; cases g1
    ·refine YdC hw.symm hm hx (fun L hL hLe => ⟨by rw [h0] at e3; simpa [hL.1] using e3, hLe, fun h0 => absurd h0 (by rw [hw]; omega), ?_⟩)
     obtain ⟨q1, q2⟩ := YkF hr (i := i) ho rfl (fun z _ => rfl)
     obtain ⟨q3, q4⟩ := Yat q1 (.sq c' (l.getD i [] ++ m)) ⟨c'.width, L⟩ (fun _ => ⟨H.length, L, by unfold plS; rw [if_pos rfl], by simp, k3, by rw [h0]; exact hL⟩)
     rw [hXl] at q3 q4
     rw [hw]
     exact hk _ _ _ _ e4 ⟨_, .ref X.length H.length (.sq c' (l.getD i [] ++ m)) _ (hgn _) (by simp only [lenO, h0]; simp [hL.1]) (by unfold plS; rw [if_pos rfl]), ⟨q3, q2.trans q4⟩, .inr ⟨by simp [Yae], by unfold plS; rw [if_pos rfl]⟩⟩
   ·cases h
  ·cases h
 ·cases h
end
end Go.Abs
namespace Go.Abs
open Go Go.RowKit
section
variable {Fr : Nat -> Prop} {H0 : Heap} {X : YwG} {pl : Pl} {H : Heap} {β : Type} {r : β} {env : VEnv} {ae : Env}
def RowsB (l : List (List AV)) (v : List Int) : Prop := l.length = v.length /\ ∀ (i : Nat) (e : List AV) (n : Int), l[i]? = some e -> v[i]? = some n -> e = [.v (.int .u8 n)]
theorem RowsB.rows {l : List (List AV)} {v : List Int} (h : RowsB l v) : Rows l U8 v := by
 refine ⟨h.1, fun i e n h1 h2 => ?_⟩
 have := h.2 i e n h1 h2
 subst this
 exact ⟨rfl, fun j x x' h1 h2 => by
  match j, h1, h2 with
  | 0, h1, h2 => simp [Cs.enc, Ty.enc, fstP] at h1 h2; subst h1; subst h2; exact .refl _
  | j + 1, h1, h2 => simp at h1⟩
theorem RowsB.of {l : List (List AV)} {v : List Int} (h : Rows l U8 v) : RowsB l v := by
 refine ⟨h.1, fun i e n h1 h2 => ?_⟩
 have h0 := h.2 i e n h1 h2
 have hl : e.length = 1 := h0.1
 match e, hl with
 | [a], _ =>
   have ha := h0.2 0 a _ rfl rfl
   have : a = .v (.int .u8 n) := YaN ha
   rw [this]
theorem RowsB.app {a b : List (List AV)} {l m : List Int} (h : RowsB a l) (k : RowsB b m) : RowsB (a ++ b) (l ++ m) := RowsB.of (YbG h.rows k.rows)
theorem Ya1 (s : ByteArray) : RowsB (strA s) (strL s) := by
 refine ⟨by simp [strA, strL], fun i e v h1 h2 => ?_⟩
 unfold strA at h1
 unfold strL at h2
 rw [YzP, Option.map_eq_some_iff] at h1 h2
 obtain ⟨b, hb, rfl⟩ := h1
 obtain ⟨b', hb', rfl⟩ := h2
 rw [hb] at hb'; injection hb' with hb'; subst hb'
 rfl
theorem YfB : ∀ {l : List (List AV)} {v : List Int}, RowsB l v -> Yxf l = some (v.map fun n => UInt8.ofNat n.toNat)
 | [], v, h => by
   have : v = [] := YzY.1 h.1.symm
   subst this; rfl
 | e :: l, [], h => by have := h.1; simp at this
 | e :: l, n :: v, h => by
   have h0 := h.2 0 e n rfl rfl
   subst h0
   have ih := YfB (l := l) (v := v) ⟨by have := h.1; simpa using this, fun i e w h1 h2 => h.2 (i + 1) e w (by simpa using h1) (by simpa using h2)⟩
   simp only [Yxf, YyL, ih, YzR]
theorem YkJ {m : List Int} (h : inB m = true) {l : List (List AV)} (hr : RowsB l m) : l = strA (YwQ m) := by
 unfold strA YwQ
 have hd : (⟨(m.map fun n => UInt8.ofNat n.toNat).toArray⟩ : ByteArray).toList = m.map fun n => UInt8.ofNat n.toNat := by
  rw [YaR]
 rw [hd]
 refine YAm fun i => ?_
 rw [YzP, YzP]
 cases hl : l[i]? with
 | none =>
   have : m[i]? = none := by rw [YAx] at hl ⊢; rw [<- hr.1]; exact hl
   rw [this]; rfl
 | some e =>
   have hi := (YzN.1 hl).1
   have him : i < m.length := by rw [<- hr.1]; exact hi
   rw [YzO him]
   rw [hr.2 i e m[i] hl (YzO him)]
   unfold inB at h
   have := Yz9.1 h m[i] (YAu him)
   simp only [Bool.and_eq_true, decide_eq_true_eq] at this
   simp only [Option.map_some, Option.some.injEq, List.cons.injEq, and_true, AV.v.injEq, Value.int.injEq, true_and]
   rw [UInt8.toNat_ofNat']
   omega
theorem Yq1 (s : ByteArray) : Yxf (strA s) = some s.toList := by
 unfold strA
 induction s.toList with
 | nil => rfl
 | cons b l ih =>
   simp only [YzR, Yxf, ih, YyL]
   simp
theorem Yq2 (s t : ByteArray) : strA (s ++ t) = strA s ++ strA t := by
 unfold strA
 rw [YaR, YaR, YaR, <- YAp]
 simp
theorem YbH {l : List (List AV)} {c : Cs} {v : List c.den} (h : Rows l c v) : ∀ e ∈ l, e.length = c.width := fun e he => by
 obtain ⟨i, hi⟩ := Yz1.1 he
 have hil := (YzN.1 hi).1
 have him : i < v.length := by rw [<- h.1]; exact hil
 rw [(h.2 i e v[i] hi (YzO him)).1, Ybl]
theorem YcG {l : List (List AV)} {n : Nat} (h : ∀ e ∈ l, e.length = n) : (l.all fun e => Nat.beq e.length n) = true := by
 rw [Yz9]; intro e he; rw [h e he]; exact Nat.beq_refl n
theorem beqT {n : Nat} : Nat.beq n n = true := Nat.beq_refl n
theorem bleT {n m : Nat} (h : n <= m) : Nat.ble n m = true := Nat.ble_eq_true_of_le h
theorem YfC {os es : Nat} {l : List (List AV)} {h : HF} {nid : Nat} (h1 : ∀ e ∈ l, e.length = es) (h2 : l.length <= maxEl) (h3 : 0 < os \/ 0 < l.length) : apX os es .emp l h nid = some (⟨os, l⟩, []) := by
 unfold apX
 rw [YcG h1, cond_true]
 simp only
 have : (Nat.blt 0 os || !l.isEmpty) = true := by
  rcases h3 with h3 | h3
  ·have : Nat.blt 0 os = true := by simpa [Nat.blt] using (show 1 <= os from h3)
   rw [this]; rfl
  ·cases l with
   | nil => simp at h3
   | cons _ _ => simp
 rw [bleT h2, this, Bool.and_self, cond_true]
theorem YfD {os es a : Nat} {l : List (List AV)} {o : AObj} {nid : Nat} (h1 : ∀ e ∈ l, e.length = es) (ho : H[a]? = some (some o)) (hes : o.es = os) (h2 : o.el.length + l.length <= maxEl) : apX os es (.ref a 0 o.el.length) l (hf H) nid = some (⟨os, o.el ++ l⟩, [.set a none]) := by
 unfold apX
 rw [YcG h1, cond_true]
 simp only [hf, ho, hes, beqT, bleT h2, Bool.and_self, cond_true]
theorem YfE : ∀ {cs : List TV} {as : List AV} {els : List (List TV)}, Yxh X cs = some els -> CT X pl cs as -> ∃ l, cellsAll as = some l /\ CE X pl els l
 | [], as, els, h, hc => by
   simp only [Yxh] at h; injection h with h; subst h
   have : as = [] := YzY.1 hc.1.symm
   subst this
   exact ⟨[], rfl, rfl, fun i e f h => by simp at h⟩
 | c :: cs, as, els, h, hc => by
   simp only [Yxh] at h
   split at h
   ·rename_i x xs hx hxs
    injection h with h; subst h
    obtain ⟨a, r, rfl, h1, h2⟩ := hc.inv
    obtain ⟨l, h3, h4⟩ := YfE hxs h2
    obtain ⟨b, h5, h6⟩ := Yfy hx h1
    refine ⟨b :: l, by simp only [cellsAll, h5, h3], by simp [h4.1], fun i e f g1 g2 => ?_⟩
    cases i with
    | zero => simp at g1 g2; subst g1; subst g2; exact h6
    | succ i => exact h4.2 i e f (by simpa using g1) (by simpa using g2)
   ·cases h
theorem rows_coe' {es : Nat} {L : List (List AV)} {c : Cs} {l : List c.den} (h : Rows L c l) : Coe (.rd es L) (.rd es (l.map c.enc)) := by
 refine .rd es L _ (by simpa using h.1) (fun i e e' h1 h2 => ?_) (fun i e e' j x x' h1 h2 h3 h4 => ?_)
 ·rw [YzP, Option.map_eq_some_iff] at h2
  obtain ⟨v, hv, rfl⟩ := h2
  exact (h.2 i e v h1 hv).1
 ·rw [YzP, Option.map_eq_some_iff] at h2
  obtain ⟨v, hv, rfl⟩ := h2
  exact (h.2 i e v h1 hv).2 j x x' h3 h4
theorem YdD (hr : HRel Fr H0 X pl H) : HRel Fr H0 X pl (H ++ [none]) := by
 refine ⟨fun a o ho => ?_, hr.inj, hr.own, fun x hx => ?_, hr.nfr, by have := hr.le; simp; omega⟩
 ·refine (hr.obj a o ho).keep (Ext.refl _ _) (fun _ _ => rfl) (fun p x _ hp => ?_)
  rw [YzS (hr.bd hp)]
 ·have h1 := hr.fr x hx
  refine ⟨h1.1, ?_⟩
  have := hr.le
  rw [YzS (by omega)]; exact h1.2
theorem YkK (hr : HRel Fr H0 X pl H) {a : Nat} {c : Cs} {l : List c.den} (ho : vget X a = some (.sq c l)) {s : AV} (hs : TR X pl (.ref a) s) :
  ∃ x el, pl (.m a) = some x /\ H[x]? = some (some ⟨c.width, el⟩) /\ 0 < c.width /\ Rows el c l /\ s = .ref x 0 el.length := by
 obtain ⟨x, n, rfl, hp, hn⟩ := Yaq ho hs
 simp only [lenO] at hn; injection hn with hn; subst hn
 obtain ⟨x', el, h1, h2, h3, h4⟩ := hr.obj a _ ho
 rw [hp] at h1; injection h1 with h1; subst h1
 exact ⟨x, el, hp, h2, h3, h4, by rw [h4.1]⟩
theorem YcH {c : Cs} {x : TV} {ax : AV} {m : List c.den} (h : srcV c x = some m) (hx : TR X pl x ax) : ∃ l, srcA ax = some l /\ Yxw c.width ax = true /\ Rows l c m := by
 rcases YkI h hx with ⟨rfl, rfl⟩ | ⟨l, rfl, hl⟩
 ·exact ⟨[], rfl, rfl, rfl, fun i e v h => by simp at h⟩
 ·exact ⟨l, rfl, beqT, hl⟩
theorem Yq3 {c : Cs} {s x : TV} {as ax : AV} {K : TV -> YwG -> Option β} (hw0 : 0 < c.width) (h : Yzc c s x X K = some r) (hs : TR X pl s as) (hx : TR X pl x ax) (hr : HRel Fr H0 X pl H) {KA : AV -> List Upd -> Prop}
  (hk : ∀ v X' va us, K v X' = some r -> Nxt Fr H0 X pl H v X' va us -> KA va us) : ∃ v us, xF (.appD c.width) [as, ax] (hf H) H.length = some (v, us) /\ KA v us := by
 unfold Yzc at h
 split at h
 ·split at h
  ·rename_i m hm
   obtain ⟨h1, h2⟩ := Yaj h
   obtain ⟨l, k1, k2, k3⟩ := YcH hm hx
   cases hs with
   | e =>
   refine ⟨.rd c.width l, [.push none], ?_, hk _ _ _ _ h2 ⟨pl, .l c m _ (rows_coe' k3), ⟨?_, Ext.refl _ _⟩, .inl rfl⟩⟩
   ·simp only [xF, k1, k2, cond_true, YfC (YbH k3) (by rw [k3.1]; exact h1) (.inl hw0), YAn, show Nat.blt 0 c.width = true by simpa [Nat.blt] using (show 1 <= c.width from hw0), Bool.and_self]
   ·exact YdD hr
  ·cases h
 ·rename_i a
  split at h
  ·rename_i c' l ho
   split at h
   ·rename_i m hm
    obtain ⟨e1, e2⟩ := Yaa h
    obtain ⟨h1, h2⟩ := Yaj e2
    have hw := Nat.eq_of_beq_eq_true e1
    obtain ⟨lx, k1, k2, k3⟩ := YcH hm hx
    obtain ⟨y, el, hp, hy, h0, hrow, rfl⟩ := YkK hr ho hs
    have hap := YfD (nid := H.length) (YbH k3) hy rfl (by show el.length + _ <= _; rw [hrow.1, k3.1]; exact h1)
    obtain ⟨g1, g2⟩ := YcB hr ho hp
    refine ⟨.rd c'.width (el ++ lx), [.set y none, .push none], ?_, hk _ _ _ _ h2 ⟨_, .l c' (l ++ m) _ (rows_coe' (YbG hrow k3)), ⟨?_, g2⟩, .inl (Yae _ _ _)⟩⟩
    ·rw [hw] at hw0 ⊢
     simp only [xF, k1, k2, cond_true, hap, YAe, YAn, show Nat.blt 0 c'.width = true by simpa [Nat.blt] using (show 1 <= c'.width from hw0), Bool.and_self]
    ·exact YdD g1
   ·cases h
  ·cases h
 ·cases h
theorem YdE (hr : HRel Fr H0 X pl H) {a : Nat} {b : ByteArray} (ho : vget X a = some (.sb b)) {s : AV} (hs : TR X pl (.ref a) s) :
  ∃ x, pl (.m a) = some x /\ H[x]? = some (some ⟨0, strA b⟩) /\ s = .ref x 0 (strA b).length := by
 obtain ⟨x, n, rfl, hp, hn⟩ := Yaq ho hs
 simp only [lenO] at hn; injection hn with hn; subst hn
 obtain ⟨x', h1, h2⟩ := hr.obj a _ ho
 rw [hp] at h1; injection h1 with h1; subst h1
 exact ⟨x, hp, h2, by rw [strA_len']⟩
theorem YkL (hr : HRel Fr H0 X pl H) (b : ByteArray) : Nxt Fr H0 X pl H (.ref X.length) (X ++ [some (.sb b)]) (.ref H.length 0 (strA b).length) [.push (some ⟨0, strA b⟩)] := by
 obtain ⟨k1, k2⟩ := Yat hr (.sb b) ⟨0, strA b⟩ (fun _ => ⟨H.length, by unfold plS; rw [if_pos rfl], by simp⟩)
 exact ⟨_, .ref X.length H.length _ _ (Yap X _) (by simp only [lenO]; rw [strA_len']) (by unfold plS; rw [if_pos rfl]), ⟨k1, k2⟩, .inr ⟨by simp, by unfold plS; rw [if_pos rfl]⟩⟩
theorem Yq4 (hr : HRel Fr H0 X pl H) {a y : Nat} {s : VObj} (b : ByteArray) (ho : vget X a = some s) (hp : pl (.m a) = some y) (hf : isFm s = false) :
  Nxt Fr H0 X pl H (.ref X.length) (vset X a none ++ [some (.sb b)]) (.ref H.length 0 (strA b).length) [.set y none, .push (some ⟨0, strA b⟩)] := by
 obtain ⟨g1, g2⟩ := YcB hr ho hp
 have hXl : (vset X a none).length = X.length := Yae _ _ _
 have hHl : (H.set y none).length = H.length := by simp
 obtain ⟨k3, k4⟩ := Yat g1 (.sb b) ⟨0, strA b⟩ (fun _ => ⟨H.length, by unfold plS; rw [if_pos rfl, hHl], by rw [<- hHl]; simp⟩)
 rw [hXl, hHl] at k3 k4
 refine ⟨_, ?_, ⟨k3, g2.trans k4⟩, .inr ⟨by simp [Yae], by unfold plS; rw [if_pos rfl]⟩⟩
 refine .ref X.length H.length (.sb b) _ ?_ (by simp only [lenO]; rw [strA_len']) (by unfold plS; rw [if_pos rfl])
 have := Yap (vset X a none) (some (.sb b)); rwa [hXl] at this
theorem YkM {s : TV} {b : ByteArray} {as : AV} {L : List (List AV)} {K : TV -> YwG -> Option β} (hL : L = strA b)
  (h : (match s with
   | .e _ => chk (0 < b.size /\ b.size <= maxEl) (K (.ref X.length) (X ++ [some (.sb b)]))
   | .ref a => match vget X a with
     | some (.sb s) => chk (s.size + b.size <= maxEl) (K (.ref X.length) (vset X a none ++ [some (.sb (s ++ b))]))
     | _ => none
   | _ => none) = some r) (hs : TR X pl s as) (hr : HRel Fr H0 X pl H) {KA : AV -> List Upd -> Prop}
  (hk : ∀ v X' va us, K v X' = some r -> Nxt Fr H0 X pl H v X' va us -> KA va us) :
  ∃ o us, apX 0 1 as L (hf H) H.length = some (o, us) /\ KA (.ref H.length 0 o.el.length) (us ++ [.push (some o)]) := by
 subst hL
 have hbl : ∀ e ∈ strA b, e.length = 1 := YbH (Ya1 b).rows
 split at h
 ·obtain ⟨h1, h2⟩ := Yaj h
  cases hs with
  | e => exact ⟨_, _, YfC hbl (by rw [strA_len']; exact h1.2) (.inr (by rw [strA_len']; exact h1.1)), hk _ _ _ _ h2 (YkL hr b)⟩
 ·rename_i a
  split at h
  ·rename_i s' ho
   obtain ⟨h1, h2⟩ := Yaj h
   obtain ⟨y, hp, hy, rfl⟩ := YdE hr ho hs
   refine ⟨_, _, YfD (o := ⟨0, strA s'⟩) hbl hy rfl (by show (strA s').length + _ <= _; rw [strA_len', strA_len']; exact h1), ?_⟩
   have := Yq4 hr (s' ++ b) ho hp rfl
   rw [Yq2] at this
   exact hk _ _ _ _ h2 this
  ·cases h
 ·cases h
theorem Yq5 {s : TV} {b : ByteArray} {as : AV} {K : TV -> YwG -> Option β} (h : Yzw s b X K = some r) (hs : TR X pl s as) (hr : HRel Fr H0 X pl H) {KA : AV -> List Upd -> Prop}
  (hk : ∀ v X' va us, K v X' = some r -> Nxt Fr H0 X pl H v X' va us -> KA va us) : ∃ v us, xF .apps [as, .v (.string b)] (hf H) H.length = some (v, us) /\ KA v us := by
 obtain ⟨o, us, h1, h2⟩ := YkM (b := b) rfl h hs hr hk
 exact ⟨_, _, by simp only [xF, h1], h2⟩
theorem Yq6 (m : List Int) : (YwQ m).size = m.length := by simp [YwQ, ByteArray.size]
theorem Yq7 {s x : TV} {as ax : AV} {K : TV -> YwG -> Option β} (h : Yzd s x X K = some r) (hs : TR X pl s as) (hx : TR X pl x ax) (hr : HRel Fr H0 X pl H) {KA : AV -> List Upd -> Prop}
  (hk : ∀ v X' va us, K v X' = some r -> Nxt Fr H0 X pl H v X' va us -> KA va us) : ∃ v us, xF .appb [as, ax] (hf H) H.length = some (v, us) /\ KA v us := by
 unfold Yzd at h
 split at h
 ·rename_i m hm
  obtain ⟨hb, h⟩ := Yaa h
  obtain ⟨l, k1, k2, k3⟩ := YcH hm hx
  have hl := YkJ hb (RowsB.of k3)
  obtain ⟨o, us, h1, h2⟩ := YkM (b := YwQ m) hl (by rw [Yq6]; exact h) hs hr hk
  have k2' : Yxw 1 ax = true := k2
  exact ⟨_, _, by simp only [xF, k1, k2', cond_true, h1], h2⟩
 ·cases h
theorem Yq8 {s x : TV} {as ax : AV} {K : TV -> YwG -> Option β} (h : YyB s x X K = some r) (hs : TR X pl s as) (hx : TR X pl x ax) (hr : HRel Fr H0 X pl H) {KA : AV -> List Upd -> Prop}
  (hk : ∀ v X' va us, K v X' = some r -> Nxt Fr H0 X pl H v X' va us -> KA va us) : ∃ v us, xF .appDb [as, ax] (hf H) H.length = some (v, us) /\ KA v us := by
 unfold YyB at h
 split at h
 ·rename_i m hm
  obtain ⟨l, k1, k2, k3⟩ := YcH hm hx
  have k2' : Yxw 1 ax = true := k2
  have hll : ∀ e ∈ l, e.length = 1 := YbH k3
  split at h
  ·obtain ⟨h1, h2⟩ := Yaj h
   cases hs with
   | e =>
   refine ⟨.rd 1 l, [.push none], ?_, hk _ _ _ _ h2 ⟨pl, .l U8 m _ (rows_coe' k3), ⟨YdD hr, Ext.refl _ _⟩, .inl rfl⟩⟩
   simp only [xF, k1, k2', cond_true, YfC (os := 0) hll (by rw [k3.1]; exact h1.2) (.inr (by rw [k3.1]; exact h1.1)), YAn]
  ·rename_i a
   split at h
   ·rename_i s' ho
    obtain ⟨h1, h2⟩ := Yaj h
    obtain ⟨y, hp, hy, rfl⟩ := YdE hr ho hs
    obtain ⟨g1, g2⟩ := YcB hr ho hp
    have hap := YfD (os := 0) (nid := H.length) (o := ⟨0, strA s'⟩) hll hy rfl (by show (strA s').length + _ <= _; rw [strA_len', k3.1]; exact h1)
    refine ⟨.rd 1 (strA s' ++ l), [.set y none, .push none], ?_, hk _ _ _ _ h2 ⟨_, .l U8 (strL s' ++ m) _ (rows_coe' ((Ya1 s').app (RowsB.of k3)).rows), ⟨YdD g1, g2⟩, .inl (Yae _ _ _)⟩⟩
    simp only [xF, k1, k2', cond_true, hap, YAe, YAn]
   ·cases h
  ·cases h
 ·cases h
theorem Yq9 {cs : List TV} {as : List AV} {e : List TV} {els : List (List TV)} {l : List Int} (hc : Yxh X cs = some (e :: els)) (hp : YxP U8 (e :: els) = some l) (hb : inB l = true) (hm : els.length + 1 <= 1000000) (hct : CT X pl cs as) (hr : HRel Fr H0 X pl H) :
  ∃ va us, xF .litb as (hf H) H.length = some (va, us) /\ Nxt Fr H0 X pl H (.ref X.length) (X ++ [some (.sb (YwQ l))]) va us := by
 obtain ⟨L, h1, h2⟩ := YfE hc hct
 have hrow : Rows L U8 l := YcD (c := U8) hp h2
 have hL := h2.1
 have hb := YkJ hb (RowsB.of hrow)
 cases L with
 | nil => simp at hL
 | cons f fs =>
   have hlen : (f :: fs).length <= maxEl := by rw [<- hL]; simp only [YAb, maxEl]; omega
   refine ⟨_, _, ?_, hb ▸ YkL hr (YwQ l)⟩
   simp only [xF, h1, YcG (n := 1) (YbH hrow), bleT hlen, Bool.and_self, cond_true]
theorem Yra {x : TV} {ax : AV} {K : TV -> YwG -> Option β} (h : Yze x X K = some r) (hx : TR X pl x ax) (hr : HRel Fr H0 X pl H) {KA : AV -> List Upd -> Prop}
  (same : ∀ v va, K v X = some r -> TR X pl v va -> KA va []) : ∃ v us, xF .bstr [ax] (hf H) H.length = some (v, us) /\ KA v us := by
 unfold Yze at h
 split at h
 ·cases hx with
  | e => exact ⟨_, [], rfl, same _ _ h (.s _)⟩
 ·rename_i c v
  split at h
  ·rename_i l hl
   obtain ⟨rfl, rfl⟩ := YaQ hl
   cases hx with
   | l _ _ _ hc =>
     rcases YaP hc with ⟨rfl, hb⟩ | ⟨l0, rfl, hl, hcc⟩
     ·have hv : v = [] := by simpa using hb
      subst hv
      exact ⟨_, [], rfl, same _ _ h (.s _)⟩
     ·have hrow : Rows l0 U8 v := ⟨by simpa using hl, fun i e w h1 h2 => hcc i e _ h1 (by rw [YzP, h2]; rfl)⟩
      refine ⟨.v (.string (YwQ v)), [], ?_, same _ _ h (.s _)⟩
      simp only [xF, show U8.width = 1 from rfl, beqT, cond_true, YfB (RowsB.of hrow)]
      rfl
  ·cases h
 ·rename_i a
  split at h
  ·rename_i c' l ho
   split at h
   ·rename_i l' hl
    obtain ⟨rfl, hl2⟩ := YaQ hl
    have hl2 := hl2.symm
    subst hl2
    obtain ⟨y, el, hp, hy, h0, hrow, rfl⟩ := YkK hr ho hx
    refine ⟨.v (.string (YwQ l')), [], ?_, same _ _ h (.s _)⟩
    simp only [xF, hf, hy, show wd U8.width = 1 from rfl, beqT, bleT (Nat.le_refl _), Bool.and_self, cond_true, YAg, YfB (RowsB.of hrow)]
    rfl
   ·cases h
  ·rename_i s' ho
   obtain ⟨y, hp, hy, rfl⟩ := YdE hr ho hx
   refine ⟨.v (.string s'), [], ?_, same _ _ h (.s _)⟩
   simp only [xF, hf, hy, show wd 0 = 1 from rfl, beqT, bleT (Nat.le_refl _), Bool.and_self, cond_true, YAg, Yq1]
   have : (⟨s'.toList.toArray⟩ : ByteArray) = s' := by rw [YaR]
   rw [this]
  ·cases h
 ·cases h
theorem Yrb {c : Cs} {cs : List TV} {as : List AV} {e : List TV} {els : List (List TV)} {l : List c.den} (hc : Yxh X cs = some (e :: els)) (hp : YxP c (e :: els) = some l) (h0 : 0 < c.width) (hm : els.length + 1 <= 1000000) (hct : CT X pl cs as) (hr : HRel Fr H0 X pl H) :
  ∃ va us, xF (.lit c.width) as (hf H) H.length = some (va, us) /\ Nxt Fr H0 X pl H (.ref X.length) (X ++ [some (.sq c l)]) va us := by
 obtain ⟨L, h1, h2⟩ := YfE hc hct
 have hrow := YcD hp h2
 have hL := h2.1
 cases L with
 | nil => simp at hL
 | cons f fs =>
   obtain ⟨k1, k2⟩ := Yat hr (.sq c l) ⟨c.width, f :: fs⟩ (fun _ => ⟨H.length, f :: fs, by unfold plS; rw [if_pos rfl], by simp, h0, hrow⟩)
   refine ⟨.ref H.length 0 (f :: fs).length, [.push (some ⟨c.width, f :: fs⟩)], ?_, _, .ref X.length H.length _ _ (Yap X _) (by simp [lenO, <- hrow.1]) (by unfold plS; rw [if_pos rfl]), ⟨k1, k2⟩, .inr ⟨by simp, by unfold plS; rw [if_pos rfl]⟩⟩
   have hlen : (f :: fs).length <= maxEl := by rw [<- hL]; simp only [YAb, maxEl]; omega
   have hblt : Nat.blt 0 c.width = true := by simpa [Nat.blt] using (show 1 <= c.width from h0)
   simp only [xF, h1, hblt, YcG (YbH hrow), bleT hlen, Bool.and_self, cond_true]
theorem Yrc (hr : HRel Fr H0 X pl H) : Nxt Fr H0 X pl H (.ptr X.length 0 0) (X ++ [some (.st [.np X.length, .v (.slice none 0 0)])]) (.ptr H.length 0 0) [.push (some ⟨2, [[.np H.length, .v (.slice none 0 0)]]⟩)] := by
 obtain ⟨k1, k2⟩ := Yat hr (.st [.np X.length, .v (.slice none 0 0)]) ⟨2, [[.np H.length, .v (.slice none 0 0)]]⟩ (fun hx => ⟨H.length, [.np H.length, .v (.slice none 0 0)], by unfold plS; rw [if_pos rfl], by simp, Nat.zero_lt_succ _,
  .cons (.np X.length H.length _ (Yap X _) (by unfold plS; rw [if_pos rfl])) (.cons (.v _) .nil)⟩)
 exact ⟨_, .ptr X.length 0 0 H.length _ (Yap X _) (by simp [elN]) (by unfold plS; rw [if_pos rfl]), ⟨k1, k2⟩, .inr ⟨by simp, by unfold plS; rw [if_pos rfl]⟩⟩
theorem YaS {a : Nat} {ax : AV} {o : VObj} (ho : vget X a = some o) (h : TR X pl (.np a) ax) : ∃ x, ax = .np x /\ pl (.m a) = some x := by
 cases h with
 | np a x o h hp => exact ⟨x, rfl, hp⟩
 | npD a av h ha => rw [ho] at h; cases h
theorem YkN {b : ByteArray} {a : AV} (h : TR X pl (.s b) a) : a = .v (.string b) := by cases h; rfl
theorem YkO {l : List TV} {as : List AV} {x y c : Int} (hl : l = [.i .u64 x, .i .u64 y, .i .u64 c]) (hc : CT X pl l as) : as = [.v (.int .u64 x), .v (.int .u64 y), .v (.int .u64 c)] := by
 subst hl
 obtain ⟨a, r, rfl, h1, h2⟩ := hc.inv
 obtain ⟨b, r, rfl, h3, h4⟩ := h2.inv
 obtain ⟨d, r, rfl, h5, h6⟩ := h4.inv
 have : r = [] := YzY.1 h6.1.symm
 subst this
 cases h1; cases h3; cases h5; rfl
end
end Go.Abs
namespace Go.Abs
open Go Go.RowKit
section
variable {Fr : Nat -> Prop} {H0 : Heap} {X : YwG} {pl : Pl} {H : Heap} {β : Type} {r : β} {env : VEnv} {ae : Env}
def keyV : (o : Option IntKind) -> (kty o).den -> Value
 | none, s => .string s
 | some k, n => .int k n
theorem keq_iff {o : Option IntKind} {a b : (kty o).den} : keq o a b = true ↔ a = b := by
 cases o with
 | none =>
   have : ∀ a b : ByteArray, decide (a = b) = true ↔ a = b := fun a b => by simp
   exact this a b
 | some k =>
   have : ∀ a b : Int, decide (a = b) = true ↔ a = b := fun a b => by simp
   exact this a b
theorem Yrd {o : Option IntKind} (a b : (kty o).den) : Yyu (kstr o) (keyV o a) (keyV o b) = some (keq o a b) := by
 cases o with
 | none =>
   have : ∀ a b : ByteArray, some (a == b) = some (decide (a = b)) := fun a b => by
    congr 1
    by_cases e : a = b
    ·rw [(MapKept.bytes_beq a b).2 e, decide_eq_true e]
    ·rw [decide_eq_false e]
     cases h : (a == b) with
     | false => rfl
     | true => exact absurd ((MapKept.bytes_beq a b).1 h) e
   exact this a b
 | some k =>
   have : ∀ a b : Int, (if k = k then some (a == b) else none) = some (decide (a = b)) := fun a b => by
    rw [if_pos rfl]; rfl
   exact this a b
theorem YdF (o : Option IntKind) (k : (kty o).den) : keyK (kstr o) (keyV o k) = true := by cases o <;> rfl
theorem YfF {o : Option IntKind} {tv : TV} {a : AV} {k : (kty o).den} (h : toD (kty o) tv = some k) (hr : TR X pl tv a) : a = .v (keyV o k) := by
 have := Yky h hr
 cases o with
 | none => exact YaN this
 | some q => exact YaN this
theorem YkP (o : Option IntKind) (t : Ty) (V : Cs) (x : (mapC o t V).den) : (mapC o t V).enc x = .v (.int .i64 x.1) :: .v (keyV o x.2.1) :: (Cs.cons t V).enc x.2.2 := by
 have : (kty o).enc x.2.1 = .v (keyV o x.2.1) := by cases o <;> (simp only [kty, Ty.enc]; rfl)
 rw [<- this]
 simp only [Cs.enc, Ty.enc]
 rfl
theorem YkQ {o : Option IntKind} {t : Ty} {V : Cs} {e : List AV} {x : (mapC o t V).den} (h : CC e ((mapC o t V).enc x)) : ∃ r, e = .v (.int .i64 x.1) :: .v (keyV o x.2.1) :: r /\ CC r ((Cs.cons t V).enc x.2.2) := by
 rw [YkP] at h
 have hl := h.1
 match e, hl with
 | [], hl => simp at hl
 | [_], hl => simp at hl
 | b :: k :: r, hl =>
   have hb : b = .v (.int .i64 x.1) := YaN (h.2 0 b _ rfl rfl)
   have hk : k = .v (keyV o x.2.1) := YaN (h.2 1 k _ rfl rfl)
   subst hb; subst hk
   exact ⟨r, rfl, by simpa using hl, fun j y y' h1 h2 => h.2 (j + 2) y y' (by simpa using h1) (by simpa using h2)⟩
theorem YkR {o : Option IntKind} {t : Ty} {V : Cs} {r : List AV} (b : Int) (k : (kty o).den) {v : (Cs.cons t V).den} (h : CC r ((Cs.cons t V).enc v)) : CC (.v (.int .i64 b) :: .v (keyV o k) :: r) ((mapC o t V).enc (b, (k, v))) := by
 have key : CC (.v (.int .i64 b) :: .v (keyV o k) :: r) (.v (.int .i64 b) :: .v (keyV o k) :: (Cs.cons t V).enc v) := by
  refine ⟨by simp [h.1], fun j y y' h1 h2 => ?_⟩
  match j, h1, h2 with
  | 0, h1, h2 => simp at h1 h2; subst h1; subst h2; exact .refl _
  | 1, h1, h2 => simp at h1 h2; subst h1; subst h2; exact .refl _
  | j + 2, h1, h2 => exact h.2 j y y' (by simpa using h1) (by simpa using h2)
 exact Eq.mpr (congrArg (CC _) (YkP o t V _)) key
theorem Rows.tl {el : List (List AV)} {c : Cs} {e : List AV} {x : c.den} {l : List c.den} (h : Rows (e :: el) c (x :: l)) : CC e (c.enc x) /\ Rows el c l :=
 ⟨h.2 0 e x rfl rfl, by simpa using h.1, fun i e v h1 h2 => h.2 (i + 1) e v (by simpa using h1) (by simpa using h2)⟩
theorem Rows.cons {el : List (List AV)} {c : Cs} {e : List AV} {x : c.den} {l : List c.den} (h : CC e (c.enc x)) (k : Rows el c l) : Rows (e :: el) c (x :: l) := by
 refine ⟨by simp [k.1], fun i e' v h1 h2 => ?_⟩
 cases i with
 | zero => simp at h1 h2; subst h1; subst h2; exact h
 | succ i => exact k.2 i e' v (by simpa using h1) (by simpa using h2)
theorem Rows.none (c : Cs) : Rows [] c [] := ⟨rfl, fun i e v h => by simp at h⟩
theorem YyS {o : Option IntKind} {t : Ty} {V : Cs} (k : (kty o).den) : ∀ (el : List (List AV)) (l : List (mapC o t V).den) (i : Nat), Rows el (mapC o t V) l ->
  (mfd (keq o) k l = none /\ Yw7 (kstr o) (keyV o k) el i = some none /\ (∀ (c : Int) (d : (Cs.cons t V).den), mpt (keq o) c k d l = List.append l [(c, (k, d))]) /\ mdl (keq o) k l = l) \/
  (∃ p r v, mfd (keq o) k l = some v /\ Yw7 (kstr o) (keyV o k) el i = some (some (i + p, r)) /\ CC r ((Cs.cons t V).enc v) /\
   (∀ c d r', CC r' ((Cs.cons t V).enc d) -> Rows (el.modify p (putE (.v (keyV o k)) r')) (mapC o t V) (mpt (keq o) c k d l)) /\ Rows (el.eraseIdx p) (mapC o t V) (mdl (keq o) k l))
 | [], [], i, _ => .inl ⟨rfl, rfl, fun _ _ => rfl, rfl⟩
 | [], _ :: _, i, h => by have := h.1; simp at this
 | _ :: _, [], i, h => by have := h.1; simp at this
 | e :: el, x :: l, i, h => by
   obtain ⟨h1, h2⟩ := h.tl
   obtain ⟨r, rfl, hr⟩ := YkQ h1
   simp only [Yw7, Yrd]
   cases hq : keq o k x.2.1 with
   | true =>
     have hk : k = x.2.1 := keq_iff.1 hq
     refine .inr ⟨0, r, x.2.2, by simp only [mfd, hq, cond_true], rfl, hr, fun c d r' hr' => ?_, ?_⟩
     ·simp only [mpt, hq, cond_true]
      exact Rows.cons (YkR x.1 k hr') h2
     ·simp only [mdl, hq, cond_true]
      exact h2
   | false =>
     rcases YyS k el l (i + 1) h2 with ⟨g1, g2, g3, g4⟩ | ⟨p, r2, v, g1, g2, g3, g4, g5⟩
     ·refine .inl ⟨by simp only [mfd, hq, cond_false]; exact g1, g2, fun c d => ?_, ?_⟩
      ·simp only [mpt, hq, cond_false, g3]; rfl
      ·show (bif keq o k x.2.1 then l else x :: mdl (keq o) k l) = x :: l
       rw [hq, g4]; rfl
     ·refine .inr ⟨p + 1, r2, v, by simp only [mfd, hq, cond_false]; exact g1, by rw [g2, show i + 1 + p = i + (p + 1) by omega], g3, fun c d r' hr' => ?_, ?_⟩
      ·simp only [mpt, hq, cond_false, List.modify_succ_cons]
       exact Rows.cons h1 (g4 c d r' hr')
      ·simp only [mdl, hq, cond_false, List.eraseIdx_cons_succ]
       exact Rows.cons h1 g5
theorem Yre {κ ν : Type} (n : Int) (e : Int × (κ × ν)) (l : List (Int × (κ × ν))) : mbf n (e :: l) = if e.1 = n then some e.2 else mbf n l := by
 show (bif decide (e.1 = n) then some e.2 else mbf n l) = _
 by_cases h : e.1 = n <;> simp [h]
theorem Yrf (n b : Int) (r : List AV) (el : List (List AV)) : YxU n ((.v (.int .i64 b) :: r) :: el) = if b = n then some (.v (.int .i64 b) :: r) else YxU n el := by
 simp only [YxU, Yx3]
 by_cases h : b = n <;> simp [h]
theorem Yy6 {o : Option IntKind} {t : Ty} {V : Cs} (n : Int) : ∀ (el : List (List AV)) (l : List (mapC o t V).den), Rows el (mapC o t V) l -> ∀ e, mbf n l = some e ->
  ∃ b r, YxU n el = some (b :: .v (keyV o e.1) :: r) /\ CC r ((Cs.cons t V).enc e.2)
 | [], [], _, e, h => by cases h
 | [], _ :: _, h, _, _ => by have := h.1; simp at this
 | _ :: _, [], h, _, _ => by have := h.1; simp at this
 | e0 :: el, x :: l, h, e, he => by
   obtain ⟨h1, h2⟩ := h.tl
   obtain ⟨r, rfl, hr⟩ := YkQ h1
   have he' := (@Yre (kty o).den (Cs.cons t V).den n x l).symm.trans he
   have ef := Yrf n x.1 (.v (keyV o x.2.1) :: r) el
   split at he'
   ·rename_i hc
    injection he' with he'; subst he'
    exact ⟨_, r, by rw [ef, if_pos hc], hr⟩
   ·rename_i hc
    rw [ef, if_neg hc]
    exact Yy6 n el l h2 e he'
theorem YfG (hr : HRel Fr H0 X pl H) {a x : Nat} {cs : List TV} (ho : vget X a = some (.st cs)) (hp : pl (.m a) = some x) : ∃ e, H[x]? = some (some ⟨cs.length, [e]⟩) /\ 0 < cs.length /\ CT X pl cs e := by
 obtain ⟨x', e, h1, h2, h3, h4⟩ := hr.obj a _ ho
 rw [hp] at h1; injection h1 with h1; subst h1
 exact ⟨e, h2, h3, h4⟩
theorem YfH {c : Cs} {l : List c.den} {R : AV} (h : TR X pl (.l c l) R) : ∃ el, rowsR R = some el /\ Rows el c l := by
 cases h with
 | l _ _ _ h =>
   rcases YaP h with ⟨rfl, h1⟩ | ⟨l0, rfl, h2, h3⟩
   ·have : l = [] := by simpa using h1
    subst this
    exact ⟨[], rfl, Rows.none c⟩
   ·refine ⟨l0, rfl, by simpa using h2, fun i e v k1 k2 => ?_⟩
    exact h3 i e _ k1 (by rw [YzP, k2]; rfl)
theorem YdG {a x : Nat} {n : Int} {c : Cs} {l : List c.den} {tags : List TV} (hr : HRel Fr H0 X pl H) (ho : vget X a = some (.st (.i .i64 n :: .l c l :: tags))) (hp : pl (.m a) = some x) (hl : tags.length = 1 \/ tags.length = 2) :
  ∃ el atags R, H[x]? = some (some ⟨tags.length + 2, [.v (.int .i64 n) :: R :: atags]⟩) /\ mapO ⟨tags.length + 2, [.v (.int .i64 n) :: R :: atags]⟩ = some (n, el, atags) /\ Rows el c l /\ CT X pl tags atags := by
 obtain ⟨e, h1, h2, h3⟩ := YfG hr ho hp
 obtain ⟨c0, e1, rfl, k1, k2⟩ := h3.inv
 obtain ⟨R, at', rfl, k3, k4⟩ := k2.inv
 cases k1
 obtain ⟨el, k5, k6⟩ := YfH k3
 refine ⟨el, at', R, by simpa using h1, ?_, k6, k4⟩
 unfold mapO
 simp only [k5]
 rcases hl with h | h <;> rw [h] <;> rfl
theorem YdH {o : Option IntKind} {t : Ty} {V : Cs} {x : TV} {ax : AV} {a : Nat} {n : Int} {l : List (mapC o t V).den} {tags : List TV} (h : vmap o t V X x = some (a, n, l, tags)) (hx : TR X pl x ax) (hr : HRel Fr H0 X pl H) :
  ∃ y el atags R, x = .np a /\ ax = .np y /\ pl (.m a) = some y /\ vget X a = some (.st (.i .i64 n :: .l (mapC o t V) l :: tags)) /\ (tags.length = 1 \/ tags.length = 2) /\
    H[y]? = some (some ⟨tags.length + 2, [.v (.int .i64 n) :: R :: atags]⟩) /\ mapO ⟨tags.length + 2, [.v (.int .i64 n) :: R :: atags]⟩ = some (n, el, atags) /\ Rows el (mapC o t V) l /\ CT X pl tags atags := by
 unfold vmap at h
 split at h
 ·rename_i a'
  split at h
  ·rename_i n' c l' tags' ho
   split at h
   ·rename_i l2 hl
    obtain ⟨e1, e2⟩ := Yaa h
    injection e2 with e2; injection e2 with e3 e2; injection e2 with e4 e2; injection e2 with e5 e6
    subst e3; subst e4; subst e5; subst e6
    obtain ⟨ec, el⟩ := YaQ hl
    subst ec; subst el
    simp only [Bool.or_eq_true, Nat.beq_eq] at e1
    obtain ⟨y, rfl, hp⟩ := YaS ho hx
    obtain ⟨el, at', R, k1, k2, k3, k4⟩ := YdG hr ho hp e1
    exact ⟨y, el, at', R, rfl, rfl, hp, ho, e1, k1, k2, k3, k4⟩
   ·cases h
  ·cases h
 ·cases h
theorem YfI {ag : Bool} {t : Ty} {V : Cs} {v : (Cs.cons t V).den} {rr : List AV} (hk : knk ag V = true) (h : CC rr ((Cs.cons t V).enc v)) : ∃ y, mval (knd ag) rr = some y /\ TR X pl (mvT ag (.cons t V) v) y := by
 have hct := YbF (X := X) (pl := pl) (Cs.cons t V) v h
 cases ag with
 | true => exact ⟨.agg rr, rfl, .ag _ _ hct.1 hct.2⟩
 | false =>
   have hV : V.width = 0 := Nat.eq_of_beq_eq_true hk
   cases V with
   | cons _ _ => simp [Cs.width] at hV
   | nil =>
     have hl := h.1
     match rr, hl with
     | [a], _ =>
       refine ⟨a, rfl, ?_⟩
       obtain ⟨a', h1, h2⟩ := hct.get (j := 0) (c := tvOf t (fstP .nil v)) rfl
       simp at h1; subst h1
       exact h2
theorem Yrg {o : Option IntKind} {t : Ty} {V : Cs} {ag ok : Bool} {m k : TV} {am ak : AV} {K : TV -> YwG -> Option β} (h : Yzf o t V ag ok m k X K = some r) (hm : TR X pl m am) (hk : TR X pl k ak) (hr : HRel Fr H0 X pl H)
  (hz : CC ((Cs.cons t V).zeros.map zc) ((Cs.cons t V).enc (Cs.cons t V).dft)) {KA : AV -> List Upd -> Prop} (hK : ∀ v va, K v X = some r -> TR X pl v va -> KA va []) :
  ∃ v us, xF (.mget (kstr o) (knd ag) ok) [am, ak, mzA ag (.cons t V)] (hf H) H.length = some (v, us) /\ KA v us := by
 unfold Yzf at h
 split at h
 ·rename_i a n l tags k' hv hk'
  obtain ⟨y, el, at', R, rfl, rfl, hp, ho, hl, hy, hmo, hrow, htag⟩ := YdH hv hm hr
  obtain ⟨e1, e2⟩ := Yaa h
  simp only [Bool.and_eq_true, Nat.beq_eq] at e1
  obtain ⟨e1, e3⟩ := e1
  have hak := YfF hk' hk
  subst hak
  have hyf : hf H y = some (some ⟨tags.length + 2, [.v (.int .i64 n) :: R :: at']⟩) := hy
  have hb : (Nat.beq (tags.length + 2) (knd ag + 2) && keyK (kstr o) (keyV o k')) = true := by rw [e1, Nat.beq_refl, YdF]; rfl
  have mz : ∃ z, TR X pl (mvT ag (.cons t V) (Cs.cons t V).dft) z /\ mzA ag (.cons t V) = z := by
   obtain ⟨z, h1, h2⟩ := YfI (X := X) (pl := pl) e3 hz
   refine ⟨z, h2, ?_⟩
   cases ag with
   | true => simp only [knd, mval] at h1; injection h1
   | false =>
     have hV : V.width = 0 := Nat.eq_of_beq_eq_true e3
     cases V with
     | cons _ _ => simp [Cs.width] at hV
     | nil => simp only [knd, Cs.zeros, YzR, YzT, mval] at h1; injection h1
  have fin : ∀ (v : TV) (va : AV) (is : Bool), TR X pl v va -> vres ok v is X K = some r -> KA (mres ok va is) [] := by
   intro v va is hv h
   cases ok with
   | true => exact hK _ _ h (.tp _ _ rfl (fun j c a h1 h2 => by
     match j, h1, h2 with
     | 0, h1, h2 => simp at h1 h2; subst h1; subst h2; exact hv
     | 1, h1, h2 => simp at h1 h2; subst h1; subst h2; exact .b _
     | j + 2, h1, h2 => simp at h1))
   | false => exact hK _ _ h hv
  rcases YyS k' el l 0 hrow with ⟨g1, g2, _, _⟩ | ⟨p, rr, v, g1, g2, g3, _, _⟩
  ·obtain ⟨z, hz1, hz2⟩ := mz
   refine ⟨mres ok z false, [], ?_, fin _ _ _ hz1 ?_⟩
   ·simp only [xF, hyf, hmo, hb, cond_true, g2, hz2]
   ·simpa only [mgt, mhs, g1] using e2
  ·obtain ⟨yv, q1, q2⟩ := YfI (X := X) (pl := pl) e3 g3
   refine ⟨mres ok yv true, [], ?_, fin _ _ _ q2 ?_⟩
   ·simp only [xF, hyf, hmo, hb, cond_true, g2, q1]
   ·simpa only [mgt, mhs, g1] using e2
 ·cases h
theorem YdI (hr : HRel Fr H0 X pl H) {a y : Nat} {cs ds : List TV} {e' : List AV} (ho : vget X a = some (.st cs)) (hp : pl (.m a) = some y) {e : List AV} (hy : H[y]? = some (some ⟨cs.length, [e]⟩)) (hl : ds.length = cs.length) (h0 : 0 < ds.length) (hct : CT X pl ds e') :
  Nxt Fr H0 X pl H .u (vset X a (some (.st ds))) .u [.set y (some ⟨cs.length, [e']⟩)] := by
 refine ⟨pl, .u _, ?_, .inl (Yae _ _ _)⟩
 exact YbE hr ho hp _ rfl rfl (fun _ _ _ _ e => by cases e) (fun _ _ _ _ e => by cases e) (fun hx => ⟨y, e', hp, by rw [hl]; exact YzZ (YzN.1 hy).1, h0, hct.ext hx⟩)
theorem YbI {c : Cs} {l : List c.den} {el : List (List AV)} (h : Rows el c l) : TR X pl (.l c l) (.rd c.width el) := .l c l _ (rows_coe' h)
theorem Yrh {a x : AV} (hna : ∀ ds, a ≠ .agg ds) (h : cellsOf a = some [x]) : Yx2 1 a = some [x] := by
 cases a <;> first | exact absurd rfl (hna _) | (simp only [Yx2, h])
theorem Yri {o : Option IntKind} {t : Ty} {V : Cs} {ag : Bool} {m k v : TV} {am ak av : AV} {K : TV -> YwG -> Option β} (h : Yzg o t V ag m k v X K = some r) (hm : TR X pl m am) (hk : TR X pl k ak) (hv : TR X pl v av) (hr : HRel Fr H0 X pl H)
  {KA : AV -> List Upd -> Prop} (hK : ∀ v X' va us, K v X' = some r -> Nxt Fr H0 X pl H v X' va us -> KA va us) :
  ∃ w us, xF (.mput (kstr o) (knd ag) (mapC o t V).width) [am, ak, av] (hf H) H.length = some (w, us) /\ KA w us := by
 unfold Yzg at h
 split at h
 ·rename_i a n l tags k' hvm hk'
  obtain ⟨y, el, at', R, rfl, rfl, hp, ho, hl, hy, hmo, hrow, htag⟩ := YdH hvm hm hr
  obtain ⟨e1, e2⟩ := Yaa h
  simp only [Bool.and_eq_true, Nat.beq_eq] at e1
  obtain ⟨e1, e3, e4⟩ := e1
  have hak := YfF hk' hk
  subst hak
  split at e2
  ·rename_i cs hcs
   split at e2
   ·rename_i d hd
    obtain ⟨as, ha1, ha2⟩ := Yfy hcs hv
    have hcc := YcC hd ha2
    have hcell : Yx2 (knd ag) av = some as := by
     cases ag with
     | true =>
       cases v <;> simp [isAg] at e3
       cases hv
       simp only [cellsOf] at ha1
       injection ha1 with ha1; subst ha1
       rfl
     | false =>
       have hV : V.width = 0 := Nat.eq_of_beq_eq_true e4
       have hlen : as.length = 1 := by rw [hcc.1, Ybl]; simp [Cs.width, hV]
       match as, hlen with
       | [x], _ =>
         have hna : ∀ ds, av ≠ .agg ds := by
          intro ds e
          subst e
          cases hv with
          | l c w _ hco => rcases YaP hco with ⟨h, _⟩ | ⟨_, h, _⟩ <;> cases h
          | u => simp [YwO] at hcs
          | refD a' => rename_i hq _; simp [YwO, hq] at hcs
          | preD a' m => rename_i hq _; simp [YwO, hq] at hcs
          | subD => simp [YwO] at hcs
          | ptrD a' i j => rename_i hq _; simp [YwO, hq] at hcs
          | ptiD => simp [YwO] at hcs
          | npD a' => rename_i hq _; simp [YwO, hq] at hcs
          | ag => simp [isAg] at e3
         exact Yrh hna ha1
    have hyf : hf H y = some (some ⟨tags.length + 2, [.v (.int .i64 n) :: R :: at']⟩) := hy
    have hb : (Nat.beq (tags.length + 2) (knd ag + 2) && keyK (kstr o) (keyV o k')) = true := by rw [e1, Nat.beq_refl, YdF]; rfl
    have hlen : (.i .i64 n :: .l (mapC o t V) l :: tags : List TV).length = tags.length + 2 := by simp
    rcases YyS k' el l 0 hrow with ⟨g1, g2, g3, _⟩ | ⟨p, rr, v0, g1, g2, g3, g4, _⟩
    ·refine ⟨.u, _, by simp only [xF, hyf, hmo, hb, cond_true, hcell, g2]; rfl, hK _ _ _ _ e2 ?_⟩
     have := YdI (ds := .i .i64 (mck (keq o) n k' l) :: .l (mapC o t V) (mpt (keq o) n k' d l) :: tags) (e' := .v (.int .i64 (n + 1)) :: .rd (mapC o t V).width (el ++ [.v (.int .i64 n) :: .v (keyV o k') :: as]) :: at') hr ho hp (by rw [hlen]; exact hy) (by simp) (by simp)
      (by
       simp only [mck, g1]
       refine CT.cons (.i _ _) (CT.cons (YbI ?_) htag)
       rw [g3]
       exact YbG hrow (Rows.cons (YkR n k' hcc) (Rows.none _)))
     rw [hlen] at this
     exact this
    ·refine ⟨.u, _, by simp only [xF, hyf, hmo, hb, cond_true, hcell, g2]; rfl, hK _ _ _ _ e2 ?_⟩
     have := YdI (ds := .i .i64 (mck (keq o) n k' l) :: .l (mapC o t V) (mpt (keq o) n k' d l) :: tags) (e' := .v (.int .i64 n) :: .rd (mapC o t V).width (el.modify (0 + p) (putE (.v (keyV o k')) as)) :: at') hr ho hp (by rw [hlen]; exact hy) (by simp) (by simp)
      (by
       simp only [mck, g1]
       refine CT.cons (.i _ _) (CT.cons (YbI ?_) htag)
       rw [Nat.zero_add]
       exact g4 n d as hcc)
     rw [hlen] at this
     exact this
   ·cases e2
  ·cases e2
 ·cases h
theorem Yrj {o : Option IntKind} {t : Ty} {V : Cs} {m k : TV} {am ak : AV} {K : TV -> YwG -> Option β} (h : Yzh o t V m k X K = some r) (hm : TR X pl m am) (hk : TR X pl k ak) (hr : HRel Fr H0 X pl H)
  {KA : AV -> List Upd -> Prop} (hK : ∀ v X' va us, K v X' = some r -> Nxt Fr H0 X pl H v X' va us -> KA va us) :
  ∃ w us, xF (.mdel (kstr o) (mapC o t V).width) [am, ak] (hf H) H.length = some (w, us) /\ KA w us := by
 unfold Yzh at h
 split at h
 ·rename_i a n l tags k' hvm hk'
  obtain ⟨y, el, at', R, rfl, rfl, hp, ho, hl, hy, hmo, hrow, htag⟩ := YdH hvm hm hr
  have hak := YfF hk' hk
  subst hak
  have hyf : hf H y = some (some ⟨tags.length + 2, [.v (.int .i64 n) :: R :: at']⟩) := hy
  have hlen : (.i .i64 n :: .l (mapC o t V) l :: tags : List TV).length = tags.length + 2 := by simp
  rcases YyS k' el l 0 hrow with ⟨g1, g2, _, g3⟩ | ⟨p, rr, v0, g1, g2, g3, _, g4⟩
  ·refine ⟨.u, _, by simp only [xF, hyf, hmo, YdF, cond_true, g2]; rfl, hK _ _ _ _ h ?_⟩
   have := YdI (ds := .i .i64 n :: .l (mapC o t V) (mdl (keq o) k' l) :: tags) (e' := .v (.int .i64 n) :: .rd (mapC o t V).width el :: at') hr ho hp (by rw [hlen]; exact hy) (by simp) (by simp)
    (by rw [g3]; exact CT.cons (.i _ _) (CT.cons (YbI hrow) htag))
   rw [hlen] at this
   exact this
  ·refine ⟨.u, _, by simp only [xF, hyf, hmo, YdF, cond_true, g2]; rfl, hK _ _ _ _ h ?_⟩
   have := YdI (ds := .i .i64 n :: .l (mapC o t V) (mdl (keq o) k' l) :: tags) (e' := .v (.int .i64 n) :: .rd (mapC o t V).width (el.eraseIdx (0 + p)) :: at') hr ho hp (by rw [hlen]; exact hy) (by simp) (by simp)
    (by rw [Nat.zero_add]; exact CT.cons (.i _ _) (CT.cons (YbI g4) htag))
   rw [hlen] at this
   exact this
 ·cases h
theorem Yrk (o : Option IntKind) (t : Ty) (V : Cs) (ag : Bool) (hr : HRel Fr H0 X pl H) :
  Nxt Fr H0 X pl H (.np X.length) (X ++ [some (.st (.i .i64 0 :: .l (mapC o t V) [] :: List.replicate (knd ag) (.b false)))]) (.np H.length) [.push (some ⟨knd ag + 2, [.v (.int .i64 0) :: .rd (mapC o t V).width [] :: List.replicate (knd ag) (.v (.bool false))]⟩)] := by
 obtain ⟨k1, k2⟩ := Yat hr (.st (.i .i64 0 :: .l (mapC o t V) [] :: List.replicate (knd ag) (.b false))) ⟨knd ag + 2, [.v (.int .i64 0) :: .rd (mapC o t V).width [] :: List.replicate (knd ag) (.v (.bool false))]⟩
  (fun _ => ⟨H.length, .v (.int .i64 0) :: .rd (mapC o t V).width [] :: List.replicate (knd ag) (.v (.bool false)), by unfold plS; rw [if_pos rfl], by simp, by simp, CT.cons (.i _ _) (CT.cons (YbI (Rows.none _)) ⟨by simp, fun j c a h1 h2 => by
   rw [YAl] at h1 h2
   split at h1
   ·rename_i hj
    rw [if_pos hj] at h2
    injection h1 with h1; injection h2 with h2; subst h1; subst h2; exact .b _
   ·cases h1⟩)⟩)
 exact ⟨_, .np X.length H.length _ (Yap X _) (by unfold plS; rw [if_pos rfl]), ⟨k1, k2⟩, .inr ⟨by simp, by unfold plS; rw [if_pos rfl]⟩⟩
theorem Yrl {a y : Nat} {n : Int} {c : Cs} {l : List c.den} {tags : List TV} (hr : HRel Fr H0 X pl H) (ho : vget X a = some (.st (.i .i64 n :: .l c l :: tags))) (hp : pl (.m a) = some y) (hl : tags.length = 1 \/ tags.length = 2) :
  ∃ va us, xF .mrng [.np y] (hf H) H.length = some (va, us) /\ Nxt Fr H0 X pl H (.np X.length) (X ++ [some (.st [.np a, .i .i64 n, .i .i64 n, .l I64 [], .b false])]) va us := by
 obtain ⟨el, at', R, hy, hmo, hrow, htag⟩ := YdG hr ho hp hl
 have hyf : hf H y = some (some ⟨tags.length + 2, [.v (.int .i64 n) :: R :: at']⟩) := hy
 refine ⟨.np H.length, _, by simp only [xF, hyf, hmo]; rfl, ?_⟩
 obtain ⟨k1, k2⟩ := Yat hr (.st [.np a, .i .i64 n, .i .i64 n, .l I64 [], .b false]) ⟨5, [[.np y, .v (.int .i64 n), .v (.int .i64 n), .rd 1 [], .v (.bool false)]]⟩
  (fun hx => ⟨H.length, [.np y, .v (.int .i64 n), .v (.int .i64 n), .rd 1 [], .v (.bool false)], by unfold plS; rw [if_pos rfl], by simp, by simp, CT.cons ((TR.np a y _ ho hp).ext hx) (CT.cons (.i _ _) (CT.cons (.i _ _) (CT.cons (show TR _ _ (.l I64 []) (.rd 1 []) from YbI (c := I64) (Rows.none _)) (CT.cons (.b _) CT.nil))))⟩)
 exact ⟨_, .np X.length H.length _ (Yap X _) (by unfold plS; rw [if_pos rfl]), ⟨k1, k2⟩, .inr ⟨by simp, by unfold plS; rw [if_pos rfl]⟩⟩
theorem Yrm {o : Option IntKind} {t : Ty} {V : Cs} {ag : Bool} {it : TV} {ai : AV} {K : TV -> YwG -> Option β} (h : Yzi o t V ag it X K = some r) (hi : TR X pl it ai) (hr : HRel Fr H0 X pl H)
  {KA : AV -> List Upd -> Prop} (hK : ∀ v va, K v X = some r -> TR X pl v va -> KA va []) :
  ∃ w us, xF .ment [ai] (hf H) H.length = some (w, us) /\ KA w us := by
 unfold Yzi at h
 split at h
 ·rename_i i
  split at h
  ·rename_i a s tm c seen tg hoi
   split at h
   ·rename_i a' n l tags seen' hvm hs
    obtain ⟨ec, es⟩ := YaQ hs
    subst ec; subst es
    obtain ⟨e1, e2⟩ := Yaa h
    simp only [Bool.and_eq_true, Nat.beq_eq] at e1
    obtain ⟨e1, e3⟩ := e1
    obtain ⟨rfl, e4⟩ := Yaj e2
    obtain ⟨yi, rfl, hpi⟩ := YaS hoi hi
    obtain ⟨e, h1, _, h3⟩ := YfG hr hoi hpi
    obtain ⟨a0, r1, rfl, q0, h3⟩ := h3.inv
    obtain ⟨a1, r2, rfl, q1, h3⟩ := h3.inv
    obtain ⟨a2, r3, rfl, q2, h3⟩ := h3.inv
    obtain ⟨a3, r4, rfl, q3, h3⟩ := h3.inv
    obtain ⟨a4, r5, rfl, q4, h3⟩ := h3.inv
    have : r5 = [] := YzY.1 h3.1.symm
    subst this
    obtain ⟨y, el, at', R, e5, rfl, hp, ho, hl, hy, hmo, hrow, htag⟩ := YdH hvm q0 hr
    cases q1; cases q2
    obtain ⟨bl, g1, g2⟩ := YfH q3
    split at e4
    ·rename_i b hb
     split at e4
     ·rename_i en hen
      obtain ⟨bb, rr, f1, f2⟩ := Yy6 b el l hrow en hen
      obtain ⟨yv, f3, f4⟩ := YfI (X := X) (pl := pl) e3 f2
      have hif : hf H yi = some (some ⟨5, [[.np y, .v (.int .i64 s), .v (.int .i64 tm), a3, a4]]⟩) := h1
      have hyf : hf H y = some (some ⟨tags.length + 2, [.v (.int .i64 tm) :: R :: at']⟩) := hy
      have hio : YxV ⟨5, [[.np y, .v (.int .i64 s), .v (.int .i64 tm), a3, a4]]⟩ = some (y, s, tm, bl) := by
       unfold YxV; simp only [g1]; rfl
      have hlast : bl.getLast? = some [.v (.int .i64 b)] := by
       rw [List.getLast?_eq_getElem?] at hb ⊢
       have hlen : bl.length = seen.length := g2.1
       rw [hlen]
       obtain ⟨e', he'⟩ := Yab (l := bl) (l' := seen) hlen hb
       rw [he']
       have hcc := g2.2 _ e' b he' hb
       have hl1 := hcc.1
       match e', hl1 with
       | [z], _ =>
         have := hcc.2 0 z _ rfl rfl
         rw [show z = .v (.int .i64 b) from YaN this]
      refine ⟨_, [], by simp only [xF, hif, hio, hyf, hlast, hmo, decide_true, cond_true, f1, show tags.length + 2 - 2 = knd ag by omega, f3]; rfl, hK _ _ e4 ?_⟩
      refine .tp _ _ rfl (fun j c a h1 h2 => ?_)
      match j, h1, h2 with
      | 0, h1, h2 =>
        simp at h1 h2; subst h1; subst h2
        cases o with
        | none => exact .s _
        | some q => exact .i _ _
      | 1, h1, h2 => simp at h1 h2; subst h1; subst h2; exact f4
      | j + 2, h1, h2 => simp at h1
     ·cases e4
    ·cases e4
   ·cases h
  ·cases h
 ·cases h
theorem Yrn {a : Nat} {c c' : Cs} {l : List c'.den} {m0 : List c.den} {m : List c'.den} {x : TV} {ad ax : AV} (hr : HRel Fr H0 X pl H) (ho : vget X a = some (.sq c' l)) (hd : TR X pl (.ref a) ad) (hs : srcV c x = some m0) (hx : TR X pl x ax) (hm : asL c c' m0 = some m) (h0 : 0 < c.width) :
  ∃ va us, xF (.cpy c.width) [ad, ax] (hf H) H.length = some (va, us) /\ Nxt Fr H0 X pl H (.i .i64 ((min m.length l.length : Nat) : Int)) (vset X a (some (.sq c' (m.take (min m.length l.length) ++ l.drop (min m.length l.length))))) va us := by
 obtain ⟨ec, em⟩ := YaQ hm
 subst ec; subst em
 obtain ⟨y, n, rfl, hp, hn⟩ := Yaq ho hd
 simp only [lenO] at hn; injection hn with hn; subst hn
 obtain ⟨y', el, h1, h2, h3, h4⟩ := hr.obj a _ ho
 rw [hp] at h1; injection h1 with h1; subst h1
 obtain ⟨sl, g1, g2, g3⟩ := YcH hs hx
 have hyf : hf H y = some (some ⟨c.width, el⟩) := h2
 have hb : ((Yxw c.width ax && (Nat.beq 0 0 && Nat.beq l.length el.length)) && (Nat.beq c.width c.width && ((sl.all fun e => Nat.beq e.length c.width) && Nat.blt 0 c.width))) = true := by
  rw [g2, h4.1, Nat.beq_refl, Nat.beq_refl, YcG (YbH g3)]
  have : Nat.blt 0 c.width = true := by simpa [Nat.blt] using (show 1 <= c.width from h0)
  rw [this, Nat.beq_refl]; rfl
 refine ⟨.v (.int .i64 ((min sl.length l.length : Nat) : Int)), [.set y (some ⟨c.width, sl.take (min sl.length l.length) ++ el.drop (min sl.length l.length)⟩)], by simp only [xF, hyf, g1, hb, cond_true], ?_⟩
 have hlen : sl.length = m0.length := g3.1
 refine ⟨pl, by rw [hlen]; exact .i _ _, ?_, .inl (Yae _ _ _)⟩
 have hle : min m0.length l.length <= l.length := Nat.min_le_right _ _
 have hle2 : min m0.length l.length <= m0.length := Nat.min_le_left _ _
 refine YbE hr ho hp _ (by simp [elN]; omega) (by simp [lenO]; omega) (fun _ _ _ _ e => by cases e) (fun _ _ _ _ e => by cases e) (fun hx => ⟨y, _, hp, YzZ (YzN.1 h2).1, h3, ?_⟩)
 rw [hlen]
 refine YbG ⟨by simp [hlen], fun i e v k1 k2 => ?_⟩ ⟨by simp [h4.1], fun i e v k1 k2 => ?_⟩
 ·rw [Yz3] at k1 k2
  split at k1
  ·rename_i hi
   rw [if_pos hi] at k2
   exact g3.2 i e v k1 k2
  ·cases k1
 ·rw [Yz8] at k1 k2
  exact h4.2 _ e v k1 k2
end
end Go.Abs
namespace Go.Abs
open Go Go.RowKit
section
variable {Fr : Nat -> Prop} {H0 : Heap} {X : YwG} {pl : Pl} {H : Heap} {β : Type} {r : β} {env : VEnv} {ae : Env}
theorem YkS (he : ERel X pl env ae) {K : List AV -> Prop} : ∀ {ps : List (Nat × Nat × VOpd)} {l l' : List TV} {as : List AV}, Yyz X l env ps = some l' -> CT X pl l as -> (∀ as', CT X pl l' as' -> K as') -> YxL as ae (er3 ps) K
 | [], l, l', as, h, hc, hk => by simp only [Yyz] at h; injection h with h; subst h; exact hk _ hc
 | (off, n, x) :: ps, l, l', as, h, hc, hk => by
   simp only [Yyz] at h
   split at h
   ·rename_i cs hcs
    obtain ⟨e1, e2⟩ := Yaa h
    simp only [Bool.and_eq_true] at e1
    simp only [er3, YzR, YxL, opK]
    refine Yb1 hcs (Yas he x) (fun bs hbs => ⟨by rw [<- hbs.1]; exact Nat.eq_of_beq_eq_true e1.1, by rw [<- hc.1]; simpa using e1.2, ?_⟩)
    exact YkS he e2 (hc.spl hbs off) hk
   ·cases h
theorem YfJ (he : ERel X pl env ae) {es : Nat} {K : List (List AV) -> Prop} : ∀ {ps : List (Nat × VOpd)} {l l' : List (List TV)} {as : List (List AV)}, Yx5 X es l env ps = some l' -> CE X pl l as -> (∀ e ∈ l, e.length = es) ->
  (∀ as', CE X pl l' as' -> (∀ e ∈ l', e.length = es) -> K as') -> Yxk es as ae (er2 ps) K
 | [], l, l', as, h, hc, hz, hk => by simp only [Yx5] at h; injection h with h; subst h; exact hk _ hc hz
 | (i, x) :: ps, l, l', as, h, hc, hz, hk => by
   simp only [Yx5] at h
   split at h
   ·rename_i cs hcs
    obtain ⟨e1, e2⟩ := Yaa h
    simp only [Bool.and_eq_true] at e1
    simp only [er2, YzR, Yxk, opK]
    have hcl := Nat.eq_of_beq_eq_true e1.1
    have hi : i < l.length := by simpa using e1.2
    refine Yb1 hcs (Yas he x) (fun bs hbs => ⟨by rw [<- hbs.1]; exact hcl, by rw [<- hc.1]; exact hi, ?_⟩)
    refine YfJ he e2 ⟨by simp [hc.1], fun k e f h1 h2 => ?_⟩ (fun e he' => ?_) hk
    ·by_cases hk : k = i
     ·subst hk
      rw [YzZ hi] at h1
      rw [YzZ (by rw [<- hc.1]; exact hi)] at h2
      injection h1 with h1; injection h2 with h2; subst h1; subst h2; exact hbs
     ·rw [YzV (Ne.symm hk)] at h1 h2
      exact hc.2 k e f h1 h2
    ·rcases List.mem_or_eq_of_mem_set he' with h | h
     ·exact hz e h
     ·rw [h]; exact hcl
   ·cases h
theorem YdJ : ∀ (c : Cs), CT X pl c.zcells (c.zeros.map zc) /\ c.zcells.length = c.width /\ CC (c.zeros.map zc) (c.enc c.dft)
 | .nil => ⟨.nil, rfl, rfl, fun j x x' h => by simp [Cs.zeros] at h⟩
 | .cons t r => by
   obtain ⟨h1, h2, h3⟩ := YdJ r
   have key : ∀ {t : Ty} {z : TV}, TR X pl z (zc t.zero) -> Coe (zc t.zero) (t.enc t.dft) -> (Cs.zcells (.cons t r) = z :: r.zcells) -> CT X pl (Cs.zcells (.cons t r)) ((Cs.zeros (.cons t r)).map zc) /\ (Cs.zcells (.cons t r)).length = (Cs.cons t r).width /\ CC ((Cs.zeros (.cons t r)).map zc) ((Cs.cons t r).enc (Cs.cons t r).dft) := by
    intro t z g1 g2 g3
    rw [g3]
    refine ⟨.cons g1 h1, by simp [Cs.width, h2], ?_⟩
    simp only [Cs.zeros, YzR, Cs.enc, Cs.dft, YbB, YbC]
    refine ⟨by simp [h3.1], fun j x x' k1 k2 => ?_⟩
    cases j with
    | zero => simp at k1 k2; subst k1; subst k2; exact g2
    | succ j => simp at k1 k2; exact h3.2 j x x' (by simpa using k1) k2
   cases t with
   | i k => exact key (.i _ _) (.refl _) rfl
   | b => exact key (.b _) (.refl _) rfl
   | s => exact key (.s _) (.refl _) rfl
   | l c => exact key (.e _) (.empRd _) rfl
theorem YdK {es : Nat} {L : List (List AV)} {c : Cs} {l : List c.den} (h : Rows L c l) : Coe (.rd es L) (.rd es (l.map c.enc)) := by
 refine .rd es _ _ (by simp [h.1]) (fun i e e' h1 h2 => ?_) (fun i e e' j x x' h1 h2 h3 h4 => ?_)
 all_goals
  rw [YzP, Option.map_eq_some_iff] at h2
  obtain ⟨v, h2, rfl⟩ := h2
 ·exact (h.2 i e v h1 h2).1
 ·exact (h.2 i e v h1 h2).2 j x x' h3 h4
theorem YaO (he : ERel X pl env ae) {o : Option VOpd} {d : Int} {dA : Nat} (hd : d = (dA : Nat)) {n : Int} (h : vsb env o d = some n) (h0 : 0 <= n) {K : Nat -> Prop} (hk : K n.toNat) : slB ae (o.map VOpd.er) dA K := by
 cases o with
 | none =>
   simp only [vsb] at h; injection h with h; subst h; subst hd
   simpa [slB] using hk
 | some x =>
   simp only [vsb] at h
   split at h
   ·rename_i k m hx
    injection h with h; subst h
    have := Yas he x
    rw [hx] at this
    simp only [Option.map_some, slB, opK]
    generalize opd ae x.er = av at this ⊢
    cases this
    exact ⟨_, _, rfl, h0, hk⟩
   ·cases h
theorem YaT (he : ERel X pl env ae) (xs : List VOpd) : CT X pl (xs.map (vo env)) ((xs.map VOpd.er).map (opd ae)) := by
 induction xs with
 | nil => exact .nil
 | cons x xs ih => exact .cons (Yas he x) ih
theorem YkT {g : Bool} {n : Nat} {cs : List TV} {as : List AV} {K : TV -> YwG -> Option β} (h : (match YxQ g n cs with | some a => K a X | none => none) = some r) (hc : CT X pl cs as) {KA : AV -> Prop} (hk : ∀ v va, K v X = some r -> TR X pl v va -> KA va) : Yxj g n as KA := by
 split at h
 ·rename_i v hv; exact YkA hv hc (fun a ha => hk v a h ha)
 ·cases h
theorem Yro {op : VOp} {K : TV -> YwG -> Option β} (h : vG op env X K = some r) (he : ERel X pl env ae) (hr : HRel Fr H0 X pl H) {KA : AV -> List Upd -> Prop}
  (hk : ∀ v X' va us, K v X' = some r -> Nxt Fr H0 X pl H v X' va us -> KA va us) : evG op.aop ae (hf H) H.length KA := by
 have same : ∀ v va, K v X = some r -> TR X pl v va -> KA va [] := fun v va h1 h2 => hk _ _ _ _ h1 (.same hr h2)
 have vok := fun x => Yas he x
 have hn := fun o => Yap X o
 cases op <;> simp only [vG] at h <;> simp only [VOp.aop, evG, opK]
 case mm mx xs =>
  have hm := YaT he xs
  generalize hxs : xs.map (vo env) = l at h hm
  generalize (xs.map VOpd.er).map (opd ae) = as at hm
  split at h
  ·rename_i k m l'
   obtain ⟨a, as', rfl, h1, h2⟩ := hm.inv
   cases h1
   split at h
   ·rename_i v hv
    obtain ⟨a, h3, h4⟩ := YkE hv h2
    exact ⟨a, by simp only [pvF]; exact h3, same _ _ h h4⟩
   ·cases h
  ·cases h
 case emz x lo hi mx =>
  have h1 := vok x; have h2 := vok lo; have h3 := vok hi; have h4 := vok mx
  simp only [YzR, YzT]
  generalize opd ae x.er = ax at h1 ⊢
  generalize opd ae lo.er = al at h2 ⊢
  generalize opd ae hi.er = ah at h3 ⊢
  generalize opd ae mx.er = am at h4 ⊢
  split at h
  ·rename_i e2 e3 e4
   rw [e2] at h2; rw [e3] at h3; rw [e4] at h4
   cases h2; cases h3; cases h4
   obtain ⟨⟨rfl, rfl, rfl⟩, g2⟩ := Yaj h
   have hz : YxY (.v (.int ‹_› 0)) = true := rfl
   refine ⟨.emp, ?_, ?_⟩
   ·simp only [pvF, YxY, decide_true, and_self, if_true]
    split at g2
    ·rename_i e1; rw [e1] at h1
     cases h1 with
     | l _ _ _ hc => rcases YaP hc with ⟨rfl, _⟩ | ⟨l0, rfl, _⟩ <;> rfl
    ·rename_i e1; rw [e1] at h1; cases h1; rfl
    ·cases g2
   ·split at g2
    ·exact same _ _ g2 (.e _)
    ·exact same _ _ g2 (.e _)
    ·cases g2
  ·cases h
 case mv x => exact same _ _ h (vok x)
 case pick c a b =>
  have h1 := vok c
  generalize opd ae c.er = ac at h1 ⊢
  split at h
  ·rename_i t e1
   rw [e1] at h1; cases h1
   refine ⟨t, rfl, fun ht => ?_, fun ht => ?_⟩
   ·subst ht; exact same _ _ h (vok a)
   ·subst ht; exact same _ _ h (vok b)
  ·cases h
 case box x =>
  split at h
  ·rename_i c cs hcs
   obtain ⟨e1, e2⟩ := Yaa h
   have hl : cs.length + 1 <= 1000 := by simpa using e1
   refine Yb1 hcs (vok x) (fun as has => ⟨by rw [<- has.1]; simp, by rw [<- has.1]; simp [maxEl]; omega, ?_⟩)
   obtain ⟨k1, k2⟩ := Yat hr (.st (c :: cs)) ⟨as.length, [as]⟩ (fun hx => ⟨H.length, as, by unfold plS; rw [if_pos rfl], by rw [has.1]; simp, by simp, has.ext hx⟩)
   exact hk _ _ _ _ e2 ⟨_, .ptr X.length 0 0 H.length _ (hn _) (by simp [elN]) (by unfold plS; rw [if_pos rfl]), ⟨k1, k2⟩, .inr ⟨by simp [Yae], by unfold plS; rw [if_pos rfl]⟩⟩
  ·cases h
 case alloc z =>
  obtain ⟨e1, e2⟩ := Yaa h
  simp only [Bool.and_eq_true, Yz9] at e1
  have hz : (z.map K1.val).map zc = z.map K1.av := by
   rw [YAc]; exact List.map_congr_left (fun k hk => Ykx (e1.1 k hk))
  have hm := CT.map1 (X := X) (pl := pl) z
  obtain ⟨k1, k2⟩ := Yat hr (.st (z.map K1.tv)) ⟨(z.map K1.val).length, [(z.map K1.val).map zc]⟩ (fun hx => ⟨H.length, z.map K1.av, by unfold plS; rw [if_pos rfl], by rw [hz]; simp, by simpa using e1.2, hm.ext hx⟩)
  exact hk _ _ _ _ e2 ⟨_, .ptr X.length 0 0 H.length _ (hn _) (by simp [elN]) (by unfold plS; rw [if_pos rfl]), ⟨k1, k2⟩, .inr ⟨by simp [Yae], by unfold plS; rw [if_pos rfl]⟩⟩
 case build z ps =>
  obtain ⟨e1, e2⟩ := Yaa h
  simp only [Yz9] at e1
  have hz : (z.map K1.val).map zc = z.map K1.av := by
   rw [YAc]; exact List.map_congr_left (fun k hk => Ykx (e1 k hk))
  split at e2
  ·rename_i cs hcs
   rw [hz]
   exact YkS he hcs (CT.map1 z) (fun as has => same _ _ e2 (.ag _ _ has.1 has.2))
  ·cases e2
 case bsl c n ps =>
  obtain ⟨e1, e2⟩ := Yaa h
  obtain ⟨z1, z2, z3⟩ := YdJ (X := X) (pl := pl) c
  have hce : CE X pl (List.replicate n c.zcells) (List.replicate n (c.zeros.map zc)) := ⟨by simp, fun i e f h1 h2 => by
   rw [YAl] at h1 h2
   split at h1
   ·rename_i hi; rw [if_pos hi] at h2; injection h1 with h1; injection h2 with h2; subst h1; subst h2; exact z1
   ·cases h1⟩
  have hzl : ∀ e ∈ List.replicate n c.zcells, e.length = c.width := fun e he => by rw [(List.mem_replicate.1 he).2]; exact z2
  split at e2
  ·rename_i hf
   refine YfJ he hf hce hzl (fun as has _ => ?_)
   have hl := has.1
   cases as with
   | nil => exact same _ _ e2 (.e _)
   | cons _ _ => simp at hl
  ·rename_i e els hf
   refine YfJ he hf hce hzl (fun as has hz => ?_)
   have hl := has.1
   cases as with
   | nil => simp at hl
   | cons f fs =>
     split at e2
     ·rename_i l hp
      exact same _ _ e2 (.l c l _ (YdK (YcD hp has)))
     ·refine same _ _ e2 (.lt c.width _ _ hl (by simp) hz (fun f' hf' => ?_) (fun i j e f c a h1 h2 h3 h4 => (has.2 i e f h1 h2).2 j c a h3 h4))
      obtain ⟨i, hi⟩ := Yz1.1 hf'
      have hil := (YzN.1 hi).1
      have hil' : i < (e :: els).length := by rw [hl]; exact hil
      have := has.2 i _ _ (YzO hil') hi
      rw [<- this.1]; exact hz _ (YAu hil')
  ·cases e2
 case load g n x => exact YkG h (vok x) hr (fun v va h1 h2 => same v va h1 h2)
 case loadR g n x =>
  have h1 := vok x
  generalize opd ae x.er = ax at h1 ⊢
  split at h
  ·rename_i cs e1
   rw [e1] at h1
   cases h1 with
   | rp _ as hl hc => exact YkT h ⟨hl, hc⟩ (fun v va h1 h2 => same v va h1 h2)
  ·cases h
 case store n x y => exact YqW h (vok x) (vok y) hr hk
 case nilc x =>
  have h1 := vok x
  generalize opd ae x.er = ax at h1 ⊢
  split at h
  ·rename_i e1; rw [e1] at h1; have h2 := h1; cases h2; exact same _ _ h h1
  ·rename_i a i j e1; rw [e1] at h1
   obtain ⟨g1, g2⟩ := Yaa h
   obtain ⟨o, ho⟩ := Option.isSome_iff_exists.1 g1
   obtain ⟨x', rfl, hp, hi⟩ := Ybm ho h1
   exact same _ _ g2 h1
  ·rename_i a ver i k j e1; rw [e1] at h1
   split at h
   ·rename_i c ver' l ho
    obtain ⟨g1, g2⟩ := Yaa h
    have := Nat.eq_of_beq_eq_true g1; subst this
    obtain ⟨y, rfl, _⟩ := YfA ho h1
    exact same _ _ g2 h1
   ·cases h
  ·rename_i e1; rw [e1] at h1; have h2 := h1; cases h2; exact same _ _ h h1
  ·cases h
 case bin op x y => exact YqR h (vok x) (vok y) (fun w z h1 h2 => same _ _ h1 h2)
 case beq ng x y =>
  have h1 := vok x; have h2 := vok y
  generalize opd ae x.er = ax at h1 ⊢
  generalize opd ae y.er = ay at h2 ⊢
  split at h
  ·rename_i e1 e2
   rw [e1] at h1; rw [e2] at h2; cases h1; cases h2
   refine ⟨_, rfl, _, rfl, ?_⟩
   cases ng <;> exact same _ _ h (.b _)
  ·cases h
 case eqa ng ks x y =>
  have h1 := vok x; have h2 := vok y
  generalize opd ae x.er = ax at h1 ⊢
  generalize opd ae y.er = ay at h2 ⊢
  split at h
  ·rename_i cs ds e1 e2
   rw [e1] at h1; rw [e2] at h2
   cases h1 with
   | ag _ as hl hc =>
     cases h2 with
     | ag _ bs hl' hc' =>
       split at h
       ·rename_i b hb
        refine ⟨as, bs, b, rfl, rfl, YkD hb ⟨hl, hc⟩ ⟨hl', hc'⟩, ?_⟩
        cases ng <;> exact same _ _ h (.b _)
       ·cases h
  ·cases h
 case not x =>
  have h1 := vok x
  generalize opd ae x.er = ax at h1 ⊢
  split at h
  ·rename_i e1; rw [e1] at h1; cases h1; exact ⟨_, rfl, same _ _ h (.b _)⟩
  ·cases h
 case neg x =>
  have h1 := vok x
  generalize opd ae x.er = ax at h1 ⊢
  split at h
  ·rename_i e1; rw [e1] at h1; cases h1; exact ⟨_, _, rfl, same _ _ h (.i _ _)⟩
  ·cases h
 case conv k x =>
  have h1 := vok x
  generalize opd ae x.er = ax at h1 ⊢
  split at h
  ·rename_i e1; rw [e1] at h1; cases h1; exact ⟨_, _, rfl, same _ _ h (.i _ _)⟩
  ·cases h
 case cvs x =>
  have h1 := vok x
  generalize opd ae x.er = ax at h1 ⊢
  split at h
  ·rename_i e1; rw [e1] at h1; cases h1; exact ⟨_, rfl, same _ _ h (.s _)⟩
  ·cases h
 case fad off x =>
  have h1 := vok x
  generalize opd ae x.er = ax at h1 ⊢
  split at h
  ·rename_i e1; rw [e1] at h1
   cases h1 with
   | rp cs as hl hc => exact same _ _ h (.rp _ _ (CT.drop ⟨hl, hc⟩ off).1 (CT.drop ⟨hl, hc⟩ off).2)
  ·rename_i a i j e1; rw [e1] at h1
   obtain ⟨g1, g2⟩ := Yaa h
   obtain ⟨o, ho⟩ := Option.isSome_iff_exists.1 g1
   obtain ⟨x', rfl, hp, hi⟩ := Ybm ho h1
   exact same _ _ g2 (.ptr a i _ x' o ho hi hp)
  ·rename_i a ver i k j e1; rw [e1] at h1
   split at h
   ·rename_i c ver' l ho
    obtain ⟨g1, g2⟩ := Yaa h
    have := Nat.eq_of_beq_eq_true g1; subst this
    obtain ⟨y, rfl, hi, hkk, hp⟩ := YfA ho h1
    exact same _ _ g2 (.pti a ver i k _ y c l ho hi hkk hp)
   ·cases h
  ·cases h
 case fld g off n x =>
  have h1 := vok x
  generalize opd ae x.er = ax at h1 ⊢
  split at h
  ·rename_i e1; rw [e1] at h1
   cases h1 with
   | ag cs as hl hc =>
     obtain ⟨g1, g2⟩ := Yaa h
     exact ⟨as, rfl, by rw [<- hl]; simpa using g1, YkT g2 (CT.drop ⟨hl, hc⟩ off) (fun v va h1 h2 => same v va h1 h2)⟩
  ·cases h
 case iad es x i => exact YqX h (vok x) (vok i) hr (fun v va h1 h2 => same v va h1 h2)
 case iada => cases h
 case idx x i =>
  have h1 := vok x; have h2 := vok i
  generalize opd ae x.er = ax at h1 ⊢
  generalize opd ae i.er = ai at h2 ⊢
  split at h
  ·rename_i s k n e1 e2
   rw [e1] at h1; rw [e2] at h2; cases h1; cases h2
   obtain ⟨g1, g2⟩ := Yaj h
   have hlt : n.toNat < s.size := by omega
   refine ⟨s, rfl, k, n, rfl, g1.1, s[n.toNat], getElem?_pos s n.toNat hlt, ?_⟩
   have hb : YwK s n = ((s[n.toNat]).toNat : Int) := by
    have hlt2 : n.toNat < s.data.size := hlt
    simp only [YwK, Array.getD_eq_getD_getElem?, Array.getElem?_eq_getElem hlt2, Option.getD_some]; rfl
   rw [hb] at g2
   exact same _ _ g2 (.i _ _)
  ·cases h
 case slcS x lo hi =>
  have h1 := vok x
  generalize opd ae x.er = ax at h1 ⊢
  split at h
  ·rename_i s e1; rw [e1] at h1; cases h1
   split at h
   ·rename_i l u hl hu
    obtain ⟨⟨g1, g2, g3⟩, g4⟩ := Yaj h
    exact ⟨s, rfl, YaO he rfl hl g1 (YaO he rfl hu (by omega) ⟨by omega, by omega, same _ _ g4 (.s _)⟩)⟩
   ·cases h
  ·cases h
 case slcR es x lo hi =>
  have h1 := vok x
  generalize opd ae x.er = ax at h1 ⊢
  split at h
  ·rename_i c v e1; rw [e1] at h1
   obtain ⟨g1, g2⟩ := Yaa h
   split at g2
   ·rename_i l u hl hu
    obtain ⟨⟨q1, q2, q3⟩, q4⟩ := Yaj g2
    cases h1 with
    | l _ _ _ hc =>
      rcases YaP hc with ⟨rfl, hb⟩ | ⟨l0, rfl, hl0, hcc⟩
      ·have hv : v = [] := by simpa using hb
       subst hv
       simp only [List.length_nil] at q3 hu
       refine YaO he rfl hl q1 (YaO he rfl hu (by omega) ⟨by omega, by omega, same _ _ q4 ?_⟩)
       refine .l c _ _ ?_
       simp only [List.take_nil, List.drop_nil, YzT]; exact .empRd _
      ·simp only [Yz7] at hl0
       refine ⟨Nat.eq_of_beq_eq_true g1, YaO he rfl hl q1 (YaO he (dA := l0.length) (by rw [hl0]) hu (by omega) ⟨by omega, by omega, same _ _ q4 ?_⟩)⟩
       refine .l c _ _ (YdK ⟨by simp [hl0], fun i e w k1 k2 => ?_⟩)
       rw [Yz8, Yz3] at k1 k2
       split at k1
       ·rename_i hlt; rw [if_pos hlt] at k2
        exact hcc _ e _ k1 (by rw [YzP, k2]; rfl)
       ·cases k1
   ·cases g2
  ·rename_i c e1; rw [e1] at h1; cases h1
   split at h
   ·rename_i l u hl hu
    obtain ⟨⟨rfl, rfl⟩, q4⟩ := Yaj h
    exact YaO he rfl hl (by omega) (YaO he rfl hu (by omega) ⟨rfl, rfl, same _ _ q4 (.e _)⟩)
   ·cases h
  ·rename_i a e1; rw [e1] at h1
   split at h
   ·rename_i c l ho
    obtain ⟨x', n, rfl, hp, hnn⟩ := Yaq ho h1
    have hnl := hnn
    simp only [lenO] at hnl; injection hnl with hnl; subst hnl
    split at h
    ·rename_i lo' hl
     obtain ⟨rfl, q4⟩ := Yaj h
     exact YaO he rfl hl (by omega) ⟨rfl, Nat.le_refl _, same _ _ q4 (.ref a x' _ _ ho hnn hp)⟩
    ·rename_i lo' hi' hl
     split at h
     ·rename_i k u hu
      obtain ⟨⟨rfl, q2, q3⟩, q4⟩ := Yaj h
      have h2 := vok hi'
      rw [hu] at h2
      refine YaO he rfl hl (by omega) ?_
      simp only [Option.map_some, slB, opK]
      generalize opd ae hi'.er = ah at h2 ⊢
      cases h2
      exact ⟨k, u, rfl, q2, rfl, by omega, same _ _ q4 (.pre a x' u _ _ ho hnn hp q2 (by omega))⟩
     ·cases h
    ·cases h
   ·cases h
  ·rename_i a m e1; rw [e1] at h1
   split at h
   ·rename_i c l ho
    obtain ⟨x', n, rfl, hp, hnn, h0, hm⟩ := Yb0 ho h1
    split at h
    ·rename_i lo' u hl hu
     obtain ⟨⟨rfl, q2, q3⟩, q4⟩ := Yaj h
     exact YaO he rfl hl (by omega) (YaO he (dA := m.toNat) (by omega) hu q2 ⟨rfl, by omega, same _ _ q4 (.pre a x' u _ _ ho hnn hp q2 (by omega))⟩)
    ·cases h
   ·cases h
  ·cases h
 case ext x i =>
  have h1 := vok x
  generalize opd ae x.er = ax at h1 ⊢
  split at h
  ·rename_i cs e1; rw [e1] at h1
   cases h1 with
   | tp _ as hl hc =>
     split at h
     ·rename_i b hb
      obtain ⟨a, k1, k2⟩ := CT.get (X := X) (pl := pl) ⟨hl, hc⟩ hb
      exact ⟨as, rfl, a, k1, same _ _ h k2⟩
     ·cases h
  ·cases h
 case len x =>
  have h1 := vok x
  generalize opd ae x.er = ax at h1 ⊢
  unfold vlen at h
  split at h
  ·rename_i c v e1; rw [e1] at h1
   cases h1 with
   | l _ _ _ hc =>
     rcases YaP hc with ⟨rfl, hb⟩ | ⟨l0, rfl, hl0, _⟩
     ·have hv : v = [] := by simpa using hb
      subst hv; exact same _ _ h (.i _ _)
     ·simp only [Yz7] at hl0
      rw [<- hl0] at h; exact same _ _ h (.i _ _)
  ·rename_i e1; rw [e1] at h1; cases h1; exact same _ _ h (.i _ _)
  ·rename_i els e1; rw [e1] at h1
   cases h1 with
   | lt es _ as hl => rw [hl] at h; exact same _ _ h (.i _ _)
  ·rename_i a e1; rw [e1] at h1
   split at h
   ·rename_i ho
    obtain ⟨x', n, rfl, hp, hnn⟩ := Yaq ho h1
    simp only [lenO] at hnn; injection hnn with hnn; subst hnn
    exact same _ _ h (.i _ _)
   ·rename_i ho
    obtain ⟨x', n, rfl, hp, hnn⟩ := Yaq ho h1
    simp only [lenO] at hnn; injection hnn with hnn; subst hnn
    exact same _ _ h (.i _ _)
   ·rename_i ho
    obtain ⟨x', n, rfl, hp, hnn⟩ := Yaq ho h1
    simp only [lenO] at hnn; injection hnn with hnn; subst hnn
    exact same _ _ h (.i _ _)
   ·cases h
  ·rename_i a m e1; rw [e1] at h1
   split at h
   ·rename_i ho
    obtain ⟨x', n, rfl, hp, hnn, h0, hm⟩ := Yb0 ho h1
    have : m = ((m.toNat : Nat) : Int) := by omega
    rw [this] at h
    exact same _ _ h (.i _ _)
   ·cases h
  ·rename_i a ver i e1; rw [e1] at h1
   split at h
   ·rename_i c ver' l ho
    obtain ⟨g1, g2⟩ := Yaa h
    have := Nat.eq_of_beq_eq_true g1; subst this
    obtain ⟨hi, ⟨y, rfl, hp⟩ | ⟨rfl, hp, h0⟩⟩ := Yfz ho h1
    ·exact same _ _ g2 (.i _ _)
    ·rw [h0] at g2; exact same _ _ g2 (.i _ _)
   ·cases h
  ·cases h
 case lenS x =>
  have h1 := vok x
  generalize opd ae x.er = ax at h1 ⊢
  split at h
  ·rename_i e1; rw [e1] at h1; cases h1; exact ⟨_, rfl, same _ _ h (.i _ _)⟩
  ·cases h
 case app c w s x => exact Yq0 h (vok s) (vok x) hr hk
 case mksl c w n cp =>
  have h1 := vok n; have h2 := vok cp
  generalize opd ae n.er = an at h1 ⊢
  generalize opd ae cp.er = ac at h2 ⊢
  split at h
  ·rename_i k n k' m e1 e2
   rw [e1] at h1; rw [e2] at h2; cases h1; cases h2
   obtain ⟨⟨g1, g2, g3⟩, g4⟩ := Yaj h
   refine ⟨_, _, rfl, _, _, rfl, g1, g2, g3, ?_⟩
   split at g4
   ·rename_i c'
    obtain ⟨q1, q2⟩ := Yaa g4
    obtain ⟨k1, k2⟩ := Yat hr (.fm c' 0 none (List.replicate n.toNat [])) ⟨1, List.replicate n.toNat [.emp]⟩ (fun hx => ⟨H.length, List.replicate n.toNat [.emp], by unfold plS; rw [if_pos rfl], by simp, by simpa using q1, by simp, fun e he => by rw [(List.mem_replicate.1 he).2]; rfl, fun i e v a1 a2 _ => by
      rw [YAl] at a1 a2
      split at a1
      ·rename_i hi; rw [if_pos hi] at a2; injection a1 with a1; injection a2 with a2
       refine .inr ⟨?_, a2.symm, a1.symm⟩
       unfold plS; rw [if_neg (fun e => by cases e)]; exact hr.dead (YaA (Nat.le_refl _))
      ·cases a1⟩)
    exact hk _ _ _ _ q2 ⟨_, .ref X.length H.length _ _ (hn _) (by simp [lenO]) (by unfold plS; rw [if_pos rfl]), ⟨k1, k2⟩, .inr ⟨by simp [Yae], by unfold plS; rw [if_pos rfl]⟩⟩
   ·obtain ⟨q1, q2⟩ := Yaa g4
    obtain ⟨z1, z2, z3⟩ := YdJ (X := X) (pl := pl) c
    obtain ⟨k1, k2⟩ := Yat hr (.sq c (List.replicate n.toNat c.dft)) ⟨c.width, List.replicate n.toNat (c.zeros.map zc)⟩ (fun hx => ⟨H.length, List.replicate n.toNat (c.zeros.map zc), by unfold plS; rw [if_pos rfl], by simp, by simpa using q1, by simp, fun i e v a1 a2 => by
      rw [YAl] at a1 a2
      split at a1
      ·rename_i hi; rw [if_pos hi] at a2; injection a1 with a1; injection a2 with a2; subst a1; subst a2; exact z3
      ·cases a1⟩)
    exact hk _ _ _ _ q2 ⟨_, .ref X.length H.length _ _ (hn _) (by simp [lenO]) (by unfold plS; rw [if_pos rfl]), ⟨k1, k2⟩, .inr ⟨by simp [Yae], by unfold plS; rw [if_pos rfl]⟩⟩
   ·cases g4
  ·cases h
 case mkf f caps => exact same _ _ h (.clo f _ _ (YaT he caps).1 (YaT he caps).2)
 case call => cases h
 case dyn => cases h
 case dynP => cases h
 case callN => cases h
 case lit c xs =>
  split at h
  ·rename_i e els hc
   obtain ⟨e1, e2⟩ := Yaa h
   simp only [Bool.and_eq_true, Nat.ble_eq] at e1
   split at e2
   ·rename_i l hp
    obtain ⟨va, us, k1, k2⟩ := Yrb hc hp (Nat.le_of_ble_eq_true e1.1) e1.2 (YaT he xs) hr
    exact ⟨va, us, k1, hk _ _ _ _ e2 k2⟩
   ·cases e2
  ·cases h
 case appD c s x =>
  obtain ⟨e1, e2⟩ := Yaa h
  exact Yq3 (Nat.le_of_ble_eq_true e1) e2 (vok s) (vok x) hr hk
 case apps s x =>
  have h2 := vok x
  split at h
  ·rename_i b e1
   rw [e1] at h2
   have : opd ae x.er = .v (.string b) := YkN h2
   simp only [YzR, YzT, this]
   exact Yq5 h (vok s) hr hk
  ·cases h
 case appb s x => exact Yq7 h (vok s) (vok x) hr hk
 case appDb s x => exact Yq8 h (vok s) (vok x) hr hk
 case litb xs =>
  split at h
  ·rename_i e els hc
   obtain ⟨e1, e2⟩ := Yaa h
   simp only [Nat.ble_eq] at e1
   split at e2
   ·rename_i l hp
    obtain ⟨e3, e4⟩ := Yaa e2
    obtain ⟨va, us, k1, k2⟩ := Yq9 hc hp e3 e1 (YaT he xs) hr
    exact ⟨va, us, k1, hk _ _ _ _ e4 k2⟩
   ·cases e2
  ·cases h
 case bstr x => exact Yra h (vok x) hr same
 case bld => exact ⟨_, _, rfl, hk _ _ _ _ h (Yrc hr)⟩
 case sbyt x =>
  have h2 := vok x
  split at h
  ·rename_i b e1
   rw [e1] at h2
   have : opd ae x.er = .v (.string b) := YkN h2
   refine ⟨.rd 1 (strA b), by simp only [YzR, YzT, this, pvF]; rfl, same _ _ h (.l U8 (strL b) _ (rows_coe' (Ya1 b).rows))⟩
  ·cases h
 case add64 xs =>
  have h2 := YaT he xs
  split at h
  ·rename_i x y c e1
   obtain ⟨e2, e3⟩ := Yaj h
   rw [YkO e1 h2]
   refine ⟨.tup [.v (.int .u64 (YxA x y c).1), .v (.int .u64 (YxA x y c).2)], by simp only [pvF, if_pos e2], same _ _ e3 (.tp _ _ rfl (fun j c a h1 h2 => ?_))⟩
   match j, h1, h2 with
   | 0, h1, h2 => simp at h1 h2; subst h1; subst h2; exact .i _ _
   | 1, h1, h2 => simp at h1 h2; subst h1; subst h2; exact .i _ _
   | j + 2, h1, h2 => simp at h1
  ·cases h
 case mkm o t V ag =>
  refine ⟨_, _, ?_, hk _ _ _ _ h (Yrk o t V ag hr)⟩
  cases ag <;> rfl
 case mget o t V ag ok m k =>
  obtain ⟨v, us, h1, h2⟩ := Yrg h (vok m) (vok k) hr (YdJ (X := X) (pl := pl) (.cons t V)).2.2 same
  exact ⟨v, us, h1, h2⟩
 case mput o t V ag m k v =>
  obtain ⟨w, us, h1, h2⟩ := Yri h (vok m) (vok k) (vok v) hr hk
  exact ⟨w, us, h1, h2⟩
 case mdel o t V m k =>
  obtain ⟨w, us, h1, h2⟩ := Yrj h (vok m) (vok k) hr hk
  exact ⟨w, us, h1, h2⟩
 case mlen m =>
  have h2 := vok m
  split at h
  ·rename_i a e1
   rw [e1] at h2
   split at h
   ·rename_i n c l tags ho
    obtain ⟨e3, e4⟩ := Yaa h
    simp only [Bool.or_eq_true, Nat.beq_eq] at e3
    obtain ⟨y, e5, hp⟩ := YaS ho h2
    obtain ⟨el, at', R, hy, hmo, hrow, _⟩ := YdG hr ho hp e3
    have hyf : hf H y = some (some ⟨tags.length + 2, [.v (.int .i64 n) :: R :: at']⟩) := hy
    refine ⟨.v (.int .i64 (el.length : Nat)), [], by simp only [YzR, YzT, e5, xF, hyf, hmo], same _ _ e4 ?_⟩
    rw [hrow.1]; exact .i _ _
   ·cases h
  ·cases h
 case mrng m =>
  have h2 := vok m
  split at h
  ·rename_i a e1
   rw [e1] at h2
   split at h
   ·rename_i n c l tags ho
    obtain ⟨e3, e4⟩ := Yaa h
    simp only [Bool.or_eq_true, Nat.beq_eq] at e3
    obtain ⟨y, e5, hp⟩ := YaS ho h2
    obtain ⟨va, us, k1, k2⟩ := Yrl hr ho hp e3
    exact ⟨va, us, by simp only [YzR, YzT, e5]; exact k1, hk _ _ _ _ e4 k2⟩
   ·cases h
  ·cases h
 case ment o t V ag it =>
  obtain ⟨w, us, h1, h2⟩ := Yrm h (vok it) hr same
  exact ⟨w, us, h1, h2⟩
 case mnxt it => cases h
 case cpy c d s =>
  have h2 := vok d
  split at h
  ·rename_i a e1
   rw [e1] at h2
   split at h
   ·rename_i c' l ho
    split at h
    ·rename_i m0 hs
     split at h
     ·rename_i m hm
      obtain ⟨e3, e4⟩ := Yaa h
      obtain ⟨va, us, k1, k2⟩ := Yrn hr ho h2 hs (vok s) hm (show 1 <= c.width by simpa [Nat.blt] using e3)
      exact ⟨va, us, k1, hk _ _ _ _ e4 k2⟩
     ·cases h
    ·cases h
   ·cases h
  ·cases h
 case sub64 xs =>
  have h2 := YaT he xs
  split at h
  ·rename_i x y c e1
   obtain ⟨e2, e3⟩ := Yaj h
   rw [YkO e1 h2]
   refine ⟨.tup [.v (.int .u64 (YxB x y c).1), .v (.int .u64 (YxB x y c).2)], by simp only [pvF, if_pos e2], same _ _ e3 (.tp _ _ rfl (fun j c a h1 h2 => ?_))⟩
   match j, h1, h2 with
   | 0, h1, h2 => simp at h1 h2; subst h1; subst h2; exact .i _ _
   | 1, h1, h2 => simp at h1 h2; subst h1; subst h2; exact .i _ _
   | j + 2, h1, h2 => simp at h1
  ·cases h
end
end Go.Abs
namespace Go.Abs
open Go Go.RowKit
mutual
theorem SV.eq_of : ∀ {x y : SV}, x.eqb y = true -> x = y
 | .i k, .i k', h => by simp only [SV.eqb, decide_eq_true_eq] at h; rw [h]
 | .b, .b, _ => rfl
 | .s, .s, _ => rfl
 | .l c, .l c', h => by rw [Cs.eq_of (a := c) (b := c') (by simpa [SV.eqb] using h)]
 | .u, .u, _ => rfl
 | .e c, .e c', h => by rw [Cs.eq_of (a := c) (b := c') (by simpa [SV.eqb] using h)]
 | .e _, .i _, h | .e _, .b, h | .e _, .s, h | .e _, .l _, h | .e _, .u, h | .e _, .ref _, h | .e _, .pre _, h | .e _, .ptr _ _ _, h | .e _, .ag _, h | .e _, .tp _, h | .e _, .clo _ _, h => by simp [SV.eqb] at h
 | .i _, .e _, h | .b, .e _, h | .s, .e _, h | .l _, .e _, h | .u, .e _, h | .ref _, .e _, h | .pre _, .e _, h | .ptr _ _ _, .e _, h | .ag _, .e _, h | .tp _, .e _, h | .clo _ _, .e _, h => by simp [SV.eqb] at h
 | .np a, .np a', h => by rw [Nat.eq_of_beq_eq_true (show Nat.beq a a' = true from h)]
 | .np _, .i _, h | .np _, .b, h | .np _, .s, h | .np _, .l _, h | .np _, .u, h | .np _, .e _, h | .np _, .ref _, h | .np _, .pre _, h | .np _, .ptr _ _ _, h | .np _, .ag _, h | .np _, .tp _, h | .np _, .clo _ _, h => by simp [SV.eqb] at h
 | .i _, .np _, h | .b, .np _, h | .s, .np _, h | .l _, .np _, h | .u, .np _, h | .e _, .np _, h | .ref _, .np _, h | .pre _, .np _, h | .ptr _ _ _, .np _, h | .ag _, .np _, h | .tp _, .np _, h | .clo _ _, .np _, h => by simp [SV.eqb] at h
 | .ref a, .ref a', h => by rw [Nat.eq_of_beq_eq_true (show Nat.beq a a' = true from h)]
 | .pre a, .pre a', h => by rw [Nat.eq_of_beq_eq_true (show Nat.beq a a' = true from h)]
 | .ptr a p q, .ptr a' p' q', h => by
   simp only [SV.eqb, Bool.and_eq_true] at h
   rw [Nat.eq_of_beq_eq_true h.1.1, Nat.eq_of_beq_eq_true h.1.2, Nat.eq_of_beq_eq_true h.2]
 | .ag x, .ag x', h => by rw [SV.eqs_of (show SV.eqbs x x' = true from h)]
 | .tp x, .tp x', h => by rw [SV.eqs_of (show SV.eqbs x x' = true from h)]
 | .clo g x, .clo g' x', h => by
   simp only [SV.eqb, Bool.and_eq_true] at h
   rw [Nat.eq_of_beq_eq_true h.1, SV.eqs_of h.2]
 | .i _, .b, h | .i _, .s, h | .i _, .l _, h | .i _, .u, h | .i _, .ref _, h | .i _, .pre _, h | .i _, .ptr _ _ _, h | .i _, .ag _, h | .i _, .tp _, h | .i _, .clo _ _, h => by simp [SV.eqb] at h
 | .b, .i _, h | .b, .s, h | .b, .l _, h | .b, .u, h | .b, .ref _, h | .b, .pre _, h | .b, .ptr _ _ _, h | .b, .ag _, h | .b, .tp _, h | .b, .clo _ _, h => by simp [SV.eqb] at h
 | .s, .i _, h | .s, .b, h | .s, .l _, h | .s, .u, h | .s, .ref _, h | .s, .pre _, h | .s, .ptr _ _ _, h | .s, .ag _, h | .s, .tp _, h | .s, .clo _ _, h => by simp [SV.eqb] at h
 | .l _, .i _, h | .l _, .b, h | .l _, .s, h | .l _, .u, h | .l _, .ref _, h | .l _, .pre _, h | .l _, .ptr _ _ _, h | .l _, .ag _, h | .l _, .tp _, h | .l _, .clo _ _, h => by simp [SV.eqb] at h
 | .u, .i _, h | .u, .b, h | .u, .s, h | .u, .l _, h | .u, .ref _, h | .u, .pre _, h | .u, .ptr _ _ _, h | .u, .ag _, h | .u, .tp _, h | .u, .clo _ _, h => by simp [SV.eqb] at h
 | .ref _, .i _, h | .ref _, .b, h | .ref _, .s, h | .ref _, .l _, h | .ref _, .u, h | .ref _, .pre _, h | .ref _, .ptr _ _ _, h | .ref _, .ag _, h | .ref _, .tp _, h | .ref _, .clo _ _, h => by simp [SV.eqb] at h
 | .pre _, .i _, h | .pre _, .b, h | .pre _, .s, h | .pre _, .l _, h | .pre _, .u, h | .pre _, .ref _, h | .pre _, .ptr _ _ _, h | .pre _, .ag _, h | .pre _, .tp _, h | .pre _, .clo _ _, h => by simp [SV.eqb] at h
 | .ptr _ _ _, .i _, h | .ptr _ _ _, .b, h | .ptr _ _ _, .s, h | .ptr _ _ _, .l _, h | .ptr _ _ _, .u, h | .ptr _ _ _, .ref _, h | .ptr _ _ _, .pre _, h | .ptr _ _ _, .ag _, h | .ptr _ _ _, .tp _, h | .ptr _ _ _, .clo _ _, h => by simp [SV.eqb] at h
 | .ag _, .i _, h | .ag _, .b, h | .ag _, .s, h | .ag _, .l _, h | .ag _, .u, h | .ag _, .ref _, h | .ag _, .pre _, h | .ag _, .ptr _ _ _, h | .ag _, .tp _, h | .ag _, .clo _ _, h => by simp [SV.eqb] at h
 | .tp _, .i _, h | .tp _, .b, h | .tp _, .s, h | .tp _, .l _, h | .tp _, .u, h | .tp _, .ref _, h | .tp _, .pre _, h | .tp _, .ptr _ _ _, h | .tp _, .ag _, h | .tp _, .clo _ _, h => by simp [SV.eqb] at h
 | .clo _ _, .i _, h | .clo _ _, .b, h | .clo _ _, .s, h | .clo _ _, .l _, h | .clo _ _, .u, h | .clo _ _, .ref _, h | .clo _ _, .pre _, h | .clo _ _, .ptr _ _ _, h | .clo _ _, .ag _, h | .clo _ _, .tp _, h => by simp [SV.eqb] at h
theorem SV.eqs_of : ∀ {x y : List SV}, SV.eqbs x y = true -> x = y
 | [], [], _ => rfl
 | a :: r, a' :: r', h => by
   simp only [SV.eqbs, Bool.and_eq_true] at h
   rw [SV.eq_of h.1, SV.eqs_of h.2]
 | [], _ :: _, h | _ :: _, [], h => by simp [SV.eqbs] at h
end
theorem SO.eq_of {x y : SO} (h : x.eqb y = true) : x = y := by
 cases x <;> cases y <;> first | (simp [SO.eqb] at h; done) | skip
 ·rw [Cs.eq_of (show _ = true from h)]
 ·rw [Cs.eq_of (show _ = true from h)]
 ·rw [SV.eqs_of (show _ = true from h)]
 ·rfl
 ·rfl
theorem SO.eqs_of : ∀ {x y : List SO}, SO.eqbs x y = true -> x = y
 | [], [], _ => rfl
 | a :: r, a' :: r', h => by
   simp only [SO.eqbs, Bool.and_eq_true] at h
   rw [SO.eq_of h.1, SO.eqs_of h.2]
 | [], _ :: _, h | _ :: _, [], h => by simp [SO.eqbs] at h
theorem YbJ (c : Cs) (v : List c.den) : asL c c v = some v := by
 unfold asL Ty.cast
 rw [dif_pos (by simpa [Ty.eqb] using Cs.eqb_refl c)]
 rfl
mutual
theorem YfK : ∀ {tv : TV} {sv : SV} (r : List Lf), tv.sh = some sv -> YwP sv (tv.lv ++ r) = some (tv, r)
 | .i k n, sv, r, h => by simp only [TV.sh] at h; injection h with h; subst h; simp [TV.lv, YwP]
 | .b x, sv, r, h => by simp only [TV.sh] at h; injection h with h; subst h; simp [TV.lv, YwP]
 | .s x, sv, r, h => by simp only [TV.sh] at h; injection h with h; subst h; simp [TV.lv, YwP]
 | .l c v, sv, r, h => by simp only [TV.sh] at h; injection h with h; subst h; simp [TV.lv, YwP, YbJ]
 | .u, sv, r, h => by simp only [TV.sh] at h; injection h with h; subst h; simp [TV.lv, YwP]
 | .ref a, sv, r, h => by simp only [TV.sh] at h; injection h with h; subst h; simp [TV.lv, YwP]
 | .pre a n, sv, r, h => by simp only [TV.sh] at h; injection h with h; subst h; simp [TV.lv, YwP]
 | .ptr a p q, sv, r, h => by simp only [TV.sh] at h; injection h with h; subst h; simp [TV.lv, YwP]
 | .np a, sv, r, h => by simp only [TV.sh] at h; injection h with h; subst h; simp [TV.lv, YwP]
 | .ag x, sv, r, h => by
   simp only [TV.sh] at h
   split at h
   ·rename_i y hy; injection h with h; subst h; simp only [TV.lv, YwP, Yb2 r hy]
   ·cases h
 | .tp x, sv, r, h => by
   simp only [TV.sh] at h
   split at h
   ·rename_i y hy; injection h with h; subst h; simp only [TV.lv, YwP, Yb2 r hy]
   ·cases h
 | .clo g x, sv, r, h => by
   simp only [TV.sh] at h
   split at h
   ·rename_i y hy; injection h with h; subst h; simp only [TV.lv, YwP, Yb2 r hy]
   ·cases h
 | .e c, sv, r, h => by simp only [TV.sh] at h; injection h with h; subst h; simp [TV.lv, YwP]
 | .v _, _, _, h | .sub _ _ _, _, _, h | .pti _ _ _ _ _, _, _, h | .rp _, _, _, h | .lt _, _, _, h => by simp [TV.sh] at h
theorem Yb2 : ∀ {vs : List TV} {svs : List SV} (r : List Lf), TV.shs vs = some svs -> YwZ svs (TV.lvs vs ++ r) = some (vs, r)
 | [], svs, r, h => by simp only [TV.shs] at h; injection h with h; subst h; simp [TV.lvs, YwZ]
 | a :: vs, svs, r, h => by
   simp only [TV.shs] at h
   split at h
   ·rename_i x xs h1 h2
    injection h with h; subst h
    simp only [TV.lvs, YwZ, YzX, YfK (TV.lvs vs ++ r) h1, Yb2 r h2]
   ·cases h
end
theorem Yrp {o : VObj} {so : SO} (r : List Lf) (h : o.sh = some so) : Yxt so (o.lv ++ r) = some (o, r) := by
 cases o with
 | sq c l => simp only [VObj.sh] at h; injection h with h; subst h; simp [VObj.lv, Yxt, YbJ]
 | fm c ver hole l =>
   cases hole with
   | some i => cases h
   | none =>
     simp only [VObj.sh] at h
     obtain ⟨h1, h2⟩ := Yaa h
     injection h2 with h2; subst h2
     have := Nat.eq_of_beq_eq_true h1; subst this
     have := YbJ (.cons (.l c) .nil) l
     simp only [VObj.lv, Yxt, YAe, YAn]
     rw [this]
 | st cs =>
   simp only [VObj.sh] at h
   split at h
   ·rename_i l hl; injection h with h; subst h; simp only [VObj.lv, Yxt, Yb2 r hl]
   ·cases h
 | sb s => simp only [VObj.sh] at h; injection h with h; subst h; simp [VObj.lv, Yxt]
theorem Yrq {o : VObj} (h : o.sh = some .dd) : False := by
 cases o with
 | sq c l => simp [VObj.sh] at h
 | fm c ver hole l => cases hole with
   | none => simp only [VObj.sh] at h; obtain ⟨_, h⟩ := Yaa h; cases h
   | some i => cases h
 | st cs => simp only [VObj.sh] at h; split at h <;> cases h
 | sb s => cases h
theorem YdL : ∀ {X : YwG} {so : List SO} (r : List Lf), shOs X = some so -> YwX so (lvOs X ++ r) = some (X, r)
 | [], so, r, h => by simp only [shOs] at h; injection h with h; subst h; simp [lvOs, YwX]
 | none :: X, so, r, h => by
   simp only [shOs] at h
   split at h
   ·rename_i xs h2
    injection h with h; subst h
    simp only [lvOs, YwX, YdL r h2]
   ·cases h
 | some o :: X, so, r, h => by
   simp only [shOs] at h
   split at h
   ·rename_i x xs h1 h2
    injection h with h; subst h
    have hx : x ≠ .dd := fun e => by subst e; exact Yrq h1
    have : YwX (x :: xs) (o.lv ++ lvOs X ++ r) = match Yxt x (o.lv ++ lvOs X ++ r) with | some (x, r) => (match YwX xs r with | some (xs, r) => some (some x :: xs, r) | none => none) | none => none := by cases x <;> first | rfl | exact absurd rfl hx
    simp only [lvOs]
    rw [this]
    simp only [YzX, Yrp (lvOs X ++ r) h1, YdL r h2]
   ·cases h
theorem YdM : ∀ l : List Lf, unp (Yxs l).1 (Yxs l).2 = l
 | [] => rfl
 | a :: r => by
   have := YdM r
   simp only [Yxs, unp, YbB, YbC, this]
theorem YaU {g : Sg} {vs : List TV} {X : YwG} {x : g.c.den} (h : g.read vs X = some x) : g.fill x = some ⟨zipE g.ts vs, X⟩ := by
 unfold Sg.read at h
 split at h
 ·rename_i svs sos h1 h2
  obtain ⟨e1, e2⟩ := Yaa h
  simp only [Bool.and_eq_true] at e1
  have q1 := SV.eqs_of e1.1; have q2 := SO.eqs_of e1.2
  have hu := YdM (TV.lvs vs ++ lvOs X)
  generalize Yxs (TV.lvs vs ++ lvOs X) = p at e2 hu
  obtain ⟨c, z⟩ := p
  simp only at e2 hu
  obtain ⟨e, he⟩ := Cs.cast_some e2
  have hx : unp g.c x = TV.lvs vs ++ lvOs X := by
   rw [<- hu, <- he]
   clear e2 hu he
   subst e
   rfl
  unfold Sg.fill
  rw [hx, <- q1, Yb2 _ h1]
  have := YdL [] h2
  rw [YAk] at this
  simp only [<- q2, this]
 ·cases h
theorem Yb3 : ∀ {m : List Nat} {a i j : Nat}, idxV m a i = some j -> i <= j /\ m[j - i]? = some a
 | [], a, i, j, h => by cases h
 | x :: r, a, i, j, h => by
   simp only [idxV] at h
   cases hx : Nat.beq x a with
   | true =>
     rw [hx, cond_true] at h; injection h with h; subst h
     exact ⟨Nat.le_refl _, by simp; exact Nat.eq_of_beq_eq_true hx⟩
   | false =>
     rw [hx, cond_false] at h
     obtain ⟨h1, h2⟩ := Yb3 h
     refine ⟨by omega, ?_⟩
     rw [show j - i = (j - (i + 1)) + 1 by omega, YAr]; exact h2
theorem YbK {X : YwG} : ∀ {l m : List Nat}, m.Nodup -> (YwU X m l).Nodup
 | [], m, h => h
 | a :: l, m, h => by
   simp only [YwU]
   cases hc : ((vget X a).isSome && !(m.any (Nat.beq a))) with
   | false => rw [cond_false]; exact YbK h
   | true =>
     rw [cond_true]
     refine YbK ?_
     simp only [Bool.and_eq_true, Bool.not_eq_true'] at hc
     rw [List.nodup_append]
     refine ⟨h, by simp, fun x hx y hy => ?_⟩
     simp only [Yz0] at hy
     subst hy
     intro e; subst e
     have := List.any_eq_false.1 hc.2 x hx
     simp at this
theorem YcI {X : YwG} : ∀ {d : Nat} {m : List Nat}, m.Nodup -> (Yw2 X d m).Nodup
 | 0, m, h => h
 | d + 1, m, h => by
   simp only [Yw2]
   cases Nat.beq (YwU X m (m.flatMap fun a => VObj.ids (vget X a))).length m.length with
   | true => rw [cond_true]; exact h
   | false => rw [cond_false]; exact YcI (YbK h)
theorem YcJ {X : YwG} : ∀ {l m : List Nat}, (∀ a ∈ m, ∃ o, vget X a = some o) -> ∀ a ∈ YwU X m l, ∃ o, vget X a = some o
 | [], m, h => h
 | b :: l, m, h => by
   simp only [YwU]
   cases hc : ((vget X b).isSome && !(m.any (Nat.beq b))) with
   | false => rw [cond_false]; exact YcJ h
   | true =>
     rw [cond_true]
     simp only [Bool.and_eq_true] at hc
     refine YcJ (fun a ha => ?_)
     rcases Yz6.1 ha with ha | ha
     ·exact h a ha
     ·simp only [Yz0] at ha; subst ha; exact Option.isSome_iff_exists.1 hc.1
theorem YfL {X : YwG} : ∀ {d : Nat} {m : List Nat}, (∀ a ∈ m, ∃ o, vget X a = some o) -> ∀ a ∈ Yw2 X d m, ∃ o, vget X a = some o
 | 0, m, h => h
 | d + 1, m, h => by
   simp only [Yw2]
   cases Nat.beq (YwU X m (m.flatMap fun a => VObj.ids (vget X a))).length m.length with
   | true => rw [cond_true]; exact h
   | false => rw [cond_false]; exact YfL (YcJ h)
theorem YkU : ∀ {m : List Nat} {a : Nat} (i : Nat), a ∈ m -> ∃ j, idxV m a i = some j
 | x :: m, a, i, h => by
   simp only [idxV]
   cases hx : Nat.beq x a with
   | true => exact ⟨i, rfl⟩
   | false =>
     rw [cond_false]
     rcases Yz4.1 h with e | h
     ·subst e; rw [Nat.beq_refl] at hx; cases hx
     ·exact YkU (i + 1) h
theorem YdN {m : List Nat} {a i : Nat} (h : a ∉ m) : idxV m a i = none := by
 cases hx : idxV m a i with
 | none => rfl
 | some j => exact absurd (YzQ (Yb3 hx).2) h
theorem YcK (X : YwG) : ∀ (l m : List Nat), m <+: YwU X m l
 | [], m => List.prefix_refl _
 | a :: l, m => by
   simp only [YwU]
   cases ((vget X a).isSome && !(m.any (Nat.beq a))) with
   | true => rw [cond_true]; exact (List.prefix_append m [a]).trans (YcK X l _)
   | false => rw [cond_false]; exact YcK X l m
theorem YfM (X : YwG) : ∀ (d : Nat) (m : List Nat), m <+: Yw2 X d m
 | 0, m => List.prefix_refl _
 | d + 1, m => by
   simp only [Yw2]
   cases Nat.beq (YwU X m (m.flatMap fun a => VObj.ids (vget X a))).length m.length with
   | true => rw [cond_true]; exact List.prefix_refl _
   | false => rw [cond_false]; exact (YcK X _ m).trans (YfM X d _)
theorem YdO (f : Nat -> Option VObj) : ∀ (m : List Nat) (b : Nat), vget (m.map f) b = (m[b]?).bind f
 | [], b => by simp [vget]
 | a :: m, 0 => by simp [vget]
 | a :: m, b + 1 => by simp only [YzR, vget, YdO f m b, YAr]
theorem Yar (r : Nat -> Option Nat) : ∀ l : List TV, TV.rens r l = l.map (TV.ren r)
 | [] => rfl
 | a :: l => by simp [TV.rens, Yar r l]
def plR (pl : Pl) (m : List Nat) : Pl
 | .m b => match m[b]? with | some a => pl (.m a) | none => none
 | .n b i => match m[b]? with | some a => pl (.n a i) | none => none
section
variable {Fr : Nat -> Prop} {H0 : Heap} {X : YwG} {pl : Pl} {H : Heap} {m : List Nat}
abbrev renX (X : YwG) (m : List Nat) : YwG := m.map fun a => (vget X a).map (VObj.ren fun a => idxV m a 0)
theorem Yb4 {b a : Nat} (h : m[b]? = some a) : vget (renX X m) b = (vget X a).map (VObj.ren fun a => idxV m a 0) := by
 unfold renX; rw [YdO, h]; rfl
theorem TR.renG {X' : YwG} {pl' : Pl} {r : Nat -> Option Nat} (look : ∀ {a b : Nat}, a < X.length -> r a = some b -> b < X'.length /\ vget X' b = (vget X a).map (VObj.ren r) /\ pl' (.m b) = pl (.m a)) {tv : TV} {av : AV} (h : TR X pl tv av) : TR X' pl' (tv.ren r) av := by
 have hn : ∀ (o : VObj), lenO (o.ren r) = lenO o /\ elN (o.ren r) = elN o := fun o => by cases o <;> exact ⟨rfl, rfl⟩
 induction h with
 | i k n => exact .i k n
 | b x => exact .b x
 | s x => exact .s x
 | l c v a h => exact .l c v a h
 | e c => exact .e c
 | u a => exact .u a
 | v x => exact .u _
 | ref a x o n h hl hp =>
   simp only [TV.ren]
   split
   ·rename_i b hb
    obtain ⟨h2, h1, h3⟩ := look (Yah h) hb
    exact .ref b x _ n (by rw [h1, h]; rfl) ((hn o).1.trans hl) (h3.trans hp)
   ·exact .u _
 | refD a av h ha =>
   simp only [TV.ren]
   split
   ·rename_i b hb
    obtain ⟨h2, h1, h3⟩ := look ha hb
    exact .refD b _ (by rw [h1, h]; rfl) h2
   ·exact .u _
 | pre a x k o n h hl hp h0 hm =>
   simp only [TV.ren]
   split
   ·rename_i b hb
    obtain ⟨h2, h1, h3⟩ := look (Yah h) hb
    exact .pre b x k _ n (by rw [h1, h]; rfl) ((hn o).1.trans hl) (h3.trans hp) h0 hm
   ·exact .u _
 | preD a k av h ha =>
   simp only [TV.ren]
   split
   ·rename_i b hb
    obtain ⟨h2, h1, h3⟩ := look ha hb
    exact .preD b _ _ (by rw [h1, h]; rfl) h2
   ·exact .u _
 | ptr a i j x o h hi hp =>
   simp only [TV.ren]
   split
   ·rename_i b hb
    obtain ⟨h2, h1, h3⟩ := look (Yah h) hb
    exact .ptr b i j x _ (by rw [h1, h]; rfl) (by rw [(hn o).2]; exact hi) (h3.trans hp)
   ·exact .u _
 | ptrD a i j av h ha =>
   simp only [TV.ren]
   split
   ·rename_i b hb
    obtain ⟨h2, h1, h3⟩ := look ha hb
    exact .ptrD b _ _ _ (by rw [h1, h]; rfl) h2
   ·exact .u _
 | np a x o h hp =>
   simp only [TV.ren]
   split
   ·rename_i b hb
    obtain ⟨h2, h1, h3⟩ := look (Yah h) hb
    exact .np b x _ (by rw [h1, h]; rfl) (h3.trans hp)
   ·exact .u _
 | npD a av h ha =>
   simp only [TV.ren]
   split
   ·rename_i b hb
    obtain ⟨h2, h1, h3⟩ := look ha hb
    exact .npD b _ (by rw [h1, h]; rfl) h2
   ·exact .u _
 | sub => exact .u _
 | sube => exact .u _
 | subD => exact .u _
 | pti => exact .u _
 | ptiD => exact .u _
 | rp => exact .u _
 | lt => exact .u _
 | ag cs as hl h ih =>
   simp only [TV.ren, Yar]
   refine .ag _ _ (by simp [hl]) (fun j c a h1 h2 => ?_)
   rw [YzP, Option.map_eq_some_iff] at h1
   obtain ⟨y, h1, rfl⟩ := h1
   exact ih j y a h1 h2
 | tp cs as hl h ih =>
   simp only [TV.ren, Yar]
   refine .tp _ _ (by simp [hl]) (fun j c a h1 h2 => ?_)
   rw [YzP, Option.map_eq_some_iff] at h1
   obtain ⟨y, h1, rfl⟩ := h1
   exact ih j y a h1 h2
 | clo g cs as hl h ih =>
   simp only [TV.ren, Yar]
   refine .clo g _ _ (by simp [hl]) (fun j c a h1 h2 => ?_)
   rw [YzP, Option.map_eq_some_iff] at h1
   obtain ⟨y, h1, rfl⟩ := h1
   exact ih j y a h1 h2
theorem TR.ren {tv : TV} {av : AV} (h : TR X pl tv av) : TR (renX X m) (plR pl m) (tv.ren fun a => idxV m a 0) av := by
 refine h.renG (fun {a b} _ hb => ?_)
 obtain ⟨_, h2⟩ := Yb3 hb
 simp only [Nat.sub_zero] at h2
 exact ⟨by simp [renX]; exact (YzN.1 h2).1, Yb4 h2, by simp only [plR, h2]⟩
theorem YfN (hr : HRel Fr H0 X pl H) (hm : m.Nodup) : HRel Fr H0 (renX X m) (plR pl m) H := by
 have up : ∀ {p : Pos} {x}, plR pl m p = some x -> ∃ a, m[p.of]? = some a /\ pl (match p with | .m _ => .m a | .n _ i => .n a i) = some x := by
  intro p x h
  cases p with
  | m b => simp only [plR] at h; split at h; · exact ⟨_, by assumption, h⟩
           ·cases h
  | n b i => simp only [plR] at h; split at h; · exact ⟨_, by assumption, h⟩
             ·cases h
 refine ⟨fun b o' h1 => ?_, fun p q x hp hq => ?_, fun p x hp => ?_, hr.fr, fun p x hp => ?_, hr.le⟩
 ·unfold renX at h1
  rw [YdO] at h1
  cases hb : m[b]? with
  | none => rw [hb] at h1; cases h1
  | some a =>
    rw [hb] at h1
    simp only [Option.bind_some, Option.map_eq_some_iff] at h1
    obtain ⟨o, ho, rfl⟩ := h1
    have hob := hr.obj a o ho
    have e1 : plR pl m (.m b) = pl (.m a) := by simp only [plR, hb]
    have e2 : ∀ i, plR pl m (.n b i) = pl (.n a i) := fun i => by simp only [plR, hb]
    cases o with
    | sq c l => obtain ⟨x, el, h1, h2, h3, h4⟩ := hob; exact ⟨x, el, e1.trans h1, h2, h3, h4⟩
    | fm c ver hole l =>
      obtain ⟨x, el, h1, h2, h3, h4, h5, h6⟩ := hob
      refine ⟨x, el, e1.trans h1, h2, h3, h4, h5, fun i e v k1 k2 k3 => ?_⟩
      rw [e2]; exact h6 i e v k1 k2 k3
    | st cs =>
      obtain ⟨x, e, h1, h2, h3, h4⟩ := hob
      refine ⟨x, e, e1.trans h1, ?_, ?_, ?_⟩
      ·simp only [Yar, Yz7]; exact h2
      ·simpa [Yar] using h3
      ·refine ⟨by simp [Yar, h4.1], fun j c a h1 h2 => ?_⟩
       rw [Yar, YzP, Option.map_eq_some_iff] at h1
       obtain ⟨y, h1, rfl⟩ := h1
       exact (h4.2 j y a h1 h2).ren
    | sb s => obtain ⟨x, h1, h2⟩ := hob; exact ⟨x, e1.trans h1, h2⟩
 ·obtain ⟨a, h1, h2⟩ := up hp
  obtain ⟨a', h3, h4⟩ := up hq
  have := hr.inj _ _ _ h2 h4
  have nd : ∀ {i j : Nat} {a : Nat}, m[i]? = some a -> m[j]? = some a -> i = j := fun hi hj => by
   have g1 := YzN.1 hi
   have g2 := YzN.1 hj
   exact (List.getElem_inj (h₀ := g1.1) (h₁ := g2.1) hm).1 (by rw [g1.2, g2.2])
  cases p with
  | m b => cases q with
    | m b' => simp only at this; injection this with this; subst this; simp only [Pos.of] at h1 h3; rw [nd h1 h3]
    | n b' i => cases this
  | n b i => cases q with
    | m b' => cases this
    | n b' j => simp only at this; injection this with this e; subst this; subst e; simp only [Pos.of] at h1 h3; rw [nd h1 h3]
 ·obtain ⟨a, h1, h2⟩ := up hp
  have := hr.own _ _ h2
  cases p with
  | m b => obtain ⟨o, ho⟩ := this; exact ⟨_, by rw [Yb4 (b := b) (a := a) h1, ho]; rfl⟩
  | n b i => obtain ⟨c, v, h, l, ho, k⟩ := this; exact ⟨c, 0, h, l, by rw [Yb4 (b := b) (a := a) h1, ho]; rfl, k⟩
 ·obtain ⟨a, h1, h2⟩ := up hp
  exact hr.nfr _ _ h2
theorem YkV (f : Nat -> TV) : ∀ (ts : List Nat) (t : Nat), YwV (zipE ts (ts.map f)) t = if t ∈ ts then f t else .u
 | [], t => by simp [zipE, YwV]
 | s :: ts, t => by
   simp only [YzR, zipE, YwV]
   cases hb : Nat.beq s t with
   | true =>
     have := Nat.eq_of_beq_eq_true hb; subst this
     simp
   | false =>
     have hne : t ≠ s := fun e => by subst e; rw [Nat.beq_refl] at hb; cases hb
     rw [cond_false, YkV f ts t]
     simp [hne]
theorem YdP (f : Option VObj -> Option VObj) (hf : f none = none) : ∀ (X : YwG) (a : Nat), vget (X.map f) a = f (vget X a)
 | [], a => by simp [vget, hf]
 | o :: X, 0 => rfl
 | o :: X, a + 1 => by simp only [YzR, vget]; exact YdP f hf X a
theorem YfO : ∀ l : List TV, TV.nrms l = l.map TV.nrm
 | [] => rfl
 | a :: r => by simp [TV.nrms, YfO r]
mutual
theorem TR.nrm : ∀ (v : TV) {a : AV}, TR X pl v a -> TR X pl v.nrm a
 | .e c, _, h => by cases h; exact .l c [] _ (by simp only [YzT]; exact .empRd _)
 | .ag x, _, h => by
   cases h with
   | ag _ as hl hc => have := CT.nrm x ⟨hl, hc⟩; exact .ag _ _ this.1 this.2
 | .tp x, _, h => by
   cases h with
   | tp _ as hl hc => have := CT.nrm x ⟨hl, hc⟩; exact .tp _ _ this.1 this.2
 | .clo g x, _, h => by
   cases h with
   | clo _ _ as hl hc => have := CT.nrm x ⟨hl, hc⟩; exact .clo g _ _ this.1 this.2
 | .i _ _, _, h => h
 | .b _, _, h => h
 | .s _, _, h => h
 | .l _ _, _, h => h
 | .u, _, h => h
 | .v _, _, h => h
 | .ref _, _, h => h
 | .pre _ _, _, h => h
 | .sub _ _ _, _, h => h
 | .ptr _ _ _, _, h => h
 | .np _, _, h => h
 | .pti _ _ _ _ _, _, h => h
 | .rp _, _, h => h
 | .lt _, _, h => h
theorem CT.nrm : ∀ (l : List TV) {as : List AV}, CT X pl l as -> CT X pl (TV.nrms l) as
 | [], _, h => h
 | v :: l, as, h => by
   obtain ⟨a, r, rfl, h1, h2⟩ := h.inv
   exact .cons (TR.nrm v h1) (CT.nrm l h2)
end
theorem YdQ (a : Nat) : vget (nrmX X) a = (vget X a).map VObj.nrm := by
 unfold nrmX; exact YdP _ rfl X a
theorem YfP : Ext X pl (nrmX X) pl := by
 refine ⟨by simp [nrmX], fun a _ => ?_⟩
 rw [YdQ]
 cases h : vget X a with
 | none => exact .inl rfl
 | some o =>
   refine .inr ⟨o, o.nrm, rfl, rfl, ?_, ?_, rfl, ?_, fun c ver hole l e => ?_⟩
   ·cases o <;> rfl
   ·cases o <;> rfl
   ·cases o <;> rfl
   ·cases o with
    | sq _ _ => cases e
    | st _ => cases e
    | sb _ => cases e
    | fm c0 v0 h0 l0 => exact ⟨ver, hole, l, e, rfl, .inr ⟨rfl, fun h => ⟨h, fun i => ⟨rfl, rfl⟩⟩⟩⟩
theorem YkW (hr : HRel Fr H0 X pl H) : HRel Fr H0 (nrmX X) pl H := by
 refine ⟨fun a o ho => ?_, hr.inj, fun p x hp => ?_, hr.fr, hr.nfr, hr.le⟩
 ·rw [YdQ, Option.map_eq_some_iff] at ho
  obtain ⟨o0, h0, rfl⟩ := ho
  have := hr.obj a o0 h0
  cases o0 with
  | sq c l => exact this
  | fm c v h l => exact this
  | sb s => exact this
  | st cs =>
    obtain ⟨x, e, e1, e2, e3, e4⟩ := this
    exact ⟨x, e, e1, by rw [YfO, Yz7]; exact e2, by rw [YfO, Yz7]; exact e3, CT.nrm cs (e4.ext YfP)⟩
 ·have := hr.own p x hp
  cases p with
  | m a => obtain ⟨o, ho⟩ := this; exact ⟨o.nrm, by rw [YdQ, ho]; rfl⟩
  | n a i => obtain ⟨c, v, h, l, ho, k⟩ := this; exact ⟨c, v, h, l, by rw [YdQ, ho]; rfl, k⟩
theorem YcL {env : VEnv} {ae : Env} (he : ERel X pl env ae) (hr : HRel Fr H0 X pl H) {kb : Nat} {ts : List Nat} {vs : List TV} {X' : YwG} (hkb : kb <= X.length) (h : YxG kb ts ⟨env, X⟩ = (vs, X')) : ∃ pl', ERel X' pl' (zipE ts vs) ae /\ HRel Fr H0 X' pl' H /\ kb <= X'.length /\ ∀ i, i < kb -> ∀ x, pl' (.m i) = some x -> pl (.m i) = some x := by
 unfold YxG at h
 simp only at h
 have he1 : ∀ t, TR (nrmX X) pl (YwV env t).nrm (YwJ ae t) := fun t => TR.nrm _ ((he t).ext YfP)
 have hr := YkW hr
 have hXl : (nrmX X).length = X.length := by simp [nrmX]
 have hkb : kb <= (nrmX X).length := by rw [hXl]; exact hkb
 clear hXl he
 generalize nrmX X = X at h hr hkb he1
 have hnd : (Yw2 X 5 (YwU X (List.range (min kb X.length)) (TV.idss (ts.map fun t => (YwV env t).nrm)))).Nodup := YcI (YbK List.nodup_range)
 have hpre : List.range (min kb X.length) <+: Yw2 X 5 (YwU X (List.range (min kb X.length)) (TV.idss (ts.map fun t => (YwV env t).nrm))) := (YcK _ _ _).trans (YfM _ _ _)
 generalize (Yw2 X 5 (YwU X (List.range (min kb X.length)) (TV.idss (ts.map fun t => (YwV env t).nrm)))) = m at h hnd hpre
 injection h with h1 h2
 subst h1; subst h2
 obtain ⟨tl, htl⟩ := hpre
 refine ⟨plR pl m, fun t => ?_, YfN hr hnd, by rw [<- htl]; simp; omega, fun i hi x hx => ?_⟩
 rotate_left
 ·have : m[i]? = some i := by
   rw [<- htl, YzS (by simp; omega), YAf (by omega)]
  simpa only [plR, this] using hx
 rw [Yar, YAc, YkV]
 split
 ·exact (he1 t).ren
 ·exact .u _
theorem Yrr {env : Env} {H : Heap} {b x es n j : Nat} {e : List AV} {av : AV} (hx : H[x]? = some (some ⟨n, [e]⟩)) (hj : e[j]? = some av) (hes : (av = .emp /\ 0 < es) \/ av = .v (.slice none 0 0)) :
  Wk ⟨env, H, b⟩ ⟨env, H.set x (some ⟨n, [e.set j (.ref H.length 0 0)]⟩) ++ [some ⟨es, []⟩], b⟩ := by
 intro fm n0 w0 L0 a w hs
 obtain ⟨h1, h2, h3, L, h4, h5, h6, h7⟩ := hs
 obtain ⟨k1, k2⟩ := YbS h6 (nid := H.length) (by simp [hf]) (es := es) w0.heap.size (decide (es = 0)) (fun h => by simpa using h)
 have k2' : LStep L (fun a => if a = H.length then .nil (decide (es = 0)) else L a) w.heap.size := (YbS h6 (nid := H.length) (by simp [hf]) (es := es) w.heap.size (decide (es = 0)) (fun h => by simpa using h)).1
 rw [hf_push] at k2
 have hxl := (YzN.1 hx).1
 have hxn : x ≠ H.length := by omega
 have hget : ∀ c, hf (H.set x (some ⟨n, [e.set j (.ref H.length 0 0)]⟩) ++ [some ⟨es, []⟩]) c = if c = x then some (some ⟨n, [e.set j (.ref H.length 0 0)]⟩) else hf (H ++ [some ⟨es, []⟩]) c := by
  intro c
  simp only [hf]
  by_cases ec : c = x
  ·subst ec; rw [if_pos rfl, YzS (by simpa using hxl), YzZ hxl]
  ·rw [if_neg ec]
   by_cases hc : c < H.length
   ·rw [YzS (by simpa using hc), YzS hc, YzV (Ne.symm ec)]
   ·rw [YzU (by simp; omega), YzU (by omega)]; simp
 have hxo : hf (H ++ [some ⟨es, []⟩]) x = some (some ⟨n, [e]⟩) := by
  simp only [hf]; rw [YzS hxl]; exact hx
 refine ⟨h1, h2, h3, _, h4, h5.trans k1, ?_, fun s => (h7 s).mono (Keep.refl _ _) k2'⟩
 refine ⟨fun c q hq => ?_, fun c hc' => ?_, fun c => ?_, k2.inj, k2.hid, fun c q g es' cap hq h0 hL => ?_, fun c i g hc' => ?_⟩
 rotate_left 4
 ·obtain ⟨⟨q, hq⟩, k⟩ := k2.mps c i g hc'
  refine ⟨?_, k⟩
  rw [hget]
  by_cases ec : c = x
  ·rw [if_pos ec]; exact ⟨_, rfl⟩
  ·rw [if_neg ec]; exact ⟨q, hq⟩
 rotate_left 3
 ·rw [hget] at hq
  by_cases ec : c = x
  ·subst ec
   rw [if_pos rfl] at hq; injection hq with hq; injection hq with hq; subst hq
   exact k2.byt c _ g es' cap hxo h0 hL
  ·rw [if_neg ec] at hq; exact k2.byt c q g es' cap hq h0 hL
 ·rw [hget] at hq
  by_cases ec : c = x
  ·subst ec
   rw [if_pos rfl] at hq; injection hq with hq; injection hq with hq; subst hq
   have hLc : (if c = H.length then Loc.nil (decide (es = 0)) else L c) = L c := if_neg hxn
   have hob : ObjR fm w _ (if c = H.length then Loc.nil (decide (es = 0)) else L c) _ := k2.obj c _ hxo
   show ObjR fm w _ (if c = H.length then Loc.nil (decide (es = 0)) else L c) _
   rw [hLc] at hob ⊢
   revert hob
   cases hL : L c with
   | fresh => exact id
   | dead => exact id
   | hid g => exact id
   | nil => intro g1; cases g1.1
   | cells g es' cap =>
     rintro ⟨g0, g1, g2, g3, g4, cur, ty, g5, g6, g7⟩
     refine ⟨g0, g1, by simpa using g2, g3, fun e' he' => ?_, cur, ty, g5, g6, fun i e' j' x' hi hj' => ?_⟩
     ·simp only [Yz0] at he'; subst he'; rw [List.length_set]; exact g4 e (Yz0.2 rfl)
     ·cases i with
      | succ i => simp at hi
      | zero =>
        simp at hi; subst hi
        by_cases ej : j' = j
        ·subst ej
         have hjl := (YzN.1 hj).1
         rw [YzZ hjl] at hj'; injection hj' with hj'; subst hj'
         obtain ⟨q1, q2⟩ := g7 0 e j' _ rfl hj
         refine ⟨q1, ?_⟩
         rcases hes with ⟨rfl, hes⟩ | rfl
         ·obtain ⟨A, hA⟩ := YaM q2
          rw [hA]
          exact .refNil A H.length (decide (es = 0)) (by simp) (fun h => by simp at h; omega)
         ·rw [Yag q2]
          exact .refNil none H.length (decide (es = 0)) (by simp) (fun _ => rfl)
        ·rw [YzV (Ne.symm ej)] at hj'
         exact g7 0 e j' x' rfl hj'
   | mp i g =>
     intro hm
     exfalso
     have nov : ∀ x, (∀ A n c, x ≠ .slice A n c) -> ¬ VR fm w (fun a => if a = H.length then Loc.nil (decide (es = 0)) else L a) x av := fun x hx hv => by
      rcases hes with ⟨rfl, _⟩ | rfl
      ·obtain ⟨A, hA⟩ := YaM hv; exact hx _ _ _ hA
      ·exact hx _ _ _ (Yag hv)
     have norow : ∀ {wd : Nat} {el : List (List AV)}, av ≠ .rd wd el := fun e => by
      rcases hes with ⟨rfl, _⟩ | rfl <;> cases e
     have nou : av ≠ .u := fun e => by
      rcases hes with ⟨rfl, _⟩ | rfl <;> cases e
     cases i with
     | true =>
       obtain ⟨_, a0, s, t, S, tag, g', since, seen, stepped, _, h2, h3, h4, h5, h6, h7⟩ := hm
       injection h2 with h2 _
       subst h2
       match j, hj with
       | 0, hj => simp at hj; subst hj; exact nov _ (fun A n c e => by cases e) h3
       | 1, hj => simp at hj; subst hj; exact nov _ (fun A n c e => by cases e) h4
       | 2, hj => simp at hj; subst hj; exact nov _ (fun A n c e => by cases e) h5
       | 3, hj =>
         simp at hj; subst hj
         rcases h7 with e | ⟨wd, bl, e, _⟩
         ·exact nou e
         ·exact norow e
       | 4, hj => simp at hj; subst hj; exact nov _ (fun A n c e => by cases e) h6
       | j + 5, hj => simp at hj
     | false =>
       obtain ⟨_, ms, clock, c0, R, tags, _, h2, h3, h4, _, h5⟩ := hm
       injection h2 with h2 _
       subst h2
       match j, hj with
       | 0, hj => simp at hj; subst hj; exact nov _ (fun A n c e => by cases e) h3
       | 1, hj =>
         simp at hj; subst hj
         rcases h5 with e | ⟨wd, el, e, _⟩
         ·exact nou e
         ·exact norow e
       | j + 2, hj =>
         simp at hj
         exact nov _ (fun A n c e => by cases e) (h4 av (YzQ hj))
  ·rw [if_neg ec] at hq; exact k2.obj c q hq
 ·obtain ⟨q, hq⟩ := k2.live c hc'
  rw [hget]
  by_cases ec : c = x
  ·rw [if_pos ec]; exact ⟨_, rfl⟩
  ·rw [if_neg ec]; exact ⟨q, hq⟩
 ·rw [hget, k2.fresh c]
  by_cases ec : c = x
  ·subst ec; rw [if_pos rfl, hxo]; simp
  ·rw [if_neg ec]
theorem Yrs (hr : HRel Fr H0 X pl H) {a x j es : Nat} {cs : List TV} {e : List AV} {o : VObj} (ha : vget X a = some (.st cs)) (hp : pl (.m a) = some x) (hx : H[x]? = some (some ⟨cs.length, [e]⟩)) (hct : CT X pl cs e) (h0 : 0 < cs.length) (hj : j < cs.length) (ho : lenO o = some 0)
  (hor : ∀ {X' : YwG} {pl' : Pl} {H' : Heap}, pl' (.m X.length) = some H.length -> (∀ i, pl' (.n X.length i) = none) -> H'[H.length]? = some (some ⟨es, []⟩) -> OR X' pl' H' X.length o) :
  HRel Fr H0 (vset X a (some (.st (cs.set j (.ref X.length)))) ++ [some o]) (plS pl (.m X.length) (some H.length)) (H.set x (some ⟨cs.length, [e.set j (.ref H.length 0 0)]⟩) ++ [some ⟨es, []⟩]) /\
   Ext X pl (vset X a (some (.st (cs.set j (.ref X.length)))) ++ [some o]) (plS pl (.m X.length) (some H.length)) := by
 have hal := Yah ha
 have hxl := (YzN.1 hx).1
 have hXl : (vset X a (some (.st (cs.set j (.ref X.length))))).length = X.length := Yae _ _ _
 have hgn : vget (vset X a (some (.st (cs.set j (.ref X.length)))) ++ [some o]) X.length = some o := by
  have := Yap (vset X a (some (.st (cs.set j (.ref X.length))))) (some o); rwa [hXl] at this
 have hga : vget (vset X a (some (.st (cs.set j (.ref X.length)))) ++ [some o]) a = some (.st (cs.set j (.ref X.length))) := by
  rw [Yaz (by rw [hXl]; exact hal)]; exact Yax _ hal
 have hgb : ∀ b, b ≠ a -> b ≠ X.length -> vget (vset X a (some (.st (cs.set j (.ref X.length)))) ++ [some o]) b = vget X b := fun b h1 h2 => by
  by_cases hb : b < X.length
  ·rw [Yaz (by rw [hXl]; exact hb), Yao _ (Ne.symm h1)]
  ·rw [YaA (by simp [hXl]; omega), YaA (by omega)]
 have hpn : ∀ p : Pos, p ≠ .m X.length -> plS pl (.m X.length) (some H.length) p = pl p := fun p h => by unfold plS; rw [if_neg h]
 have hpo : ∀ p : Pos, p.of ≠ X.length -> p ≠ .m X.length := fun p h e => by subst e; exact h rfl
 have hps : plS pl (.m X.length) (some H.length) (.m X.length) = some H.length := by unfold plS; rw [if_pos rfl]
 have hH' : ∀ {p : Pos} {z}, p ≠ .m a -> pl p = some z -> (H.set x (some ⟨cs.length, [e.set j (.ref H.length 0 0)]⟩) ++ [some ⟨es, []⟩])[z]? = H[z]? := fun h1 h2 => by
  rw [YzS (by simpa using hr.bd h2), YzV (fun e => h1 (by subst e; exact hr.inj _ _ _ h2 hp))]
 have hxt : Ext X pl (vset X a (some (.st (cs.set j (.ref X.length)))) ++ [some o]) (plS pl (.m X.length) (some H.length)) := by
  refine ⟨by simp [hXl], fun b hb => ?_⟩
  have hbn : b ≠ X.length := by omega
  by_cases e1 : b = a
  ·subst e1
   exact .inr ⟨_, _, ha, hga, rfl, rfl, hpn _ (hpo (.m b) hbn), rfl, fun c v h l e => by cases e⟩
  ·rw [hgb b e1 hbn]
   cases h : vget X b with
   | none => exact .inl rfl
   | some o1 => exact .inr ⟨o1, o1, rfl, rfl, rfl, rfl, hpn _ (hpo (.m b) hbn), rfl, fun c' v' h' l' e => ⟨v', h', l', e, rfl, .inr ⟨rfl, fun h => ⟨h, fun i => ⟨rfl, hpn _ (fun e => by cases e)⟩⟩⟩⟩⟩
 refine ⟨hr.build (fun b => b = a \/ b = X.length) hxt (fun b hb => hgb b (fun e => hb (.inl e)) (fun e => hb (.inr e))) (fun p hb => hpn p (hpo p (fun e => hb (.inr e)))) (fun p z hb hz => hH' (fun e => by subst e; exact hb (.inl rfl)) hz)
  (fun b ob hb hob => ?_) (fun p z hb hz => ?_) (fun p z hb hz => ?_) (fun p q z hb hb' hz hz' => ?_) (fun z hz => ?_) (by simp), hxt⟩
 ·by_cases e1 : b = X.length
  ·subst e1
   rw [hgn] at hob; injection hob with hob; subst hob
   refine hor hps (fun i => ?_) ?_
   ·rw [hpn _ (fun e => by cases e)]; exact hr.dead (YaA (Nat.le_refl _))
   ·rw [YzU (by simp)]; simp
  ·have := hb.resolve_right e1; subst this
   rw [hga] at hob; injection hob with hob; subst hob
   refine ⟨x, e.set j (.ref H.length 0 0), (hpn _ (hpo (.m b) e1)).trans hp, ?_, by simpa using h0, ?_⟩
   ·rw [YzS (by simpa using hxl), YzZ hxl]; simp
   ·refine ⟨by simp [hct.1], fun i c av g1 g2 => ?_⟩
    by_cases ei : i = j
    ·subst ei
     rw [YzZ hj] at g1
     rw [YzZ (by rw [<- hct.1]; exact hj)] at g2
     injection g1 with g1; injection g2 with g2; subst g1; subst g2
     exact .ref X.length H.length o 0 hgn ho hps
    ·rw [YzV (Ne.symm ei)] at g1 g2
     exact (hct.2 i c av g1 g2).ext hxt
 ·by_cases e1 : p = .m X.length
  ·subst e1; exact ⟨o, hgn⟩
  ·rw [hpn p e1] at hz
   have hl := hr.own p z hz
   rcases hb with hb | hb
   ·cases p with
    | m b => simp only [Pos.of] at hb; subst hb; exact ⟨_, hga⟩
    | n b i => simp only [Pos.of] at hb; subst hb; obtain ⟨c, v, h, l, k, _⟩ := hl; rw [ha] at k; cases k
   ·have := hr.dead (p := p) (by rw [hb]; exact YaA (Nat.le_refl _))
    rw [this] at hz; cases hz
 ·by_cases e1 : p = .m X.length
  ·subst e1; rw [hps] at hz; injection hz with hz; exact .inr (by omega)
  ·rw [hpn p e1] at hz
   rcases hb with hb | hb
   ·exact .inl ⟨p, hz, .inl hb⟩
   ·have := hr.dead (p := p) (by rw [hb]; exact YaA (Nat.le_refl _))
    rw [this] at hz; cases hz
 ·by_cases e1 : p = .m X.length <;> by_cases e2 : q = .m X.length
  ·rw [e1, e2]
  ·subst e1; rw [hps] at hz; injection hz with hz; rw [hpn q e2] at hz'; have := hr.bd hz'; omega
  ·subst e2; rw [hps] at hz'; injection hz' with hz'; rw [hpn p e1] at hz; have := hr.bd hz; omega
  ·rw [hpn p e1] at hz; rw [hpn q e2] at hz'; exact hr.inj _ _ _ hz hz'
 ·have := (hr.fr z hz).1; have := hr.le
  rw [YzS (by simp; omega), YzV (fun e => hr.nfr _ _ hp (by rw [e]; exact hz))]
theorem YkX (f : TV -> TV) (hf : f .u = .u) : ∀ (env : VEnv) (t : Nat), YwV (env.map fun p => (p.1, f p.2)) t = f (YwV env t)
 | [], t => by simp [YwV, hf]
 | (s, v) :: r, t => by
   simp only [YzR, YwV]
   cases Nat.beq s t with
   | true => rfl
   | false => exact YkX f hf r t
theorem Yrt (a n : Nat) : (rnM a n).Nodup := by
 have hf : ∀ b, b < n -> (bif Nat.beq b a then n else b) ≠ a \/ False := fun b hb => by
  cases h : Nat.beq b a with
  | true => have := Nat.eq_of_beq_eq_true h; rw [cond_true]; exact .inl (by omega)
  | false => rw [cond_false]; exact .inl (fun e => by subst e; rw [Nat.beq_refl] at h; cases h)
 unfold rnM
 rw [List.nodup_append]
 refine ⟨?_, by simp, fun x hx y hy => ?_⟩
 ·rw [List.nodup_iff_pairwise_ne, List.pairwise_map]
  refine List.Pairwise.imp_of_mem (fun {x y} hx hy hne => ?_) (List.nodup_iff_pairwise_ne.1 (List.nodup_range (n := n)))
  rw [List.mem_range] at hx hy
  cases h : Nat.beq x a <;> cases h' : Nat.beq y a
  ·simpa using hne
  ·simp only [cond_true, cond_false]; omega
  ·simp only [cond_true, cond_false]; omega
  ·exact absurd ((Nat.eq_of_beq_eq_true h).trans (Nat.eq_of_beq_eq_true h').symm) hne
 ·rw [Yz5] at hx
  obtain ⟨b, hb, rfl⟩ := hx
  rw [Yz0] at hy; subst hy
  exact (hf b (List.mem_range.1 hb)).resolve_right id
theorem Yru {env : VEnv} {ae : Env} (he : ERel X pl env ae) (hr : HRel Fr H0 X pl H) (a : Nat) :
  ERel (rnV a ⟨env, X⟩).heap (plR pl (rnM a X.length)) (rnV a ⟨env, X⟩).env ae /\ HRel Fr H0 (rnV a ⟨env, X⟩).heap (plR pl (rnM a X.length)) H /\ X.length + 1 = (rnV a ⟨env, X⟩).heap.length /\ ∀ i, i < X.length -> ∀ x, plR pl (rnM a X.length) (.m i) = some x -> pl (.m i) = some x := by
 refine ⟨fun t => ?_, YfN hr (Yrt a X.length), by simp [rnV, rnM], fun i hi x hx => ?_⟩
 ·show TR (renX X (rnM a X.length)) _ (YwV (env.map fun p => (p.1, p.2.ren fun b => idxV (rnM a X.length) b 0)) t) _
  rw [YkX (fun v => v.ren fun b => idxV (rnM a X.length) b 0) rfl]
  exact (he t).ren
 ·have : (rnM a X.length)[i]? = some (bif Nat.beq i a then X.length else i) := by
   unfold rnM
   rw [YzS (by simpa using hi), YzP, YAf hi]; rfl
  simp only [plR, this] at hx
  cases h : Nat.beq i a with
  | true =>
    rw [h, cond_true] at hx
    have := hr.dead (p := .m X.length) (YaA (Nat.le_refl _))
    rw [this] at hx; cases hx
  | false => rw [h, cond_false] at hx; exact hx
theorem Ya2 {base : Nat} : ∀ {ws : List (Nat × Option Nat × Bool)} {s : VSt} {pl : Pl} {st : ASt}, st.base = base -> ERel s.heap pl s.env st.env -> HRel Fr H0 s.heap pl st.heap ->
  ∃ st' pl', Wk st st' /\ st'.base = base /\ ERel (ownV ws s).heap pl' (ownV ws s).env st'.env /\ HRel Fr H0 (ownV ws s).heap pl' st'.heap /\ s.heap.length <= (ownV ws s).heap.length /\ ∀ i, i < s.heap.length -> ∀ x, pl' (.m i) = some x -> pl (.m i) = some x
 | [], s, pl, st, hb, he, hr => ⟨st, pl, .refl _, hb, he, hr, Nat.le_refl _, fun _ _ _ h => h⟩
 | (t, some j, w) :: r, s, pl, st, hb, he, hr => by
   obtain ⟨env, X⟩ := s
   obtain ⟨ae, H, b0⟩ := st
   have rest := Ya2 (ws := r) (s := ⟨env, X⟩) (st := ⟨ae, H, b0⟩) hb he hr
   have step : ∀ {a : Nat} {cs : List TV} {c0 : Cs} (o : VObj) (es : Nat), vget X a = some (.st cs) -> ((cs[j]? = some (.e c0) /\ 0 < es) \/ cs[j]? = some (.v (.slice none 0 0))) -> lenO o = some 0 ->
     (∀ {X' : YwG} {pl' : Pl} {H' : Heap}, pl' (.m X.length) = some H.length -> (∀ i, pl' (.n X.length i) = none) -> H'[H.length]? = some (some ⟨es, []⟩) -> OR X' pl' H' X.length o) ->
     ∃ st' pl', Wk ⟨ae, H, b0⟩ st' /\ st'.base = base /\ ERel (ownV r ⟨env, vset X a (some (.st (cs.set j (.ref X.length)))) ++ [some o]⟩).heap pl' (ownV r ⟨env, vset X a (some (.st (cs.set j (.ref X.length)))) ++ [some o]⟩).env st'.env /\ HRel Fr H0 (ownV r ⟨env, vset X a (some (.st (cs.set j (.ref X.length)))) ++ [some o]⟩).heap pl' st'.heap /\ X.length <= (ownV r ⟨env, vset X a (some (.st (cs.set j (.ref X.length)))) ++ [some o]⟩).heap.length /\ ∀ i, i < X.length -> ∀ x, pl' (.m i) = some x -> pl (.m i) = some x := by
    intro a cs c0 o es ha hj ho hor
    obtain ⟨x, e, e1, e2, e3, e4⟩ := hr.obj a _ ha
    obtain ⟨av, h1, hes, hjl⟩ : ∃ av, e[j]? = some av /\ ((av = .emp /\ 0 < es) \/ av = .v (.slice none 0 0)) /\ j < cs.length := by
     rcases hj with ⟨hj, hes⟩ | hj
     ·obtain ⟨av, h1, h2⟩ := e4.get hj
      cases h2
      exact ⟨_, h1, .inl ⟨rfl, hes⟩, (YzN.1 hj).1⟩
     ·obtain ⟨av, h1, h2⟩ := e4.get hj
      cases h2
      exact ⟨_, h1, .inr rfl, (YzN.1 hj).1⟩
    obtain ⟨k1, k2⟩ := Yrs hr ha e1 e2 e4 e3 hjl ho hor
    obtain ⟨st', pl', g1, g2, g3, g4, g5, g6⟩ := Ya2 (ws := r) (s := ⟨env, vset X a (some (.st (cs.set j (.ref X.length)))) ++ [some o]⟩) (st := ⟨ae, H.set x (some ⟨cs.length, [e.set j (.ref H.length 0 0)]⟩) ++ [some ⟨es, []⟩], b0⟩) hb (he.ext k2) k1
    have hlx : X.length + 1 = (vset X a (some (.st (cs.set j (.ref X.length)))) ++ [some o]).length := by simp [Yae]
    simp only at g5 g6
    exact ⟨st', pl', (Yrr e2 h1 hes).trans g1, g2, g3, g4, by omega, fun i hi z hz => by
     have := g6 i (by omega) z hz
     unfold plS at this; rwa [if_neg (fun e => by injection e with e; omega)] at this⟩
   unfold ownV
   simp only
   split
   ·split
    ·rename_i a _ _ _ cs ha
     split
     ·rename_i c hj
      cases hw : Nat.blt 0 c.width with
      | false => rw [cond_false]; exact rest
      | true =>
        rw [cond_true]
        have hw' : 0 < c.width := by simpa using hw
        exact step (.sq c []) c.width ha (.inl ⟨hj, hw'⟩) rfl (fun h1 _ h3 => ⟨H.length, [], h1, h3, hw', rfl, fun i e v h => by simp at h⟩)
     ·rename_i c hj
      cases hw : Nat.blt 0 c.width with
      | false => rw [cond_false]; exact rest
      | true =>
        rw [cond_true]
        have hw' : 0 < c.width := by simpa using hw
        exact step (.fm c 0 none []) 1 ha (.inl ⟨hj, by omega⟩) rfl (fun h1 _ h3 => ⟨H.length, [], h1, h3, hw', rfl, fun e he => by simp at he, fun i e v h => by simp at h⟩)
     ·rename_i hj
      exact step (c0 := .nil) (.sb (ByteArray.mk #[])) 0 ha (.inr hj) rfl (fun h1 _ h3 => ⟨H.length, h1, by rw [show strA (ByteArray.mk #[]) = [] by simp [strA, YaR]]; exact h3⟩)
     ·exact rest
    ·exact rest
   ·rename_i a _
    obtain ⟨q1, q2, q3, q4⟩ := Yru he hr a
    obtain ⟨st', pl', g1, g2, g3, g4, g5, g6⟩ := Ya2 (ws := r) (s := rnV a ⟨env, X⟩) (st := ⟨ae, H, b0⟩) hb q1 q2
    exact ⟨st', pl', g1, g2, g3, g4, by simp only at q3 g5 ⊢; omega, fun i hi x hx => q4 i hi x (g6 i (Nat.lt_of_lt_of_le hi (by simp only at q3; omega)) x hx)⟩
   ·exact rest
 | (t, none, w) :: r, s, pl, st, hb, he, hr => by
   obtain ⟨env, X⟩ := s
   obtain ⟨ae, H, b0⟩ := st
   have step : ∀ (o : VObj) (es : Nat), 0 < es -> YwJ ae t = .emp -> lenO o = some 0 -> (Ext X pl (X ++ [some o]) (plS pl (.m X.length) (some H.length)) -> OR (X ++ [some o]) (plS pl (.m X.length) (some H.length)) (H ++ [some ⟨es, []⟩]) X.length o) ->
     ∃ st' pl', Wk ⟨ae, H, b0⟩ st' /\ st'.base = base /\ ERel (ownV r ⟨(t, .ref X.length) :: env, X ++ [some o]⟩).heap pl' (ownV r ⟨(t, .ref X.length) :: env, X ++ [some o]⟩).env st'.env /\ HRel Fr H0 (ownV r ⟨(t, .ref X.length) :: env, X ++ [some o]⟩).heap pl' st'.heap /\ X.length <= (ownV r ⟨(t, .ref X.length) :: env, X ++ [some o]⟩).heap.length /\ ∀ i, i < X.length -> ∀ x, pl' (.m i) = some x -> pl (.m i) = some x := by
    intro o es hes hl ho hor
    obtain ⟨k1, k2⟩ := Yat hr o ⟨es, []⟩ hor
    have hE : ERel (X ++ [some o]) (plS pl (.m X.length) (some H.length)) ((t, .ref X.length) :: env) ((t, .ref H.length 0 0) :: ae) := by
     intro t'
     simp only [YwV, YwJ]
     have e0 : (t == t') = Nat.beq t t' := by rw [Bool.eq_iff_iff, beq_iff_eq, Nat.beq_eq]
     rw [e0]
     cases Nat.beq t t' with
     | true => exact .ref X.length H.length o 0 (Yap _ _) ho (by unfold plS; rw [if_pos rfl])
     | false => exact (he t').ext k2
    obtain ⟨st', pl', h1, h2, h3, h4, g5, g6⟩ := Ya2 (ws := r) (s := ⟨(t, .ref X.length) :: env, X ++ [some o]⟩) (st := ⟨(t, .ref H.length 0 0) :: ae, H ++ [some ⟨es, []⟩], b0⟩) hb hE k1
    simp only [YAi, YAb, List.length_nil] at g5 g6
    exact ⟨st', pl', (Ykr hl hes).trans h1, h2, h3, h4, by omega, fun i hi z hz => by
     have := g6 i (by omega) z hz
     unfold plS at this; rwa [if_neg (fun e => by injection e with e; omega)] at this⟩
   have rest := fun (he' : ERel X pl env ae) => Ya2 (ws := r) (s := ⟨env, X⟩) (st := ⟨ae, H, b0⟩) hb he' hr
   have ht := he t
   unfold ownV
   simp only at ht ⊢
   split
   ·rename_i c hv
    rw [hv] at ht
    cases hw : Nat.blt 0 c.width with
    | false => rw [cond_false]; exact rest he
    | true =>
      rw [cond_true]
      have hw' : 0 < c.width := by simpa using hw
      generalize hl : YwJ ae t = av at ht
      cases ht
      exact step (.sq c []) c.width hw' hl rfl (fun _ => ⟨H.length, [], by unfold plS; rw [if_pos rfl], by simp, hw', rfl, fun i e v h => by simp at h⟩)
   ·rename_i c hv
    rw [hv] at ht
    cases hw : Nat.blt 0 c.width with
    | false => rw [cond_false]; exact rest he
    | true =>
      rw [cond_true]
      have hw' : 0 < c.width := by simpa using hw
      generalize hl : YwJ ae t = av at ht
      cases ht
      exact step (.fm c 0 none []) 1 (by omega) hl rfl (fun _ => ⟨H.length, [], by unfold plS; rw [if_pos rfl], by simp, hw', rfl, fun e he => by simp at he, fun i e v h => by simp at h⟩)
   ·exact rest he
end
end Go.Abs
