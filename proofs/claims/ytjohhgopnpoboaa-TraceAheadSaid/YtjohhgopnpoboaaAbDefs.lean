/- The abstract machine: deep values, local heap, one step of the code. Definitions alone. -/
import Derived.Below
import Derived.WalkKit
set_option linter.unusedVariables false
namespace Go.Ab
open Go Go.RowKit

inductive Mk where
  | plain | nil | tight
  deriving DecidableEq

/-- A deep value. -/
inductive V where
  | any
  | val (v : Value)
  | ptr (i off : Nat)
  | ptrE (i ver idx sz off : Nat)
  | cp (cs : List V)
  | sl (es : List V) (m : Mk)
  | row (i ver : Nat)
  | vs (i off n sz : Nat)
  | agg (cs : List V)
  | tup (vs : List V)
  | fn (f : Fn) (first cap : List V)
  | iface (t : TypeId) (v : V)
  | mp (i : Nat)

/-- A block of the call's own. -/
inductive AB where
  | dead
  | hole
  | var (cs : List V)
  | row (sz : Nat) (es : List V) (ver : Nat) (imm : Bool)
  | map (own : Bool) (sg : Bool × List IntKind) (f : List Int → Option V)

abbrev V.int (k : IntKind) (n : Int) : V := .val (.int k n)
abbrev V.bool (b : Bool) : V := .val (.bool b)

def undefV : V := .tup []
def V.cells : V → List V
  | .agg cs => cs
  | v => [v]
def ofCell : Value → V
  | .slice none 0 0 => .sl [] .nil
  | v => .val v
def ofConst : Value → V
  | .tuple vs => if vs.toList.isEmpty then .tup [] else .any
  | .agg cs => if cs.toList.all Value.oneCell' then .agg (cs.toList.map ofCell) else .any
  | v => ofCell v

structure Env where
  w : World
  φ : Nat → Nat → Option Nat
  τ : Nat → Value
  M : Nat → Nat → Prop
  H : List AB

def Env.bare (E : Env) : Env := { E with φ := fun _ _ => none, H := [] }
/-- A cell that stays as it is. -/
def Env.stab (E : Env) (b o : Nat) (u : Value) : Prop := E.w.cell? ⟨b, o, none⟩ = some u ∧ ¬ E.M b o

mutual
def Rep (E : Env) : V → Value → Prop
  | .any, _ => True
  | .val v, x => x = v ∧ v.oneCell' = true
  | .ptr i o, x => ∃ b, E.φ i 0 = some b ∧ x = .pointer (some ⟨b, o, none⟩)
  | .ptrE i ver idx sz off, x => (∃ a, x = .pointer a) ∧ match E.H[i]? with
    | some (.row _ _ v _) => ver ≤ v ∧ (ver = v → ∃ b, E.φ i ver = some b ∧ x = .pointer (some ⟨b, idx * sz + off, none⟩))
    | some .dead => True
    | _ => False
  | .cp cs, x => ∃ b o, x = .pointer (some ⟨b, o, none⟩) ∧ RepAt E.bare cs b o
  | .sl es m, x => ∃ a n c, x = .slice a n c ∧ n = es.length ∧ n ≤ c ∧ c ≤ maxLen ∧ (m = .nil → x = .slice none 0 0) ∧ (m = .tight → c = n) ∧ (es ≠ [] → ∃ sz b o, a = some ⟨b, o, none⟩ ∧ RepEs E.bare sz es b o)
  | .row i ver, x => (∃ a n c, x = .slice a n c) ∧ match E.H[i]? with
    | some (.row _ _ v _) => ver ≤ v ∧ (ver = v → x = E.τ i)
    | some .dead => True
    | _ => False
  | .vs i off n sz, x => ∃ b c, E.φ i 0 = some b ∧ x = .slice (some ⟨b, off, none⟩) n c ∧ n ≤ c
  | .agg cs, x => ∃ xs : List Value, x = .agg xs.toArray ∧ RepL E cs xs
  | .tup vs, x => ∃ xs : List Value, x = .tuple xs.toArray ∧ RepL E vs xs
  | .fn f first cap, x => ∃ xs ys : List Value, x = .func f xs.toArray ys.toArray ∧ RepL E first xs ∧ RepL E cap ys
  | .iface t v, x => ∃ y, x = .iface t y ∧ Rep E v y
  | .mp i, x => ∃ b, E.φ i 0 = some b ∧ x = .map (some b)
def RepL (E : Env) : List V → List Value → Prop
  | [], xs => xs = []
  | v :: vs, xs => ∃ y ys, xs = y :: ys ∧ Rep E v y ∧ RepL E vs ys
/-- the cells from (b, o) on -/
def RepAt (E : Env) : List V → Nat → Nat → Prop
  | [], _, _ => True
  | v :: vs, b, o => (∃ u, E.stab b o u ∧ Rep E v u) ∧ RepAt E vs b (o + 1)
/-- the elements, of sz cells each -/
def RepEs (E : Env) (sz : Nat) : List V → Nat → Nat → Prop
  | [], _, _ => True
  | .agg cs :: vs, b, o => (cs.length = sz ∧ RepAt E cs b o) ∧ RepEs E sz vs b (o + sz)
  | v :: vs, b, o => (sz = 1 ∧ ∃ u, E.stab b o u ∧ Rep E v u) ∧ RepEs E sz vs b (o + sz)
end

/-! Types. -/
inductive Sh where
  | struct (fs : List (Nat × Nat × Bool))
  | array (n esz : Nat) (eagg : Bool)
  | slice (e esz bytes : Nat)
  | map (k e : Nat)
  | int (k : IntKind)
  | bool
  | str
  | other
/-- flat: a struct of numbers alone, which may be held against another one cell by cell. -/
structure TD where
  size : Nat
  isAgg : Bool
  sh : Sh
  zero : List V
  flat : Bool

def szOf (P : Program) (t : TypeId) : Nat := match P.info? t with | some i => i.size | none => 0
def aggOf (P : Program) (t : TypeId) : Bool := match P.underlying t with
  | some (.struct _) => true
  | some (.array _ _) => true
  | _ => false
def shOf (P : Program) : TypeDesc → Sh
  | .struct fs => if fs.toList.all (fun f => (P.info? f.type).isSome && (P.underlying f.type).isSome) then .struct (fs.toList.map fun f => (f.offset, szOf P f.type, aggOf P f.type)) else .other
  | .array n e => if (P.info? e).isSome && (P.underlying e).isSome then .array n (szOf P e) (aggOf P e) else .other
  | .slice e => match P.info? e with
    | some i => .slice e i.size i.bytes
    | none => .other
  | .map k e => .map k e
  | .int k => .int k
  | .bool => .bool
  | .string => .str
  | _ => .other
def flatOf (P : Program) (t : TypeId) : Bool := match P.underlying t with
  | some (.struct fs) => (fs.size == szOf P t) && !P.stoodInHeld t && !P.eqGuardType P.depth t && fs.toList.zipIdx.all fun f => f.1.name != "_" && f.1.offset == f.2 && (match P.underlying f.1.type with | some (.int _) => true | _ => false)
  | _ => false
def tdOf (P : Program) (t : TypeId) : Option TD :=
  match P.info? t, P.underlying t with
  | some i, some d => match i.zero with
    | some z => if z.cells.toList.all Value.oneCell' then some ⟨i.size, aggOf P t, shOf P d, z.cells.toList.map ofCell, flatOf P t⟩ else none
    | none => none
  | _, _ => none

/-! Parts of values. -/
def takeN : Nat → List V → Option (List V)
  | 0, _ => some []
  | n + 1, c :: cs => (takeN n cs).map (c :: ·)
  | _ + 1, [] => none
def partV (agg : Bool) (n : Nat) (cs : List V) : Option V :=
  if agg then (takeN n cs).map .agg else cs.head?
def over : List V → List V → Option (List V)
  | cs, [] => some cs
  | _ :: cs, x :: xs => (over cs xs).map (x :: ·)
  | [], _ :: _ => none
def splice : List V → Nat → List V → Option (List V)
  | cs, 0, xs => over cs xs
  | c :: cs, n + 1, xs => (splice cs n xs).map (c :: ·)
  | [], _ + 1, _ => none
def idxN (n : Int) : Option Nat := if 0 ≤ n then some n.toNat else none
def oneV : V → Bool
  | .any | .agg _ | .tup _ => false
  | _ => true

structure Upd where
  sets : List (Nat × AB)
  new : Option AB
def Upd.no : Upd := ⟨[], none⟩

abbrev Glob := List (Nat × List V)

def evalO (G : Glob) (fr : List V) : Operand → V
  | .tmp t => fr.getD t undefV
  | .const v => ofConst v
  | .global g => match G.lookup g with
    | some cs => .cp cs
    | none => .any
  | .func f => .fn (.func f) [] []

/-- What may be handed on for good: nothing of the call's own heap in it. -/
def fzRow (H : List AB) (i ver : Nat) : Option V :=
  match H[i]? with
  | some (.row _ es v true) => if ver = v then some (.sl es .plain) else none
  | _ => none
mutual
def fz (H : List AB) : V → Option V
  | .val v => some (.val v)
  | .sl es _ => some (.sl es .plain)
  | .cp cs => some (.cp cs)
  | .row i ver => fzRow H i ver
  | .agg cs => (fzL H cs).map .agg
  | .tup cs => (fzL H cs).map .tup
  | .fn f a b => (fzL H a).bind fun a' => (fzL H b).map fun b' => .fn f a' b'
  | .iface t v => (fz H v).map (.iface t)
  | _ => none
def fzL (H : List AB) : List V → Option (List V)
  | [] => some []
  | v :: vs => (fz H v).bind fun v' => (fzL H vs).map (v' :: ·)
end
mutual
def rowsIn : V → List Nat
  | .row i _ => [i]
  | .agg cs => rowsInL cs
  | .tup cs => rowsInL cs
  | .fn _ a b => rowsInL a ++ rowsInL b
  | .iface _ v => rowsIn v
  | _ => []
def rowsInL : List V → List Nat
  | [] => []
  | v :: vs => rowsIn v ++ rowsInL vs
end
/-- rows that are handed on are written no more -/
def immAt : List AB → Nat → List AB
  | .row sz es v _ :: H, 0 => .row sz es v true :: H
  | h :: H, 0 => h :: H
  | h :: H, n + 1 => h :: immAt H n
  | [], _ => []
def immL (H : List AB) : List Nat → List AB
  | [] => H
  | i :: is => immL (immAt H i) is

def immB : AB → AB
  | .row sz es v _ => .row sz es v true
  | b => b
/-- the same, as a list of changes -/
def immS (H : List AB) : List Nat → List (Nat × AB)
  | [] => []
  | i :: is => (i, immB (H.getD i .dead)) :: immS (immAt H i) is
def cmpI (op : BinOp) (x y : Int) : Option V :=
  match op with
  | .eql => some (.bool (x == y))
  | .neq => some (.bool (x != y))
  | .lss => some (.bool (decide (x < y)))
  | .leq => some (.bool (decide (x ≤ y)))
  | .gtr => some (.bool (decide (x > y)))
  | .geq => some (.bool (decide (x ≥ y)))
  | _ => none
def binI (op : BinOp) (k : IntKind) (x y : Int) : Option V :=
  match op with
  | .add => some (.int k (k.wrap (x + y)))
  | .sub => some (.int k (k.wrap (x - y)))
  | .mul => some (.int k (k.wrap (x * y)))
  | .quo => if y = 0 then none else some (.int k (k.wrap (x.tdiv y)))
  | .rem => if y = 0 then none else some (.int k (x.tmod y))
  | .and => some (.int k (k.wrap (BitVec.ofInt k.bits x &&& BitVec.ofInt k.bits y).toNat))
  | .or => some (.int k (k.wrap (BitVec.ofInt k.bits x ||| BitVec.ofInt k.bits y).toNat))
  | .shl => if y < 0 then none else some (.int k (k.wrap (x * 2 ^ (min y.toNat k.bits))))
  | .shr => if y < 0 then none else some (.int k (x.fdiv (2 ^ (min y.toNat k.bits))))
  | .xor | .andNot => none
  | op => cmpI op x y
/-- cells that are held against one another: numbers -/
def eqCells : List V → List V → Option Bool
  | [], [] => some true
  | .val (.int j a) :: xs, .val (.int k b) :: ys => if j = k then (eqCells xs ys).map ((a == b) && ·) else none
  | _, _ => none
def binV (P : Program) (op : BinOp) (t : TypeId) : V → V → Option V
  | .val (.int k a), .val (.int j b) => if k = j then binI op k a b else none
  | .val (.bool a), .val (.bool b) => match tdOf P t with
    | some d => match d.sh with
      | .bool => match op with
        | .eql => some (.bool (a == b))
        | .neq => some (.bool (a != b))
        | _ => none
      | _ => none
    | none => none
  | .agg xs, .agg ys => match tdOf P t with
    | some d => if d.flat ∧ xs.length = d.size then match op with
        | .eql => (eqCells xs ys).map .bool
        | .neq => (eqCells xs ys).map fun b => .bool (!b)
        | _ => none
      else none
    | none => none
  | _, _ => none
def loadV (H : List AB) (d : TD) : V → Option V
  | .ptr i off => match H[i]? with
    | some (.var cs) => partV d.isAgg d.size (cs.drop off)
    | _ => none
  | .ptrE i ver idx sz off => match H[i]? with
    | some (.row sz' es v _) => if ver = v ∧ sz = sz' then (es[idx]?).bind fun e => partV d.isAgg d.size (e.cells.drop off) else none
    | _ => none
  | .cp cs => partV d.isAgg d.size cs
  | _ => none
def fieldAddrV (H : List AB) (f : Nat × Nat × Bool) : V → Option V
  | .ptr i o => some (.ptr i (o + f.1))
  | .ptrE i ver idx sz o => match H[i]? with
    | some (.row _ _ v _) => if ver = v then some (.ptrE i ver idx sz (o + f.1)) else none
    | _ => none
  | .cp cs => some (.cp (cs.drop f.1))
  | _ => none
def indexAddrV (H : List AB) (sh : Sh) (n : Nat) : V → Option V
  | .sl es _ => match sh with
    | .slice _ esz _ => (es[n]?).bind fun e => if e.cells.length = esz then some (.cp e.cells) else none
    | _ => none
  | .row i ver => match sh, H[i]? with
    | .slice _ esz _, some (.row sz es v _) => if ver = v ∧ sz = esz ∧ n < es.length then some (.ptrE i ver n sz 0) else none
    | _, _ => none
  | .vs i off k sz => match sh with
    | .slice _ esz _ => if sz = esz ∧ n < k then some (.ptr i (off + n * sz)) else none
    | _ => none
  | .ptr i o => match sh with
    | .array k esz _ => if n < k then some (.ptr i (o + n * esz)) else none
    | _ => none
  | .cp cs => match sh with
    | .array k esz _ => if n < k then some (.cp (cs.drop (n * esz))) else none
    | _ => none
  | _ => none
def storeV (H : List AB) (xs : List V) : V → Option Upd
  | .ptr i off => match H[i]? with
    | some (.var cs) => (splice cs off xs).map fun cs' => ⟨[(i, .var cs')], none⟩
    | _ => none
  | .ptrE i ver idx sz off => match H[i]? with
    | some (.row sz' es v false) => if ver = v ∧ sz = sz' then (fzL H xs).bind fun xs => (es[idx]?).bind fun e => (splice e.cells off xs).bind fun cs' => match e, cs' with
        | .agg _, _ => some ⟨[(i, .row sz' (es.set idx (.agg cs')) v false)], none⟩
        | _, [.agg _] => none
        | _, [c] => some ⟨[(i, .row sz' (es.set idx c) v false)], none⟩
        | _, _ => none
      else none
    | _ => none
  | _ => none
def sliceV (lo hi mx : Option Nat) : V → Option V
  | .sl es _ =>
    let h := hi.getD es.length
    let l := lo.getD 0
    if l ≤ h ∧ h ≤ es.length ∧ h ≤ mx.getD h ∧ mx.getD h ≤ es.length then some (.sl ((es.take h).drop l) (if mx = some h then .tight else .plain)) else none
  | _ => none
def optN (G : Glob) (fr : List V) : Option Operand → Option (Option Nat)
  | none => some none
  | some o => match evalO G fr o with
    | .val (.int _ n) => (idxN n).map some
    | _ => none
def buildV (fs : List (Nat × Nat × Bool)) : List V → List (Nat × V) → Option (List V)
  | cs, [] => some cs
  | cs, (i, v) :: ps => match fs[i]? with
    | some (off, sz, _) => if v.cells.length = sz ∧ v.cells.all oneV then (splice cs off v.cells).bind fun cs' => buildV fs cs' ps else none
    | none => none
def inOrder : Nat → List (Nat × V) → Option (List V)
  | _, [] => some []
  | i, (j, v) :: ps => if j = i then (inOrder (i + 1) ps).map (v :: ·) else none

def lenV (H : List AB) (sh : Sh) : V → Option (V × Upd)
  | .sl es _ => match sh with
    | .slice _ _ _ => some (.int .i64 es.length, .no)
    | _ => none
  | .row i ver => match sh, H[i]? with
    | .slice _ _ _, some (.row _ es v _) => if ver = v then some (.int .i64 es.length, .no) else none
    | _, _ => none
  | .vs _ _ n _ => match sh with
    | .slice _ _ _ => some (.int .i64 n, .no)
    | _ => none
  | .val (.string s) => match sh with
    | .str => some (.int .i64 s.size, .no)
    | _ => none
  | _ => none
/-- cells that fit -/
def chk : Nat → List V → Bool
  | 0, [] => true
  | n + 1, x :: xs => oneV x && chk n xs
  | _, _ => false
def okE (sz : Nat) (e : V) : Bool := chk sz e.cells
/-- the elements of a slice that is read -/
def srcV (H : List AB) : V → Option (List V)
  | .sl es _ => some es
  | .row j ver => match H[j]? with
    | some (.row _ es v _) => if ver = v then some es else none
    | _ => none
  | _ => none
/-- the cells of an element, for an append at those types -/
def appT (P : Program) (t tx : TypeId) : Option Nat := match tdOf P t, tdOf P tx with
  | some d, some dx => match d.sh, dx.sh with
    | .slice e esz by_, .slice _ _ _ => match tdOf P e with
      | some de => if de.zero.length = esz ∧ by_ ≤ 128 then some esz else none
      | none => none
    | _, _ => none
  | _, _ => none
def appR (H : List AB) (nid esz : Nat) (xs : List V) : V → Option (Bool × V × Upd)
  | .sl es .plain => none
  | .sl es m => some ((es ++ xs).all (okE esz) && decide (es.length + xs.length ≤ 1099511627776), bif es.isEmpty || !xs.isEmpty then (.row nid 0, ⟨[], some (.row esz (es ++ xs) 0 false)⟩) else (.sl es m, .no))
  | .row i ver => match H[i]? with
    | some (.row sz es v imm) => if ver = v ∧ sz = esz then some (xs.all (okE esz) && decide (es.length + xs.length ≤ 1099511627776), .row i (ver + 1), ⟨[(i, .row esz (es ++ xs) (ver + 1) imm)], none⟩) else none
    | _ => none
  | _ => none
/-- a slice expression's bounds -/
def slcB (n : Nat) (lo hi mx : Option Nat) : Bool :=
  decide (lo.getD 0 ≤ hi.getD n) && decide (hi.getD n ≤ n) && decide (hi.getD n ≤ mx.getD (hi.getD n)) && decide (mx.getD (hi.getD n) ≤ n) && (mx.isNone || hi.isSome)
def slcM (n : Nat) (hi mx : Option Nat) : Mk := bif mx.isSome && (mx == some (hi.getD n)) then .tight else .plain
def lenE' (sz : Nat) (e : V) : Bool := decide (e.cells.length = sz)
def slcR (H : List AB) (esz : Nat) (lo hi mx : Option Nat) : V → Option (Bool × V × Upd)
  | .sl es _ => some (slcB es.length lo hi mx && es.all (lenE' esz), .sl ((es.take (hi.getD es.length)).drop (lo.getD 0)) (slcM es.length hi mx), .no)
  | .row i ver => match H[i]? with
    | some (.row sz es v imm) => if ver = v ∧ sz = esz then some (slcB es.length lo hi mx, .sl ((es.take (hi.getD es.length)).drop (lo.getD 0)) (slcM es.length hi mx), ⟨[(i, .row sz es v true)], none⟩) else none
    | _ => none
  | _ => none
def slcT (P : Program) (t : TypeId) : Option Nat := match tdOf P t with
  | some d => match d.sh with
    | .slice _ esz _ => some esz
    | _ => none
  | none => none
def ifcT (P : Program) (t : TypeId) : Bool := match tdOf P t with
  | some d => match d.sh with
    | .other => false
    | _ => true
  | none => false
def ifc (t : TypeId) : V → Option V
  | .any => none
  | .tup _ => none
  | v => some (.iface t v)
def condR : Option (Bool × V × Upd) → Option (V × Upd)
  | some (true, r) => some r
  | _ => none
/-- A map's keys: numbers (a struct's or one alone), of kinds; and what they are as values. -/
abbrev KS := Bool × List IntKind
def intsOf : List IntKind → List V → Option (List Int)
  | [], [] => some []
  | k :: ks, .val (.int j n) :: xs => if j = k then (intsOf ks xs).map (n :: ·) else none
  | _, _ => none
def keyI : KS → V → Option (List Int)
  | (true, ks), .agg xs => intsOf ks xs
  | (false, ks), v => intsOf ks [v]
  | _, _ => none
def kindsOf : List V → Option (List IntKind)
  | [] => some []
  | .val (.int k _) :: xs => (kindsOf xs).map (k :: ·)
  | _ => none
def sgT (P : Program) (t : TypeId) : Option KS := match tdOf P t with
  | some d => match d.sh with
    | .int k => some (false, [k])
    | _ => if d.flat then match kindsOf d.zero with
        | some ks => if ks.length = d.size then some (true, ks) else none
        | none => none
      else none
  | none => none
def eqIs : List Int → List Int → Bool
  | [], [] => true
  | a :: as, b :: bs => (a == b) && eqIs as bs
  | _, _ => false
def noF : List Int → Option V := fun _ => none
def updF (f : List Int → Option V) (k : List Int) (x : V) : List Int → Option V := fun q => bif eqIs q k then some x else f q
/-- a type's zero value -/
def ofCellP : Value → V
  | .slice none 0 0 => .sl [] .plain
  | v => .val v
def zeroT (P : Program) (t : TypeId) : Option V := match P.info? t with
  | some i => match i.zero with
    | some (.agg cs) => if cs.toList.all Value.oneCell' then some (.agg (cs.toList.map ofCellP)) else none
    | some v => if v.oneCell' then some (ofCellP v) else none
    | none => none
  | none => none
def lookR (ok : Bool) (z : V) : Option V → V
  | some v => bif ok then .tup [v, .bool true] else v
  | none => bif ok then .tup [z, .bool false] else z
def mapT (P : Program) (t : TypeId) : Option (TypeId × TypeId) := match tdOf P t with
  | some d => match d.sh with
    | .map k e => some (k, e)
    | _ => none
  | none => none
def insV (H : List AB) (own : Bool) (x : V) : Bool × V := match fz H x with
  | some x' => (own, x')
  | none => (true, x)
def insR (P : Program) (H : List AB) (kt : TypeId) (m k x : V) : Option (List (Nat × AB)) := match m with
  | .mp i => match H[i]? with
    | some (.map own sg f) => if sgT P kt = some sg then (match keyI sg k with
      | some q => some [(i, .map (insV H own x).1 sg (updF f q (insV H own x).2))]
      | none => none) else none
    | _ => none
  | _ => none
def lkR (P : Program) (H : List AB) (kt et : TypeId) (ok : Bool) (m k : V) : Option V := match m with
  | .mp i => match H[i]? with
    | some (.map _ sg f) => if sgT P kt = some sg then (keyI sg k).bind fun q => (zeroT P et).map fun z => lookR ok z (f q) else none
    | _ => none
  | _ => none
/-- a slice literal: of what may be handed on, or of the call's own -/
def bsR (H : List AB) (nid esz n : Nat) (z : Bool) (vs : List V) : Option (List V) → Option (Bool × V × Upd)
  | some es => some (decide (es.length = n) && es.all (fun e => decide (e.cells.length = esz)) && decide (0 < esz) && decide (n * esz ≤ 16777216) && z, .sl es .tight, ⟨immS H (rowsInL vs), none⟩)
  | none => some (decide (vs.length = n) && vs.all (fun e => chk esz e.cells) && decide (0 < esz) && decide (n * esz ≤ 16777216) && z, .vs nid 0 n esz, ⟨[], some (.var (vs.flatMap V.cells))⟩)
/-- What an operation yields, and what it does to the heap; nid: the number that a new block gets. -/
def eff (P : Program) (G : Glob) (fr : List V) (H : List AB) (nid : Nat) : Op → Option (V × Upd)
  | .move x => some (evalO G fr x, .no)
  | .assign x => some (evalO G fr x, .no)
  | .pick c a b => match evalO G fr c with
    | .val (.bool t) => some (bif t then evalO G fr a else evalO G fr b, .no)
    | _ => none
  | .alloc t => (tdOf P t).map fun d => (.ptr nid 0, ⟨[], some (.var d.zero)⟩)
  | .box _ x => match evalO G fr x with
    | .any => none
    | .tup _ => none
    | v => some (.ptr nid 0, ⟨[], some (.var v.cells)⟩)
  | .build t ps => (tdOf P t).bind fun d => match d.sh with
    | .struct fs => (buildV fs d.zero (ps.toList.map fun p => (p.1, evalO G fr p.2))).map fun cs => (.agg cs, .no)
    | _ => none
  | .buildSlice t n ps => (tdOf P t).bind fun d => match d.sh with
    | .slice e esz _ => (inOrder 0 (ps.toList.map fun p => (p.1, evalO G fr p.2))).bind fun vs => condR (bsR H nid esz n (tdOf P e).isSome vs (fzL (immL H (rowsInL vs)) vs))
    | _ => none
  | .load t a => (tdOf P t).bind fun d => (loadV H d (evalO G fr a)).map fun v => (v, .no)
  | .store t a x => (tdOf P t).bind fun d =>
      if (evalO G fr x).cells.length = d.size ∧ (evalO G fr x).cells.all oneV then (storeV H (evalO G fr x).cells (evalO G fr a)).map fun u => (undefV, u) else none
  | .nilCheck x => match evalO G fr x with
    | .ptr i o => some (.ptr i o, .no)
    | .cp cs => some (.cp cs, .no)
    | .iface t v => some (.iface t v, .no)
    | .fn (.func f) a b => some (.fn (.func f) a b, .no)
    | _ => none
  | .fieldAddr t x f => (tdOf P t).bind fun d => match d.sh with
    | .struct fs => (fs[f]?).bind fun fd => if fd.2.1 = 0 then none else (fieldAddrV H fd (evalO G fr x)).map fun v => (v, .no)
    | _ => none
  | .field t x f => (tdOf P t).bind fun d => match d.sh, evalO G fr x with
    | .struct fs, .agg cs => (fs[f]?).bind fun fd => (partV fd.2.2 fd.2.1 (cs.drop fd.1)).map fun v => (v, .no)
    | _, _ => none
  | .indexAddr t x ix => (tdOf P t).bind fun d => match evalO G fr ix with
    | .val (.int _ n) => (idxN n).bind fun n => (indexAddrV H d.sh n (evalO G fr x)).map fun v => (v, .no)
    | _ => none
  | .index t x ix => (tdOf P t).bind fun d => match d.sh, evalO G fr x, evalO G fr ix with
    | .array k esz ea, .agg cs, .val (.int _ n) => (idxN n).bind fun n => if n < k then (partV ea esz (cs.drop (n * esz))).map fun v => (v, .no) else none
    | _, _, _ => none
  | .binOp op t x y _ => (binV P op t (evalO G fr x) (evalO G fr y)).map fun v => (v, .no)
  | .unOp op _ x => match op, evalO G fr x with
    | .not, .val (.bool b) => some (.bool (!b), .no)
    | .neg, .val (.int k n) => some (.int k (k.wrap (0 - n)), .no)
    | _, _ => none
  | .convert s t x => (tdOf P s).bind fun ds => (tdOf P t).bind fun d => match ds.sh, d.sh, evalO G fr x with
    | .int _, .int k, .val (.int _ n) => some (.int k (k.wrap n), .no)
    | _, _, _ => none
  | .makeFunc f a b => some (.fn f (a.toList.map (evalO G fr)) (b.toList.map (evalO G fr)), .no)
  | .extract x i => match evalO G fr x with
    | .tup vs => (vs[i]?).map fun v => (v, .no)
    | _ => none
  | .call c => match c.callee with
    | .builtin .len => match c.args.toList, c.argTypes.toList with
      | [x], [t] => match tdOf P t with
        | some d => lenV H d.sh (evalO G fr x)
        | none => none
      | _, _ => none
    | .builtin .append => match c.args.toList, c.argTypes.toList with
      | [x, y], [t, tx] => (appT P t tx).bind fun esz => (srcV H (evalO G fr y)).bind fun xs => condR (appR H nid esz xs (evalO G fr x))
      | _, _ => none
    | _ => none
  | .slice t x lo hi mx => (slcT P t).bind fun esz => (optN G fr lo).bind fun lo => (optN G fr hi).bind fun hi => (optN G fr mx).bind fun mx => condR (slcR H esz lo hi mx (evalO G fr x))
  | .makeMap t none => (mapT P t).bind fun kt => (sgT P kt.1).map fun sg => (.mp nid, ⟨[], some (.map false sg noF)⟩)
  | .insert t m k x => (mapT P t).bind fun kt => (insR P H kt.1 (evalO G fr m) (evalO G fr k) (evalO G fr x)).map fun s => (undefV, ⟨s, none⟩)
  | .mapUpdate t m k x => (mapT P t).bind fun kt => (insR P H kt.1 (evalO G fr m) (evalO G fr k) (evalO G fr x)).map fun s => (undefV, ⟨s, none⟩)
  | .lookup t m k ok => (mapT P t).bind fun kt => (lkR P H kt.1 kt.2 ok (evalO G fr m) (evalO G fr k)).map fun v => (v, .no)
  | .makeInterface t x => bif ifcT P t then (ifc t (evalO G fr x)).map fun v => (v, .no) else none
  | _ => none

/-! The code. -/
inductive It where
  | code (c : Code)
  | ops (all l : List Oper)
  | blk (id : Nat)
  | ret (rs : List ResultVar) (dst : Option Tmp)
  | fin (rs : List ResultVar)
  | inv (J : List Act → Act → World → Prop)

structure Cfg where
  k : List It
  fr : List V
  st : List (List V)
  H : List AB

def putV (fr : List V) (d : Option Tmp) (v : V) : List V := match d with
  | some t => fr.set t v
  | none => fr
def setH (H : List AB) : List (Nat × AB) → List AB
  | [] => H
  | (i, b) :: r => setH (H.set i b) r
def applyU (H : List AB) (u : Upd) : List AB := match u.new with
  | some b => setH H u.sets ++ [b]
  | none => setH H u.sets
def guardV (all : List Oper) (fr : List V) (o : Oper) : Option Bool :=
  match o.guard with
  | none => some true
  | some (j, want) => match (all[j]?).bind (·.dst) with
    | none => some false
    | some t => match fr.getD t undefV with
      | .val (.bool b) => some (b == want)
      | .tup _ => some false
      | _ => none
def toRet : List It → List It
  | .ret rs d :: k => .ret rs d :: k
  | .fin rs :: k => .fin rs :: k
  | _ :: k => toRet k
  | [] => []
def toBlk (id : Nat) : List It → Option (List It)
  | [] => none
  | .blk j :: k => if j = id then some k else toBlk id k
  | .ret _ _ :: _ => none
  | .fin _ :: _ => none
  | _ :: k => toBlk id k
def resOne (P : Program) (fr : List V) (H : List AB) : ResultVar → Option V
  | .tmp t => some (fr.getD t undefV)
  | .cell a t => (tdOf P t).bind fun d => loadV H d (fr.getD a undefV)
def resL (P : Program) (fr : List V) (H : List AB) : List ResultVar → Option (List V)
  | [] => some []
  | r :: rs => (resOne P fr H r).bind fun v => (resL P fr H rs).map (v :: ·)
def resV : List V → V
  | [v] => v
  | vs => .tup vs
def opStep (P : Program) (G : Glob) (all : List Oper) (o : Oper) (l : List Oper) (k : List It) (fr : List V) (st : List (List V)) (H : List AB) : Option Cfg :=
  match o.guard with
  | none => (eff P G fr H H.length o.op).map fun r => ⟨.ops all l :: k, putV fr o.dst r.1, st, applyU H r.2⟩
  | some _ => match guardV all fr o with
    | some true => some ⟨.ops all ({ o with guard := none } :: l) :: k, fr, st, H⟩
    | some false => some ⟨.ops all l :: k, putV fr o.dst undefV, st, H⟩
    | none => none
def step (P : Program) (G : Glob) : Cfg → Option Cfg
  | ⟨.code c :: k, fr, st, H⟩ => match c with
    | .seq a b => some ⟨.code a :: .code b :: k, fr, st, H⟩
    | .skip => some ⟨k, fr, st, H⟩
    | .block id b => some ⟨.code b :: .blk id :: k, fr, st, H⟩
    | .region _ ops false => some ⟨.ops ops.toList ops.toList :: k, fr, st, H⟩
    | .cond c a b => match evalO G fr c with
      | .val (.bool t) => some ⟨.code (bif t then a else b) :: k, fr, st, H⟩
      | _ => none
    | .exit id => (toBlk id k).map fun k => ⟨k, fr, st, H⟩
    | .ret => some ⟨toRet k, fr, st, H⟩
    | _ => none
  | ⟨.blk _ :: k, fr, st, H⟩ => some ⟨k, fr, st, H⟩
  | ⟨.ops _ [] :: k, fr, st, H⟩ => some ⟨k, fr, st, H⟩
  | ⟨.ops all (o :: l) :: k, fr, st, H⟩ => opStep P G all o l k fr st H
  | ⟨.ret rs dst :: k, fr, f :: st, H⟩ => (resL P fr H rs).map fun vs => ⟨k, putV f dst (resV vs), st, H⟩
  | _ => none
end Go.Ab
