/- The abstract machine: deep values, local heap, one step of the code. Definitions alone. -/
import Derived.Below
import Derived.WalkKit
import Derived.Deep.MidRow
import Derived.Great.BuildSlice
set_option linter.unusedVariables false
namespace Go.Ab
open Go Go.RowKit

inductive Mk where
  | plain | nil | tight
  deriving DecidableEq

/-- A deep value. -/
inductive V where
  | any
  | val (v : Value)
  | ptr (i off : Nat)
  | ptrE (i ver idx sz off : Nat)
  | cp (cs : List V)
  | sl (es : List V) (m : Mk)
  | row (i ver : Nat)
  | vs (i off n sz : Nat)
  | agg (cs : List V)
  | tup (vs : List V)
  | fn (f : Fn) (first cap : List V)
  | iface (t : TypeId) (v : V)
  | mp (i : Nat)

/-- A block of the call's own. -/
inductive AB where
  | dead
  | hole
  | var (cs : List V)
  | row (sz : Nat) (es : List V) (ver : Nat) (imm : Bool)
  | map (own : Bool) (sg : Bool × List IntKind) (f : List Int → Option V)
  | dfr (D : Nat)
  | lp (l : Nat) (s : LoopState) (pend : Option Code) (fr : List V) (ps : List Tmp) (asg body : Code)

abbrev V.int (k : IntKind) (n : Int) : V := .val (.int k n)
abbrev V.bool (b : Bool) : V := .val (.bool b)

def undefV : V := .tup []
def V.cells : V → List V
  | .agg cs => cs
  | v => [v]
def ofCell : Value → V
  | .slice none 0 0 => .sl [] .nil
  | v => .val v
def ofConst : Value → V
  | .tuple vs => if vs.toList.isEmpty then .tup [] else .any
  | .agg cs => if cs.toList.all Value.oneCell' then .agg (cs.toList.map ofCell) else .any
  | v => ofCell v

structure Env where
  w : World
  φ : Nat → Nat → Option Nat
  τ : Nat → Value
  M : Nat → Nat → Prop
  H : List AB

def Env.bare (E : Env) : Env := { E with φ := fun _ _ => none, H := [] }
/-- A cell that stays as it is. -/
def Env.stab (E : Env) (b o : Nat) (u : Value) : Prop := E.w.cell? ⟨b, o, none⟩ = some u ∧ ¬ E.M b o

mutual
def Rep (E : Env) : V → Value → Prop
  | .any, _ => True
  | .val v, x => x = v ∧ v.oneCell' = true
  | .ptr i o, x => ∃ b, E.φ i 0 = some b ∧ x = .pointer (some ⟨b, o, none⟩)
  | .ptrE i ver idx sz off, x => (∃ a, x = .pointer a) ∧ match E.H[i]? with
    | some (.row _ _ v _) => ver ≤ v ∧ (ver = v → ∃ b, E.φ i ver = some b ∧ x = .pointer (some ⟨b, idx * sz + off, none⟩))
    | some .dead => True
    | _ => False
  | .cp cs, x => ∃ b o, x = .pointer (some ⟨b, o, none⟩) ∧ RepAt E.bare cs b o
  | .sl es m, x => ∃ a n c, x = .slice a n c ∧ n = es.length ∧ n ≤ c ∧ c ≤ maxLen ∧ (m = .nil → x = .slice none 0 0) ∧ (m = .tight → c = n) ∧ (es ≠ [] → ∃ sz b o, a = some ⟨b, o, none⟩ ∧ RepEs E.bare sz es b o)
  | .row i ver, x => (∃ a n c, x = .slice a n c) ∧ match E.H[i]? with
    | some (.row _ _ v _) => ver ≤ v ∧ (ver = v → x = E.τ i)
    | some .dead => True
    | _ => False
  | .vs i off n sz, x => ∃ b c, E.φ i 0 = some b ∧ x = .slice (some ⟨b, off, none⟩) n c ∧ n ≤ c
  | .agg cs, x => ∃ xs : List Value, x = .agg xs.toArray ∧ RepL E cs xs
  | .tup vs, x => ∃ xs : List Value, x = .tuple xs.toArray ∧ RepL E vs xs
  | .fn f first cap, x => ∃ xs ys : List Value, x = .func f xs.toArray ys.toArray ∧ RepL E first xs ∧ RepL E cap ys
  | .iface t v, x => ∃ y, x = .iface t y ∧ Rep E v y
  | .mp i, x => ∃ b, E.φ i 0 = some b ∧ x = .map (some b)
def RepL (E : Env) : List V → List Value → Prop
  | [], xs => xs = []
  | v :: vs, xs => ∃ y ys, xs = y :: ys ∧ Rep E v y ∧ RepL E vs ys
/-- the cells from (b, o) on -/
def RepAt (E : Env) : List V → Nat → Nat → Prop
  | [], _, _ => True
  | v :: vs, b, o => (∃ u, E.stab b o u ∧ Rep E v u) ∧ RepAt E vs b (o + 1)
/-- the elements, of sz cells each -/
def RepEs (E : Env) (sz : Nat) : List V → Nat → Nat → Prop
  | [], _, _ => True
  | .agg cs :: vs, b, o => (cs.length = sz ∧ RepAt E cs b o) ∧ RepEs E sz vs b (o + sz)
  | v :: vs, b, o => (sz = 1 ∧ ∃ u, E.stab b o u ∧ Rep E v u) ∧ RepEs E sz vs b (o + sz)
end

/-! Types. -/
inductive Sh where
  | struct (fs : List (Nat × Nat × Bool))
  | array (n esz : Nat) (eagg : Bool)
  | slice (e esz bytes : Nat)
  | map (k e : Nat)
  | int (k : IntKind)
  | bool
  | str
  | other
/-- flat: a struct of numbers alone, which may be held against another one cell by cell. -/
structure TD where
  size : Nat
  isAgg : Bool
  sh : Sh
  zero : List V
  flat : Bool

def szOf (P : Program) (t : TypeId) : Nat := match P.info? t with | some i => i.size | none => 0
def aggOf (P : Program) (t : TypeId) : Bool := match P.underlying t with
  | some (.struct _) => true
  | some (.array _ _) => true
  | _ => false
def shOf (P : Program) : TypeDesc → Sh
  | .struct fs => if fs.toList.all (fun f => (P.info? f.type).isSome && (P.underlying f.type).isSome) then .struct (fs.toList.map fun f => (f.offset, szOf P f.type, aggOf P f.type)) else .other
  | .array n e => if (P.info? e).isSome && (P.underlying e).isSome then .array n (szOf P e) (aggOf P e) else .other
  | .slice e => match P.info? e with
    | some i => .slice e i.size i.bytes
    | none => .other
  | .map k e => .map k e
  | .int k => .int k
  | .bool => .bool
  | .string => .str
  | _ => .other
def flatOf (P : Program) (t : TypeId) : Bool := match P.underlying t with
  | some (.struct fs) => (fs.size == szOf P t) && !P.stoodInHeld t && !P.eqGuardType P.depth t && fs.toList.zipIdx.all fun f => f.1.name != "_" && f.1.offset == f.2 && (match P.underlying f.1.type with | some (.int _) => true | _ => false)
  | _ => false
def tdOf (P : Program) (t : TypeId) : Option TD :=
  match P.info? t, P.underlying t with
  | some i, some d => match i.zero with
    | some z => if z.cells.toList.all Value.oneCell' then some ⟨i.size, aggOf P t, shOf P d, z.cells.toList.map ofCell, flatOf P t⟩ else none
    | none => none
  | _, _ => none

/-! Parts of values. -/
def takeN : Nat → List V → Option (List V)
  | 0, _ => some []
  | n + 1, c :: cs => (takeN n cs).map (c :: ·)
  | _ + 1, [] => none
def partV (agg : Bool) (n : Nat) (cs : List V) : Option V :=
  if agg then (takeN n cs).map .agg else cs.head?
def over : List V → List V → Option (List V)
  | cs, [] => some cs
  | _ :: cs, x :: xs => (over cs xs).map (x :: ·)
  | [], _ :: _ => none
def splice : List V → Nat → List V → Option (List V)
  | cs, 0, xs => over cs xs
  | c :: cs, n + 1, xs => (splice cs n xs).map (c :: ·)
  | [], _ + 1, _ => none
def idxN (n : Int) : Option Nat := if 0 ≤ n then some n.toNat else none
def oneV : V → Bool
  | .any | .agg _ | .tup _ => false
  | _ => true

structure Upd where
  sets : List (Nat × AB)
  new : Option AB
def Upd.no : Upd := ⟨[], none⟩

abbrev Glob := List (Nat × List V)

def evalO (G : Glob) (fr : List V) : Operand → V
  | .tmp t => fr.getD t undefV
  | .const v => ofConst v
  | .global g => match G.lookup g with
    | some cs => .cp cs
    | none => .any
  | .func f => .fn (.func f) [] []

/-- What may be handed on for good: nothing of the call's own heap in it. -/
def fzRow (H : List AB) (i ver : Nat) : Option V :=
  match H[i]? with
  | some (.row _ es v true) => if ver = v then some (.sl es .plain) else none
  | _ => none
mutual
def fz (H : List AB) : V → Option V
  | .val v => some (.val v)
  | .sl es _ => some (.sl es .plain)
  | .cp cs => some (.cp cs)
  | .row i ver => fzRow H i ver
  | .agg cs => (fzL H cs).map .agg
  | .tup cs => (fzL H cs).map .tup
  | .fn f a b => (fzL H a).bind fun a' => (fzL H b).map fun b' => .fn f a' b'
  | .iface t v => (fz H v).map (.iface t)
  | _ => none
def fzL (H : List AB) : List V → Option (List V)
  | [] => some []
  | v :: vs => (fz H v).bind fun v' => (fzL H vs).map (v' :: ·)
end
mutual
def rowsIn : V → List Nat
  | .row i _ => [i]
  | .agg cs => rowsInL cs
  | .tup cs => rowsInL cs
  | .fn _ a b => rowsInL a ++ rowsInL b
  | .iface _ v => rowsIn v
  | _ => []
def rowsInL : List V → List Nat
  | [] => []
  | v :: vs => rowsIn v ++ rowsInL vs
end
/-- rows that are handed on are written no more -/
def immAt : List AB → Nat → List AB
  | .row sz es v _ :: H, 0 => .row sz es v true :: H
  | h :: H, 0 => h :: H
  | h :: H, n + 1 => h :: immAt H n
  | [], _ => []
def immL (H : List AB) : List Nat → List AB
  | [] => H
  | i :: is => immL (immAt H i) is

def immB : AB → AB
  | .row sz es v _ => .row sz es v true
  | b => b
/-- the same, as a list of changes -/
def immS (H : List AB) : List Nat → List (Nat × AB)
  | [] => []
  | i :: is => (i, immB (H.getD i .dead)) :: immS (immAt H i) is
def cmpI (op : BinOp) (x y : Int) : Option V :=
  match op with
  | .eql => some (.bool (x == y))
  | .neq => some (.bool (x != y))
  | .lss => some (.bool (decide (x < y)))
  | .leq => some (.bool (decide (x ≤ y)))
  | .gtr => some (.bool (decide (x > y)))
  | .geq => some (.bool (decide (x ≥ y)))
  | _ => none
def binI (op : BinOp) (k : IntKind) (x y : Int) : Option V :=
  match op with
  | .add => some (.int k (k.wrap (x + y)))
  | .sub => some (.int k (k.wrap (x - y)))
  | .mul => some (.int k (k.wrap (x * y)))
  | .quo => if y = 0 then none else some (.int k (k.wrap (x.tdiv y)))
  | .rem => if y = 0 then none else some (.int k (x.tmod y))
  | .and => some (.int k (k.wrap (BitVec.ofInt k.bits x &&& BitVec.ofInt k.bits y).toNat))
  | .or => some (.int k (k.wrap (BitVec.ofInt k.bits x ||| BitVec.ofInt k.bits y).toNat))
  | .shl => if y < 0 then none else some (.int k (k.wrap (x * 2 ^ (min y.toNat k.bits))))
  | .shr => if y < 0 then none else some (.int k (x.fdiv (2 ^ (min y.toNat k.bits))))
  | .xor | .andNot => none
  | op => cmpI op x y
/-- cells that are held against one another: numbers -/
def eqCells : List V → List V → Option Bool
  | [], [] => some true
  | .val (.int j a) :: xs, .val (.int k b) :: ys => if j = k then (eqCells xs ys).map ((a == b) && ·) else none
  | _, _ => none
def isSh : BinOp → Bool
  | .shl => true
  | .shr => true
  | _ => false
def binV (P : Program) (op : BinOp) (t : TypeId) : V → V → Option V
  | .val (.int k a), .val (.int j b) => if k = j ∨ isSh op = true then binI op k a b else none
  | .val (.bool a), .val (.bool b) => match tdOf P t with
    | some d => match d.sh with
      | .bool => match op with
        | .eql => some (.bool (a == b))
        | .neq => some (.bool (a != b))
        | _ => none
      | _ => none
    | none => none
  | .agg xs, .agg ys => match tdOf P t with
    | some d => if d.flat ∧ xs.length = d.size then match op with
        | .eql => (eqCells xs ys).map .bool
        | .neq => (eqCells xs ys).map fun b => .bool (!b)
        | _ => none
      else none
    | none => none
  | _, _ => none
def loadV (H : List AB) (d : TD) : V → Option V
  | .ptr i off => match H[i]? with
    | some (.var cs) => partV d.isAgg d.size (cs.drop off)
    | _ => none
  | .ptrE i ver idx sz off => match H[i]? with
    | some (.row sz' es v _) => if ver = v ∧ sz = sz' then (es[idx]?).bind fun e => partV d.isAgg d.size (e.cells.drop off) else none
    | _ => none
  | .cp cs => partV d.isAgg d.size cs
  | _ => none
def fieldAddrV (H : List AB) (f : Nat × Nat × Bool) : V → Option V
  | .ptr i o => some (.ptr i (o + f.1))
  | .ptrE i ver idx sz o => match H[i]? with
    | some (.row _ _ v _) => if ver = v then some (.ptrE i ver idx sz (o + f.1)) else none
    | _ => none
  | .cp cs => some (.cp (cs.drop f.1))
  | _ => none
def indexAddrV (H : List AB) (sh : Sh) (n : Nat) : V → Option V
  | .sl es _ => match sh with
    | .slice _ esz _ => (es[n]?).bind fun e => if e.cells.length = esz then some (.cp e.cells) else none
    | _ => none
  | .row i ver => match sh, H[i]? with
    | .slice _ esz _, some (.row sz es v _) => if ver = v ∧ sz = esz ∧ n < es.length then some (.ptrE i ver n sz 0) else none
    | _, _ => none
  | .vs i off k sz => match sh with
    | .slice _ esz _ => if sz = esz ∧ n < k then some (.ptr i (off + n * sz)) else none
    | _ => none
  | .ptr i o => match sh with
    | .array k esz _ => if n < k then some (.ptr i (o + n * esz)) else none
    | _ => none
  | .cp cs => match sh with
    | .array k esz _ => if n < k then some (.cp (cs.drop (n * esz))) else none
    | _ => none
  | _ => none
def storeV (H : List AB) (xs : List V) : V → Option Upd
  | .ptr i off => match H[i]? with
    | some (.var cs) => (splice cs off xs).map fun cs' => ⟨[(i, .var cs')], none⟩
    | _ => none
  | .ptrE i ver idx sz off => match H[i]? with
    | some (.row sz' es v false) => if ver = v ∧ sz = sz' then (fzL H xs).bind fun xs => (es[idx]?).bind fun e => (splice e.cells off xs).bind fun cs' => match e, cs' with
        | .agg _, _ => some ⟨[(i, .row sz' (es.set idx (.agg cs')) v false)], none⟩
        | _, [.agg _] => none
        | _, [c] => some ⟨[(i, .row sz' (es.set idx c) v false)], none⟩
        | _, _ => none
      else none
    | _ => none
  | _ => none
def sliceV (lo hi mx : Option Nat) : V → Option V
  | .sl es _ =>
    let h := hi.getD es.length
    let l := lo.getD 0
    if l ≤ h ∧ h ≤ es.length ∧ h ≤ mx.getD h ∧ mx.getD h ≤ es.length then some (.sl ((es.take h).drop l) (if mx = some h then .tight else .plain)) else none
  | _ => none
def optN (G : Glob) (fr : List V) : Option Operand → Option (Option Nat)
  | none => some none
  | some o => match evalO G fr o with
    | .val (.int _ n) => (idxN n).map some
    | _ => none
def buildV (fs : List (Nat × Nat × Bool)) : List V → List (Nat × V) → Option (List V)
  | cs, [] => some cs
  | cs, (i, v) :: ps => match fs[i]? with
    | some (off, sz, _) => if v.cells.length = sz ∧ v.cells.all oneV then (splice cs off v.cells).bind fun cs' => buildV fs cs' ps else none
    | none => none
def inOrder : Nat → List (Nat × V) → Option (List V)
  | _, [] => some []
  | i, (j, v) :: ps => if j = i then (inOrder (i + 1) ps).map (v :: ·) else none

def lenV (H : List AB) (sh : Sh) : V → Option (V × Upd)
  | .sl es _ => match sh with
    | .slice _ _ _ => some (.int .i64 es.length, .no)
    | _ => none
  | .row i ver => match sh, H[i]? with
    | .slice _ _ _, some (.row _ es v _) => if ver = v then some (.int .i64 es.length, .no) else none
    | _, _ => none
  | .vs _ _ n _ => match sh with
    | .slice _ _ _ => some (.int .i64 n, .no)
    | _ => none
  | .val (.string s) => match sh with
    | .str => some (.int .i64 s.size, .no)
    | _ => none
  | _ => none
/-- cells that fit -/
def chk : Nat → List V → Bool
  | 0, [] => true
  | n + 1, x :: xs => oneV x && chk n xs
  | _, _ => false
def okE (sz : Nat) (e : V) : Bool := chk sz e.cells
/-- the elements of a slice that is read -/
def srcV (H : List AB) : V → Option (List V)
  | .sl es _ => some es
  | .row j ver => match H[j]? with
    | some (.row _ es v _) => if ver = v then some es else none
    | _ => none
  | _ => none
/-- the cells of an element, for an append at those types -/
def appT (P : Program) (t tx : TypeId) : Option Nat := match tdOf P t, tdOf P tx with
  | some d, some dx => match d.sh, dx.sh with
    | .slice e esz by_, .slice _ _ _ => match tdOf P e with
      | some de => if de.zero.length = esz ∧ by_ ≤ 128 then some esz else none
      | none => none
    | _, _ => none
  | _, _ => none
def appR (H : List AB) (nid esz : Nat) (xs : List V) : V → Option (Bool × V × Upd)
  | .sl es .plain => none
  | .sl es m => some ((es ++ xs).all (okE esz) && decide (es.length + xs.length ≤ 1099511627776), bif es.isEmpty || !xs.isEmpty then (.row nid 0, ⟨[], some (.row esz (es ++ xs) 0 false)⟩) else (.sl es m, .no))
  | .row i ver => match H[i]? with
    | some (.row sz es v imm) => if ver = v ∧ sz = esz then some (xs.all (okE esz) && decide (es.length + xs.length ≤ 1099511627776), .row i (ver + 1), ⟨[(i, .row esz (es ++ xs) (ver + 1) imm)], none⟩) else none
    | _ => none
  | _ => none
/-- a slice expression's bounds -/
def slcB (n : Nat) (lo hi mx : Option Nat) : Bool :=
  decide (lo.getD 0 ≤ hi.getD n) && decide (hi.getD n ≤ n) && decide (hi.getD n ≤ mx.getD (hi.getD n)) && decide (mx.getD (hi.getD n) ≤ n) && (mx.isNone || hi.isSome)
def slcM (n : Nat) (hi mx : Option Nat) : Mk := bif mx.isSome && (mx == some (hi.getD n)) then .tight else .plain
def lenE' (sz : Nat) (e : V) : Bool := decide (e.cells.length = sz)
def slcR (H : List AB) (esz : Nat) (lo hi mx : Option Nat) : V → Option (Bool × V × Upd)
  | .sl es _ => some (slcB es.length lo hi mx && es.all (lenE' esz), .sl ((es.take (hi.getD es.length)).drop (lo.getD 0)) (slcM es.length hi mx), .no)
  | .row i ver => match H[i]? with
    | some (.row sz es v imm) => if ver = v ∧ sz = esz then some (slcB es.length lo hi mx, .sl ((es.take (hi.getD es.length)).drop (lo.getD 0)) (slcM es.length hi mx), ⟨[(i, .row sz es v true)], none⟩) else none
    | _ => none
  | _ => none
def slcT (P : Program) (t : TypeId) : Option Nat := match tdOf P t with
  | some d => match d.sh with
    | .slice _ esz _ => some esz
    | _ => none
  | none => none
def ifcT (P : Program) (t : TypeId) : Bool := match tdOf P t with
  | some d => match d.sh with
    | .other => false
    | _ => true
  | none => false
def ifc (t : TypeId) : V → Option V
  | .any => none
  | .tup _ => none
  | v => some (.iface t v)
def condR : Option (Bool × V × Upd) → Option (V × Upd)
  | some (true, r) => some r
  | _ => none
/-- A map's keys: numbers (a struct's or one alone), of kinds; and what they are as values. -/
abbrev KS := Bool × List IntKind
def intsOf : List IntKind → List V → Option (List Int)
  | [], [] => some []
  | k :: ks, .val (.int j n) :: xs => if j = k then (intsOf ks xs).map (n :: ·) else none
  | _, _ => none
def keyI : KS → V → Option (List Int)
  | (true, ks), .agg xs => intsOf ks xs
  | (false, ks), v => intsOf ks [v]
  | _, _ => none
def kindsOf : List V → Option (List IntKind)
  | [] => some []
  | .val (.int k _) :: xs => (kindsOf xs).map (k :: ·)
  | _ => none
def sgT (P : Program) (t : TypeId) : Option KS := match tdOf P t with
  | some d => match d.sh with
    | .int k => some (false, [k])
    | _ => if d.flat then match kindsOf d.zero with
        | some ks => if ks.length = d.size then some (true, ks) else none
        | none => none
      else none
  | none => none
def eqIs : List Int → List Int → Bool
  | [], [] => true
  | a :: as, b :: bs => (a == b) && eqIs as bs
  | _, _ => false
def noF : List Int → Option V := fun _ => none
def updF (f : List Int → Option V) (k : List Int) (x : V) : List Int → Option V := fun q => bif eqIs q k then some x else f q
/-- a type's zero value -/
def ofCellP : Value → V
  | .slice none 0 0 => .sl [] .plain
  | v => .val v
def zeroT (P : Program) (t : TypeId) : Option V := match P.info? t with
  | some i => match i.zero with
    | some (.agg cs) => if cs.toList.all Value.oneCell' then some (.agg (cs.toList.map ofCellP)) else none
    | some v => if v.oneCell' then some (ofCellP v) else none
    | none => none
  | none => none
def lookR (ok : Bool) (z : V) : Option V → V
  | some v => bif ok then .tup [v, .bool true] else v
  | none => bif ok then .tup [z, .bool false] else z
def mapT (P : Program) (t : TypeId) : Option (TypeId × TypeId) := match tdOf P t with
  | some d => match d.sh with
    | .map k e => some (k, e)
    | _ => none
  | none => none
def insV (H : List AB) (own : Bool) (x : V) : Bool × V := match fz H x with
  | some x' => (own, x')
  | none => (true, x)
def insR (P : Program) (H : List AB) (kt : TypeId) (m k x : V) : Option (List (Nat × AB)) := match m with
  | .mp i => match H[i]? with
    | some (.map own sg f) => if sgT P kt = some sg then (match keyI sg k with
      | some q => some [(i, .map (insV H own x).1 sg (updF f q (insV H own x).2))]
      | none => none) else none
    | _ => none
  | _ => none
def lkR (P : Program) (H : List AB) (kt et : TypeId) (ok : Bool) (m k : V) : Option V := match m with
  | .mp i => match H[i]? with
    | some (.map _ sg f) => if sgT P kt = some sg then (keyI sg k).bind fun q => (zeroT P et).map fun z => lookR ok z (f q) else none
    | _ => none
  | _ => none
/-- a slice literal: of what may be handed on, or of the call's own -/
def bsR (H : List AB) (nid esz n : Nat) (z : Bool) (vs : List V) : Option (List V) → Option (Bool × V × Upd)
  | some es => some (decide (es.length = n) && es.all (fun e => decide (e.cells.length = esz)) && decide (0 < esz) && decide (n * esz ≤ 16777216) && z, .sl es .tight, ⟨immS H (rowsInL vs), none⟩)
  | none => some (decide (vs.length = n) && vs.all (fun e => chk esz e.cells) && decide (0 < esz) && decide (n * esz ≤ 16777216) && z, .vs nid 0 n esz, ⟨[], some (.var (vs.flatMap V.cells))⟩)
/-- the places of an array's elements -/
def arrFs : Nat → Nat → Nat → Bool → List (Nat × Nat × Bool)
  | 0, _, _, _ => []
  | n + 1, off, esz, ea => (off, esz, ea) :: arrFs n (off + esz) esz ea
/-- What an operation yields, and what it does to the heap; nid: the number that a new block gets. -/
def eff (P : Program) (G : Glob) (fr : List V) (H : List AB) (nid : Nat) : Op → Option (V × Upd)
  | .move x => some (evalO G fr x, .no)
  | .assign x => some (evalO G fr x, .no)
  | .pick c a b => match evalO G fr c with
    | .val (.bool t) => some (bif t then evalO G fr a else evalO G fr b, .no)
    | _ => none
  | .alloc t => (tdOf P t).map fun d => (.ptr nid 0, ⟨[], some (.var d.zero)⟩)
  | .box _ x => match evalO G fr x with
    | .any => none
    | .tup _ => none
    | v => some (.ptr nid 0, ⟨[], some (.var v.cells)⟩)
  | .build t ps => (tdOf P t).bind fun d => match d.sh with
    | .struct fs => (buildV fs d.zero (ps.toList.map fun p => (p.1, evalO G fr p.2))).map fun cs => (.agg cs, .no)
    | .array k esz ea => (buildV (arrFs k 0 esz ea) d.zero (ps.toList.map fun p => (p.1, evalO G fr p.2))).map fun cs => (.agg cs, .no)
    | _ => none
  | .buildSlice t n ps => (tdOf P t).bind fun d => match d.sh with
    | .slice e esz _ => (inOrder 0 (ps.toList.map fun p => (p.1, evalO G fr p.2))).bind fun vs => condR (bsR H nid esz n (tdOf P e).isSome vs (fzL (immL H (rowsInL vs)) vs))
    | _ => none
  | .load t a => (tdOf P t).bind fun d => (loadV H d (evalO G fr a)).map fun v => (v, .no)
  | .store t a x => (tdOf P t).bind fun d =>
      if (evalO G fr x).cells.length = d.size ∧ (evalO G fr x).cells.all oneV then (storeV H (evalO G fr x).cells (evalO G fr a)).map fun u => (undefV, u) else none
  | .nilCheck x => match evalO G fr x with
    | .ptr i o => some (.ptr i o, .no)
    | .cp cs => some (.cp cs, .no)
    | .iface t v => some (.iface t v, .no)
    | .fn (.func f) a b => some (.fn (.func f) a b, .no)
    | _ => none
  | .fieldAddr t x f => (tdOf P t).bind fun d => match d.sh with
    | .struct fs => (fs[f]?).bind fun fd => if fd.2.1 = 0 then none else (fieldAddrV H fd (evalO G fr x)).map fun v => (v, .no)
    | _ => none
  | .field t x f => (tdOf P t).bind fun d => match d.sh, evalO G fr x with
    | .struct fs, .agg cs => (fs[f]?).bind fun fd => (partV fd.2.2 fd.2.1 (cs.drop fd.1)).map fun v => (v, .no)
    | _, _ => none
  | .indexAddr t x ix => (tdOf P t).bind fun d => match evalO G fr ix with
    | .val (.int _ n) => (idxN n).bind fun n => (indexAddrV H d.sh n (evalO G fr x)).map fun v => (v, .no)
    | _ => none
  | .index t x ix => (tdOf P t).bind fun d => match d.sh, evalO G fr x, evalO G fr ix with
    | .array k esz ea, .agg cs, .val (.int _ n) => (idxN n).bind fun n => if n < k then (partV ea esz (cs.drop (n * esz))).map fun v => (v, .no) else none
    | _, _, _ => none
  | .binOp op t x y _ => (binV P op t (evalO G fr x) (evalO G fr y)).map fun v => (v, .no)
  | .unOp op _ x => match op, evalO G fr x with
    | .not, .val (.bool b) => some (.bool (!b), .no)
    | .neg, .val (.int k n) => some (.int k (k.wrap (0 - n)), .no)
    | _, _ => none
  | .convert s t x => (tdOf P s).bind fun ds => (tdOf P t).bind fun d => match ds.sh, d.sh, evalO G fr x with
    | .int _, .int k, .val (.int _ n) => some (.int k (k.wrap n), .no)
    | _, _, _ => none
  | .makeFunc f a b => some (.fn f (a.toList.map (evalO G fr)) (b.toList.map (evalO G fr)), .no)
  | .extract x i => match evalO G fr x with
    | .tup vs => (vs[i]?).map fun v => (v, .no)
    | _ => none
  | .call c => match c.callee with
    | .builtin .len => match c.args.toList, c.argTypes.toList with
      | [x], [t] => match tdOf P t with
        | some d => lenV H d.sh (evalO G fr x)
        | none => none
      | _, _ => none
    | .builtin .append => match c.args.toList, c.argTypes.toList with
      | [x, y], [t, tx] => (appT P t tx).bind fun esz => (srcV H (evalO G fr y)).bind fun xs => condR (appR H nid esz xs (evalO G fr x))
      | _, _ => none
    | _ => none
  | .slice t x lo hi mx => (slcT P t).bind fun esz => (optN G fr lo).bind fun lo => (optN G fr hi).bind fun hi => (optN G fr mx).bind fun mx => condR (slcR H esz lo hi mx (evalO G fr x))
  | .makeMap t none => (mapT P t).bind fun kt => (sgT P kt.1).map fun sg => (.mp nid, ⟨[], some (.map false sg noF)⟩)
  | .insert t m k x => (mapT P t).bind fun kt => (insR P H kt.1 (evalO G fr m) (evalO G fr k) (evalO G fr x)).map fun s => (undefV, ⟨s, none⟩)
  | .mapUpdate t m k x => (mapT P t).bind fun kt => (insR P H kt.1 (evalO G fr m) (evalO G fr k) (evalO G fr x)).map fun s => (undefV, ⟨s, none⟩)
  | .lookup t m k ok => (mapT P t).bind fun kt => (lkR P H kt.1 kt.2 ok (evalO G fr m) (evalO G fr k)).map fun v => (v, .no)
  | .makeInterface t x => bif ifcT P t then (ifc t (evalO G fr x)).map fun v => (v, .no) else none
  | _ => none

/-! The code. -/
inductive It where
  | code (c : Code)
  | ops (all l : List Oper)
  | blk (id : Nat)
  | ret (rs : List ResultVar) (dst : Option Tmp)
  | fin (rs : List ResultVar)
  | inv (J : List Act → Act → World → Prop)
  | mk (D : Nat)
  | beg (l : Nat)
  | rnd (l : Nat) (dst : Option Tmp)
  | rndj (l : Nat) (c : Code) (dst : Option Tmp)
  | erf (l : Nat)

structure Cfg where
  k : List It
  fr : List V
  st : List (List V)
  H : List AB

def putV (fr : List V) (d : Option Tmp) (v : V) : List V := match d with
  | some t => fr.set t v
  | none => fr
def setH (H : List AB) : List (Nat × AB) → List AB
  | [] => H
  | (i, b) :: r => setH (H.set i b) r
def applyU (H : List AB) (u : Upd) : List AB := match u.new with
  | some b => setH H u.sets ++ [b]
  | none => setH H u.sets
def guardV (all : List Oper) (fr : List V) (o : Oper) : Option Bool :=
  match o.guard with
  | none => some true
  | some (j, want) => match (all[j]?).bind (·.dst) with
    | none => some false
    | some t => match fr.getD t undefV with
      | .val (.bool b) => some (b == want)
      | .tup _ => some false
      | _ => none
def toRet : List It → List It
  | .ret rs d :: k => .ret rs d :: k
  | .fin rs :: k => .fin rs :: k
  | .mk D :: k => .mk D :: k
  | .rnd l d :: k => .rndj l .ret d :: k
  | .beg _ :: _ => []
  | .rndj _ _ _ :: _ => []
  | .erf _ :: _ => []
  | _ :: k => toRet k
  | [] => []
def toBlk (id : Nat) : List It → Option (List It)
  | [] => none
  | .blk j :: k => if j = id then some k else toBlk id k
  | .ret _ _ :: _ => none
  | .fin _ :: _ => none
  | .mk _ :: _ => none
  | .rnd l d :: k => some (.rndj l (.exit id) d :: k)
  | .beg _ :: _ => none
  | .rndj _ _ _ :: _ => none
  | .erf _ :: _ => none
  | _ :: k => toBlk id k
def resOne (P : Program) (fr : List V) (H : List AB) : ResultVar → Option V
  | .tmp t => some (fr.getD t undefV)
  | .cell a t => (tdOf P t).bind fun d => loadV H d (fr.getD a undefV)
def resL (P : Program) (fr : List V) (H : List AB) : List ResultVar → Option (List V)
  | [] => some []
  | r :: rs => (resOne P fr H r).bind fun v => (resL P fr H rs).map (v :: ·)
def resV : List V → V
  | [v] => v
  | vs => .tup vs
def opStep (P : Program) (G : Glob) (all : List Oper) (o : Oper) (l : List Oper) (k : List It) (fr : List V) (st : List (List V)) (H : List AB) : Option Cfg :=
  match o.guard with
  | none => (eff P G fr H H.length o.op).map fun r => ⟨.ops all l :: k, putV fr o.dst r.1, st, applyU H r.2⟩
  | some _ => match guardV all fr o with
    | some true => some ⟨.ops all ({ o with guard := none } :: l) :: k, fr, st, H⟩
    | some false => some ⟨.ops all l :: k, putV fr o.dst undefV, st, H⟩
    | none => none
def step (P : Program) (G : Glob) : Cfg → Option Cfg
  | ⟨.code c :: k, fr, st, H⟩ => match c with
    | .seq a b => some ⟨.code a :: .code b :: k, fr, st, H⟩
    | .skip => some ⟨k, fr, st, H⟩
    | .block id b => some ⟨.code b :: .blk id :: k, fr, st, H⟩
    | .region _ ops false => some ⟨.ops ops.toList ops.toList :: k, fr, st, H⟩
    | .cond c a b => match evalO G fr c with
      | .val (.bool t) => some ⟨.code (bif t then a else b) :: k, fr, st, H⟩
      | _ => none
    | .exit id => (toBlk id k).map fun k => ⟨k, fr, st, H⟩
    | .ret => some ⟨toRet k, fr, st, H⟩
    | .label _ => some ⟨k, fr, st, H⟩
    | .scope b => some ⟨.code b :: k, fr, st, H⟩
    | _ => none
  | ⟨.blk _ :: k, fr, st, H⟩ => some ⟨k, fr, st, H⟩
  | ⟨.ops _ [] :: k, fr, st, H⟩ => some ⟨k, fr, st, H⟩
  | ⟨.ops all (o :: l) :: k, fr, st, H⟩ => opStep P G all o l k fr st H
  | ⟨.ret rs dst :: k, fr, f :: st, H⟩ => (resL P fr H rs).map fun vs => ⟨k, putV f dst (resV vs), st, H⟩
  | _ => none
end Go.Ab

/- The abstract machine: what is represented stays represented. -/
set_option linter.unusedVariables false
namespace Go.Ab
open Go Go.RowKit
structure Env.le (E E' : Env) : Prop where
  stab : ∀ b o u, E.stab b o u → E'.stab b o u
  phi : ∀ i v b, E.φ i v = some b → E'.φ i v = some b
  row : ∀ (i sz : Nat) (es : List V) (v : Nat) (m : Bool), E.H[i]? = some (.row sz es v m) → E'.H[i]? = some AB.dead ∨ ∃ sz' es' v' m', E'.H[i]? = some (AB.row sz' es' v' m') ∧ v ≤ v' ∧ (v = v' → E'.τ i = E.τ i)
  dead : ∀ i : Nat, E.H[i]? = some AB.dead → E'.H[i]? = some AB.dead
theorem Env.le.bare {E E' : Env} (h : E.le E') : E.bare.le E'.bare := ⟨h.stab, fun _ _ _ h => by simp [Env.bare] at h, fun _ _ _ _ _ h => by simp [Env.bare] at h, fun _ h => by simp [Env.bare] at h⟩
theorem Env.le.refl (E : Env) : E.le E := ⟨fun _ _ _ h => h, fun _ _ _ h => h, fun _ _ _ _ _ h => .inr ⟨_, _, _, _, h, Nat.le_refl _, fun _ => rfl⟩, fun _ h => h⟩
theorem Env.le.trans {E E' E'' : Env} (h : E.le E') (k : E'.le E'') : E.le E'' := by
  refine ⟨fun b o u h1 => k.stab _ _ _ (h.stab _ _ _ h1), fun _ _ _ h1 => k.phi _ _ _ (h.phi _ _ _ h1), fun i sz es v m h1 => ?_, fun i h1 => k.dead _ (h.dead _ h1)⟩
  rcases h.row _ _ _ _ _ h1 with h2 | ⟨sz', es', v', m', h2, h3, h4⟩
  · exact .inl (k.dead _ h2)
  · rcases k.row _ _ _ _ _ h2 with h5 | ⟨sz2, es2, v2, m2, h5, h6, h7⟩
    · exact .inl h5
    · exact .inr ⟨_, _, _, _, h5, by omega, fun e => by rw [h7 (by omega), h4 (by omega)]⟩
mutual
theorem Rep.mono : (v : V) → ∀ {E E' : Env} {x : Value}, E.le E' → Rep E v x → Rep E' v x
  | .any, _, _, _, _, _ => by simp only [Rep]
  | .val v, _, _, _, _, h => by simpa only [Rep] using h
  | .ptr i o, _, _, _, hl, h => by
    simp only [Rep] at h ⊢
    obtain ⟨b, h1, h2⟩ := h; exact ⟨b, hl.phi _ _ _ h1, h2⟩
  | .ptrE i ver idx sz off, E, E', x, hl, h => by
    simp only [Rep] at h ⊢
    obtain ⟨h0, h⟩ := h
    refine ⟨h0, ?_⟩
    split at h
    · rename_i heq
      rcases hl.row _ _ _ _ _ heq with h2 | ⟨_, _, v', _, h2, h3, h4⟩
      · simp only [h2]
      · simp only [h2]
        refine ⟨by omega, fun e => ?_⟩
        obtain ⟨b, h5, h6⟩ := h.2 (by omega)
        exact ⟨b, hl.phi _ _ _ h5, h6⟩
    · rename_i heq; simp only [hl.dead _ heq]
    · exact h.elim
  | .cp cs, _, _, _, hl, h => by
    simp only [Rep] at h ⊢
    obtain ⟨b, o, h1, h2⟩ := h
    exact ⟨b, o, h1, RepAt.mono cs hl.bare h2⟩
  | .sl es m, _, _, _, hl, h => by
    simp only [Rep] at h ⊢
    obtain ⟨a, n, c, h1, h2, h3, h4, h5, h6, h7⟩ := h
    refine ⟨a, n, c, h1, h2, h3, h4, h5, h6, fun he => ?_⟩
    obtain ⟨sz, b, o, h8, h9⟩ := h7 he
    exact ⟨sz, b, o, h8, RepEs.mono es hl.bare h9⟩
  | .vs i off n sz, _, _, _, hl, h => by
    simp only [Rep] at h ⊢
    obtain ⟨b, c, h1, h2⟩ := h; exact ⟨b, c, hl.phi _ _ _ h1, h2⟩
  | .row i ver, _, _, _, hl, h => by
    simp only [Rep] at h ⊢
    obtain ⟨h0, h⟩ := h
    refine ⟨h0, ?_⟩
    split at h
    · rename_i heq
      rcases hl.row _ _ _ _ _ heq with h2 | ⟨_, _, v', _, h2, h3, h4⟩
      · simp only [h2]
      · simp only [h2]
        exact ⟨by omega, fun e => by rw [h.2 (by omega), h4 (by omega)]⟩
    · rename_i heq; simp only [hl.dead _ heq]
    · exact h.elim
  | .agg cs, _, _, _, hl, h => by
    simp only [Rep] at h ⊢
    obtain ⟨xs, h1, h2⟩ := h; exact ⟨xs, h1, RepL.mono cs hl h2⟩
  | .tup cs, _, _, _, hl, h => by
    simp only [Rep] at h ⊢
    obtain ⟨xs, h1, h2⟩ := h; exact ⟨xs, h1, RepL.mono cs hl h2⟩
  | .fn f first cap, _, _, _, hl, h => by
    simp only [Rep] at h ⊢
    obtain ⟨xs, ys, h1, h2, h3⟩ := h; exact ⟨xs, ys, h1, RepL.mono first hl h2, RepL.mono cap hl h3⟩
  | .iface t v, _, _, _, hl, h => by
    simp only [Rep] at h ⊢
    obtain ⟨y, h1, h2⟩ := h; exact ⟨y, h1, Rep.mono v hl h2⟩
  | .mp i, _, _, _, hl, h => by
    simp only [Rep] at h ⊢
    obtain ⟨b, h1, h2⟩ := h; exact ⟨b, hl.phi _ _ _ h1, h2⟩
theorem RepL.mono : (vs : List V) → ∀ {E E' : Env} {xs : List Value}, E.le E' → RepL E vs xs → RepL E' vs xs
  | [], _, _, _, _, h => by simpa only [RepL] using h
  | v :: vs, _, _, _, hl, h => by
    simp only [RepL] at h ⊢
    obtain ⟨y, ys, h1, h2, h3⟩ := h
    exact ⟨y, ys, h1, Rep.mono v hl h2, RepL.mono vs hl h3⟩
theorem RepAt.mono : (vs : List V) → ∀ {E E' : Env} {b o : Nat}, E.le E' → RepAt E vs b o → RepAt E' vs b o
  | [], _, _, _, _, _, _ => by simp only [RepAt]
  | v :: vs, _, _, _, _, hl, h => by
    simp only [RepAt] at h ⊢
    obtain ⟨⟨u, h1, h2⟩, h3⟩ := h
    exact ⟨⟨u, hl.stab _ _ _ h1, Rep.mono v hl h2⟩, RepAt.mono vs hl h3⟩
theorem RepEs.mono : (vs : List V) → ∀ {E E' : Env} {sz b o : Nat}, E.le E' → RepEs E sz vs b o → RepEs E' sz vs b o
  | [], _, _, _, _, _, _, _ => by simp only [RepEs]
  | v :: vs, E, E', sz, b, o, hl, h => by
    by_cases hv : ∃ cs, v = .agg cs
    · obtain ⟨cs, rfl⟩ := hv
      simp only [RepEs] at h ⊢
      exact ⟨⟨h.1.1, RepAt.mono cs hl h.1.2⟩, RepEs.mono vs hl h.2⟩
    · rw [RepEs.eq_3 _ _ _ _ _ _ (fun cs e => hv ⟨cs, e⟩)] at h ⊢
      obtain ⟨⟨h0, u, h1, h2⟩, h3⟩ := h
      exact ⟨⟨h0, u, hl.stab _ _ _ h1, Rep.mono v hl h2⟩, RepEs.mono vs hl h3⟩
end

theorem Env.bare_le (E : Env) : E.bare.le E := ⟨fun _ _ _ h => h, fun _ _ _ h => by simp [Env.bare] at h, fun _ _ _ _ _ h => by simp [Env.bare] at h, fun _ h => by simp [Env.bare] at h⟩
theorem Env.bare_bare (E : Env) : E.bare.bare = E.bare := rfl

/-! Lists. -/
theorem RepL.nil (E : Env) : RepL E [] [] := by simp [RepL]
theorem RepL.cons {E : Env} {v : V} {vs : List V} {x : Value} {xs : List Value} (h : Rep E v x) (hs : RepL E vs xs) : RepL E (v :: vs) (x :: xs) := by
  simp only [RepL]; exact ⟨x, xs, rfl, h, hs⟩
theorem RepL.cons_iff {E : Env} {v : V} {vs : List V} {x : Value} {xs : List Value} : RepL E (v :: vs) (x :: xs) ↔ Rep E v x ∧ RepL E vs xs := by
  simp only [RepL, List.cons.injEq]
  exact ⟨fun ⟨_, _, ⟨h1, h2⟩, h3, h4⟩ => by subst h1; subst h2; exact ⟨h3, h4⟩, fun ⟨h1, h2⟩ => ⟨_, _, ⟨rfl, rfl⟩, h1, h2⟩⟩
theorem RepL.nil_iff {E : Env} {xs : List Value} : RepL E [] xs ↔ xs = [] := by simp only [RepL]
theorem RepL.length {E : Env} : ∀ {vs : List V} {xs : List Value}, RepL E vs xs → xs.length = vs.length
  | [], xs, h => by simp only [RepL] at h; simp [h]
  | v :: vs, xs, h => by
    simp only [RepL] at h
    obtain ⟨y, ys, rfl, _, h2⟩ := h
    simp [h2.length]
theorem RepL.get {E : Env} : ∀ {vs : List V} {xs : List Value}, RepL E vs xs → ∀ (i : Nat) (v : V), vs[i]? = some v → ∃ x, xs[i]? = some x ∧ Rep E v x
  | [], xs, h, i, v, hv => by simp at hv
  | u :: vs, xs, h, i, v, hv => by
    simp only [RepL] at h
    obtain ⟨y, ys, rfl, h1, h2⟩ := h
    cases i with
    | zero => simp at hv; subst hv; exact ⟨y, by simp, h1⟩
    | succ i => simpa using h2.get i v (by simpa using hv)
theorem RepL.append {E : Env} : ∀ {vs ws : List V} {xs ys : List Value}, RepL E vs xs → RepL E ws ys → RepL E (vs ++ ws) (xs ++ ys)
  | [], ws, xs, ys, h, k => by simp only [RepL] at h; subst h; simpa using k
  | v :: vs, ws, xs, ys, h, k => by
    simp only [RepL] at h
    obtain ⟨y, zs, rfl, h1, h2⟩ := h
    exact RepL.cons h1 (h2.append k)
theorem RepL.take {E : Env} : ∀ {vs : List V} {xs : List Value} (n : Nat), RepL E vs xs → RepL E (vs.take n) (xs.take n)
  | _, _, 0, _ => by simp [RepL]
  | [], xs, n + 1, h => by simp only [RepL] at h; subst h; simp [RepL]
  | v :: vs, xs, n + 1, h => by
    simp only [RepL] at h
    obtain ⟨y, zs, rfl, h1, h2⟩ := h
    exact RepL.cons h1 (h2.take n)
theorem RepL.drop {E : Env} : ∀ {vs : List V} {xs : List Value} (n : Nat), RepL E vs xs → RepL E (vs.drop n) (xs.drop n)
  | _, _, 0, h => by simpa using h
  | [], xs, n + 1, h => by simp only [RepL] at h; subst h; simp [RepL]
  | v :: vs, xs, n + 1, h => by
    simp only [RepL] at h
    obtain ⟨y, zs, rfl, h1, h2⟩ := h
    exact h2.drop n
theorem RepL.set {E : Env} : ∀ {vs : List V} {xs : List Value} (n : Nat) {v : V} {x : Value}, RepL E vs xs → Rep E v x → RepL E (vs.set n v) (xs.set n x)
  | [], xs, n, _, _, h, _ => by simp only [RepL] at h; subst h; simp [RepL]
  | u :: vs, xs, 0, v, x, h, k => by
    simp only [RepL] at h
    obtain ⟨y, zs, rfl, h1, h2⟩ := h
    exact RepL.cons k h2
  | u :: vs, xs, n + 1, v, x, h, k => by
    simp only [RepL] at h
    obtain ⟨y, zs, rfl, h1, h2⟩ := h
    exact RepL.cons h1 (h2.set n k)
theorem RepL.split {E : Env} : ∀ {vs ws : List V} {xs : List Value}, RepL E (vs ++ ws) xs → ∃ ys zs, xs = ys ++ zs ∧ RepL E vs ys ∧ RepL E ws zs
  | [], ws, xs, h => ⟨[], xs, rfl, RepL.nil E, by simpa using h⟩
  | v :: vs, ws, xs, h => by
    simp only [List.cons_append, RepL] at h
    obtain ⟨y, ys, rfl, h1, h2⟩ := h
    obtain ⟨as, bs, rfl, h3, h4⟩ := h2.split
    exact ⟨y :: as, bs, rfl, RepL.cons h1 h3, h4⟩

theorem Rep.undef (E : Env) : Rep E undefV undef := by
  simp only [undefV, Rep]; exact ⟨[], rfl, RepL.nil E⟩
theorem RepL.getD {E : Env} {vs : List V} {xs : List Value} (h : RepL E vs xs) (i : Nat) : Rep E (vs.getD i undefV) (xs.getD i undef) := by
  simp only [List.getD_eq_getElem?_getD]
  cases hv : vs[i]? with
  | some v =>
    obtain ⟨x, hx, hr⟩ := h.get i v hv
    simpa [hx] using hr
  | none =>
    have : xs[i]? = none := by
      have := h.length
      simp at hv ⊢
      omega
    simpa [this] using Rep.undef E

theorem Rep.ofCell (E : Env) (v : Value) (h : v.oneCell' = true) : Rep E (ofCell v) v := by
  unfold Ab.ofCell
  split
  · simp only [Rep]; refine ⟨none, 0, 0, rfl, rfl, Nat.le_refl _, by simp [maxLen], ?_, ?_, ?_⟩ <;> simp
  · simp [Rep, h]
theorem RepL.ofCells (E : Env) : ∀ (vs : List Value), (vs.all Value.oneCell') = true → RepL E (vs.map ofCell) vs
  | [], _ => RepL.nil E
  | v :: vs, h => by
    simp at h
    exact RepL.cons (Rep.ofCell E v h.1) (RepL.ofCells E vs (by simpa using h.2))
theorem Rep.ofConst (E : Env) (v : Value) : Rep E (ofConst v) v := by
  unfold Ab.ofConst
  split
  · rename_i vs
    split
    · rename_i h
      have : vs = #[] := by
        have : vs.toList = [] := by simpa using h
        rw [← Array.toArray_toList (xs := vs), this]
      subst this
      exact Rep.undef E
    · simp [Rep]
  · rename_i cs
    split
    · rename_i h
      simp only [Rep]
      exact ⟨cs.toList, by simp, RepL.ofCells E _ h⟩
    · simp [Rep]
  · rename_i h1 h2
    refine Rep.ofCell E v ?_
    cases v <;> simp_all [Value.oneCell']
end Go.Ab

/- The abstract machine: the heap. -/
set_option linter.unusedVariables false
set_option linter.unusedSimpArgs false
namespace Go.Ab
open Go Go.RowKit

def flatV (es : List V) : List V := es.flatMap V.cells

/-- A map's entries: keys as numbers, and what stands under them. -/
def keyVal (sg : KS) (q : List Int) : Value := bif sg.1 then .agg (List.zipWith Value.int sg.2 q).toArray else (match sg.2, q with | k :: _, n :: _ => .int k n | _, _ => .bool false)
def lookL : List (List Int × V) → List Int → Option V
  | [], _ => none
  | p :: L, q => bif eqIs q p.1 then some p.2 else lookL L q
def HOK (E : Env) (i : Nat) : AB → Prop
  | .dead => True
  | .hole => ∀ v, E.φ i v = none
  | .var cs => ∃ b C e, E.φ i 0 = some b ∧ E.w.heap[b]? = some (.cells C e (0, 0)) ∧ RepL E cs C.toList ∧ ∀ o, E.M b o
  | .row sz es ver imm => ∃ a n c, E.τ i = .slice a n c ∧ n = es.length ∧ n ≤ c ∧ c ≤ maxLen ∧ ((∀ e ∈ es, e.cells.length = sz) ∧ ∀ u, ver < u → E.φ i u = none) ∧
      ((n = 0 ∧ c = 0) ∨ ∃ b C e, E.φ i ver = some b ∧ a = some ⟨b, 0, none⟩ ∧ E.w.heap[b]? = some (.cells C e (0, 0)) ∧ C.size = c * sz ∧
        RepL E.bare (flatV es) (C.toList.take (n * sz)) ∧ (∀ o, n * sz ≤ o → E.M b o) ∧ (∀ o, o < n * sz → (E.M b o ↔ imm = false)))
  | .map own sg f => ∃ b C k L, E.φ i 0 = some b ∧ E.w.heap[b]? = some (.map C k) ∧ C.toList.map (·.key) = L.map (fun p => keyVal sg p.1) ∧ RepL (bif own then E else E.bare) (L.map (·.2)) (C.toList.map (·.val)) ∧ (∀ p ∈ L, p.1.length = sg.2.length) ∧ f = lookL L
  | .dfr D => E.φ i 0 = some D ∧ E.w.heap[D]? = some (.deferred (some []))
  | .lp l s pend fr ps asg body => ∃ fn tmps D, E.φ i 0 = some l ∧ E.w.heap[l]? = some (.loop { state := s, pending := pend, fn := fn, tmps := tmps, params := ps.toArray, assign := asg, body := body, defers := D }) ∧ RepL E fr tmps.toList

structure EOK (G : Glob) (w0 : World) (M0 : Nat → Nat → Prop) (E : Env) : Prop where
  below : Below w0.heap.size w0 E.w
  old : ∀ b o, b < w0.heap.size → (E.M b o ↔ M0 b o)
  mlt : ∀ b o, E.M b o → b < E.w.heap.size
  phi : ∀ i v b, E.φ i v = some b → (∃ h, E.H[i]? = some h) ∧ E.H[i]? ≠ some AB.hole ∧ w0.heap.size ≤ b ∧ b < E.w.heap.size
  inj : ∀ i v j u b, E.φ i v = some b → E.φ j u = some b → i = j
  blk : ∀ i h, E.H[i]? = some h → HOK E i h
  glob : ∀ g cs, G.lookup g = some cs → RepAt E.bare cs g 0

theorem HOK.mono {E E' : Env} {i : Nat} {h : AB} (hle : E.le E') (hφ : E'.φ i = E.φ i) (hτ : E'.τ i = E.τ i)
    (hb : ∀ v b, E.φ i v = some b → E'.w.heap[b]? = E.w.heap[b]? ∧ ∀ o, (E'.M b o ↔ E.M b o)) (hh : HOK E i h) : HOK E' i h := by
  cases h with
  | dead => trivial
  | hole => simpa [HOK, hφ] using hh
  | var cs =>
    obtain ⟨b, C, e, h1, h2, h3, h4⟩ := hh
    obtain ⟨k1, k2⟩ := hb _ b h1
    exact ⟨b, C, e, by rw [hφ, h1], by rw [k1, h2], RepL.mono cs hle h3, fun o => (k2 o).2 (h4 o)⟩
  | row sz es ver imm =>
    obtain ⟨a, n, c, h1, h2, h3, h4, h5, h6⟩ := hh
    refine ⟨a, n, c, by rw [hτ, h1], h2, h3, h4, ⟨h5.1, fun u hu => by rw [hφ]; exact h5.2 u hu⟩, ?_⟩
    rcases h6 with h6 | ⟨b, C, e, h6, h7, h8, h9, h10, h11, h12⟩
    · exact .inl h6
    · obtain ⟨k1, k2⟩ := hb _ b h6
      exact .inr ⟨b, C, e, by rw [hφ, h6], h7, by rw [k1, h8], h9, RepL.mono _ hle.bare h10, fun o ho => (k2 o).2 (h11 o ho), fun o ho => (k2 o).trans (h12 o ho)⟩
  | map own sg f =>
    obtain ⟨b, C, k, L, h1, h2, h3, h4, h5, h6⟩ := hh
    obtain ⟨k1, k2⟩ := hb _ b h1
    refine ⟨b, C, k, L, by rw [hφ, h1], by rw [k1, h2], h3, ?_, h5, h6⟩
    cases own
    · exact RepL.mono _ hle.bare h4
    · exact RepL.mono _ hle h4
  | dfr D =>
    obtain ⟨h1, h2⟩ := hh
    obtain ⟨k1, _⟩ := hb _ D h1
    exact ⟨by rw [hφ, h1], by rw [k1, h2]⟩
  | lp l s pend fr ps asg body =>
    obtain ⟨fn, tmps, D, h1, h2, h3⟩ := hh
    obtain ⟨k1, _⟩ := hb _ l h1
    exact ⟨fn, tmps, D, by rw [hφ, h1], by rw [k1, h2], RepL.mono _ hle h3⟩

/-- A place for a new block. -/
structure NewAt (H : List AB) (nid : Nat) (b : AB) (H' : List AB) : Prop where
  was : H[nid]? = none ∨ H[nid]? = some AB.hole
  is : H'[nid]? = some b
  other : ∀ j, j ≠ nid → H'[j]? = H[j]?
theorem NewAt.push (H : List AB) (b : AB) : NewAt H H.length b (H ++ [b]) :=
  ⟨.inl (by simp), by simp, fun j hj => by
    rcases Nat.lt_or_ge j H.length with h | h
    · rw [List.getElem?_append_left h]
    · have : H.length < j := by omega
      rw [List.getElem?_eq_none (by simp; omega), List.getElem?_eq_none (by omega)]⟩
theorem NewAt.hole {H : List AB} {nid : Nat} (h : H[nid]? = some AB.hole) (b : AB) : NewAt H nid b (H.set nid b) :=
  ⟨.inr h, by
    have : nid < H.length := by
      rcases Nat.lt_or_ge nid H.length with k | k
      · exact k
      · rw [List.getElem?_eq_none k] at h; cases h
    simp [this], fun j hj => by simp [List.getElem?_set, Ne.symm hj]⟩

section
variable {G : Glob} {w0 : World} {M0 : Nat → Nat → Prop} {E : Env}

theorem EOK.phi_new (h : EOK G w0 M0 E) {nid : Nat} {b : AB} {H' : List AB} (hn : NewAt E.H nid b H') : ∀ v, E.φ nid v = none := by
  intro v
  cases hp : E.φ nid v with
  | none => rfl
  | some c =>
    obtain ⟨⟨x, h1⟩, h2, _⟩ := h.phi _ _ _ hp
    rcases hn.was with h3 | h3
    · rw [h3] at h1; cases h1
    · exact absurd h3 h2

theorem EOK.lt_of_stab (E : Env) {b o : Nat} {u : Value} (hs : E.stab b o u) : b < E.w.heap.size := World.block_lt_of_cell? E.w ⟨b, o, none⟩ hs.1

/-- A new block that stays as it is. -/
theorem EOK.allocImm (h : EOK G w0 M0 E) (o : Obj) : EOK G w0 M0 { E with w := E.w.alloc o } ∧ E.le { E with w := E.w.alloc o } := by
  have hle : E.le { E with w := E.w.alloc o } := by
    refine ⟨fun b o' u hs => ⟨?_, hs.2⟩, fun _ _ _ h => h, fun _ _ _ _ _ h => .inr ⟨_, _, _, _, h, Nat.le_refl _, fun _ => rfl⟩, fun _ h => h⟩
    have hb := EOK.lt_of_stab E hs
    show (E.w.alloc o).cell? _ = _
    rw [World.cell?_alloc_lt (h := hb)]; exact hs.1
  refine ⟨⟨h.below.alloc h.below.size o, h.old, fun b o' hm => ?_, fun i v b hp => ?_, h.inj, fun i x hx => ?_, fun g cs hg => RepAt.mono cs hle.bare (h.glob g cs hg)⟩, hle⟩
  · have := h.mlt b o' hm; simp; omega
  · obtain ⟨k1, k2, k3, k4⟩ := h.phi i v b hp
    exact ⟨k1, k2, k3, by simp; omega⟩
  · refine HOK.mono hle rfl rfl (fun v b hb => ⟨?_, fun _ => Iff.rfl⟩) (h.blk i x hx)
    exact Below.heap_alloc E.w o b (h.phi i v b hb).2.2.2

/-- A draw. -/
theorem EOK.drew (h : EOK G w0 M0 E) : EOK G w0 M0 { E with w := E.w.drew } ∧ E.le { E with w := E.w.drew } := by
  have hle : E.le { E with w := E.w.drew } := ⟨fun b o' u hs => hs, fun _ _ _ h => h, fun _ _ _ _ _ h => .inr ⟨_, _, _, _, h, Nat.le_refl _, fun _ => rfl⟩, fun _ h => h⟩
  refine ⟨⟨h.below.drew, h.old, h.mlt, h.phi, h.inj, fun i x hx => ?_, fun g cs hg => RepAt.mono cs hle.bare (h.glob g cs hg)⟩, hle⟩
  exact HOK.mono hle rfl rfl (fun v b hb => ⟨rfl, fun _ => Iff.rfl⟩) (h.blk i x hx)

def Env.allocOwn (E : Env) (o : Obj) (nid : Nat) (H' : List AB) (t : Value) (M' : Nat → Prop) : Env :=
  { w := E.w.alloc o, φ := fun j v => if j = nid then (if v = 0 then some E.w.heap.size else none) else E.φ j v, τ := fun j => if j = nid then t else E.τ j,
    M := fun b k => E.M b k ∨ (b = E.w.heap.size ∧ M' k), H := H' }

/-- A new block of the call's own. -/
theorem EOK.allocOwn (h : EOK G w0 M0 E) (o : Obj) {nid : Nat} {ab : AB} {H' : List AB} (hn : NewAt E.H nid ab H') (t : Value) (M' : Nat → Prop) (hab : ab ≠ AB.hole)
    (hk : E.le (E.allocOwn o nid H' t M') → HOK (E.allocOwn o nid H' t M') nid ab) :
    EOK G w0 M0 (E.allocOwn o nid H' t M') ∧ E.le (E.allocOwn o nid H' t M') := by
  have hφ := h.phi_new hn
  have hle : E.le (E.allocOwn o nid H' t M') := by
    refine ⟨fun b o' u hs => ⟨?_, ?_⟩, fun i v b hp => ?_, fun i sz es v m hr => ?_, fun i hd => ?_⟩
    · show (E.w.alloc o).cell? _ = _
      rw [World.cell?_alloc_lt (h := EOK.lt_of_stab E hs)]; exact hs.1
    · rintro (h1 | ⟨h1, _⟩)
      · exact hs.2 h1
      · have := EOK.lt_of_stab E hs; omega
    · have : i ≠ nid := by rintro rfl; rw [hφ] at hp; cases hp
      simp [Env.allocOwn, this, hp]
    · have : i ≠ nid := by rintro rfl; rcases hn.was with h3 | h3 <;> rw [h3] at hr <;> cases hr
      exact .inr ⟨sz, es, v, m, by simp [Env.allocOwn, hn.other _ this, hr], Nat.le_refl _, fun _ => by simp [Env.allocOwn, this]⟩
    · have : i ≠ nid := by rintro rfl; rcases hn.was with h3 | h3 <;> rw [h3] at hd <;> cases hd
      simp [Env.allocOwn, hn.other _ this, hd]
  have hsz : (E.allocOwn o nid H' t M').w.heap.size = E.w.heap.size + 1 := by simp [Env.allocOwn]
  refine ⟨⟨h.below.alloc h.below.size o, fun b k hb => ?_, fun b k hm => ?_, fun i v b hp => ?_, fun i v j u b hi hj => ?_, fun i x hx => ?_, fun g cs hg => RepAt.mono cs hle.bare (h.glob g cs hg)⟩, hle⟩
  · have := h.below.size
    constructor
    · rintro (h1 | ⟨h1, _⟩)
      · exact (h.old b k hb).1 h1
      · omega
    · exact fun h1 => .inl ((h.old b k hb).2 h1)
  · rw [hsz]
    rcases hm with h1 | ⟨h1, _⟩
    · have := h.mlt _ _ h1; omega
    · omega
  · rw [hsz]
    by_cases hi : i = nid
    · subst hi
      simp [Env.allocOwn] at hp
      obtain ⟨_, hp⟩ := hp
      subst hp
      exact ⟨⟨ab, hn.is⟩, by simp [Env.allocOwn, hn.is, hab], h.below.size, by omega⟩
    · simp [Env.allocOwn, hi] at hp
      obtain ⟨⟨x, k1⟩, k2, k3, k4⟩ := h.phi i v b hp
      exact ⟨⟨x, by simp [Env.allocOwn, hn.other _ hi, k1]⟩, by simp [Env.allocOwn, hn.other _ hi, k2], k3, by omega⟩
  · by_cases h1 : i = nid <;> by_cases h2 : j = nid <;> simp [Env.allocOwn, h1, h2] at hi hj
    · omega
    · have := (h.phi j _ _ hj).2.2.2; omega
    · have := (h.phi i _ _ hi).2.2.2; omega
    · exact h.inj i v j u b hi hj
  · by_cases hi : i = nid
    · subst hi
      have : x = ab := by
        have h1 : H'[i]? = some x := hx
        rw [hn.is] at h1; injection h1 with h1; exact h1.symm
      subst this
      exact hk hle
    · have h1 : E.H[i]? = some x := by rw [← hn.other _ hi]; exact hx
      refine HOK.mono hle (by funext v; simp [Env.allocOwn, hi]) (by simp [Env.allocOwn, hi]) (fun v b hb => ?_) (h.blk i x h1)
      have hlt := (h.phi i v b hb).2.2.2
      refine ⟨Below.heap_alloc E.w o b hlt, fun k => ⟨?_, .inl⟩⟩
      rintro (h2 | ⟨h2, _⟩)
      · exact h2
      · omega

/-- A block of the call's own is written. -/
theorem EOK.write (h : EOK G w0 M0 E) (w' : World) (i b : Nat) (ab ab' : AB) {pv : Nat} (hφ : E.φ i pv = some b) (hi : E.H[i]? = some ab) (hsize : w'.heap.size = E.w.heap.size)
    (hos : w'.os = E.w.os) (htape : w'.tape = E.w.tape) (hout : w'.output = E.w.output)
    (hother : ∀ k, k ≠ b → w'.heap[k]? = E.w.heap[k]?) (hst : ∀ o u, E.stab b o u → w'.cell? ⟨b, o, none⟩ = some u)
    (hrow : ∀ sz es v m, ab = AB.row sz es v m → ∃ sz' es' m', ab' = AB.row sz' es' v m') (hdead : ab ≠ AB.dead) (hhole : ab' ≠ AB.hole)
    (hk : E.le { E with w := w', H := E.H.set i ab' } → HOK { E with w := w', H := E.H.set i ab' } i ab') :
    EOK G w0 M0 { E with w := w', H := E.H.set i ab' } ∧ E.le { E with w := w', H := E.H.set i ab' } := by
  have hil : i < E.H.length := by
    rcases Nat.lt_or_ge i E.H.length with k | k
    · exact k
    · rw [List.getElem?_eq_none k] at hi; cases hi
  have hself : (E.H.set i ab')[i]? = some ab' := by simp [hil]
  have hoth : ∀ j, j ≠ i → (E.H.set i ab')[j]? = E.H[j]? := fun j hj => by simp [List.getElem?_set, Ne.symm hj]
  have hcell : ∀ k o, k ≠ b → w'.cell? ⟨k, o, none⟩ = E.w.cell? ⟨k, o, none⟩ := fun k o hne => World.cell?_of_block (hother k hne)
  have hle : E.le { E with w := w', H := E.H.set i ab' } := by
    refine ⟨fun k o u hs => ⟨?_, hs.2⟩, fun _ _ _ h => h, fun j sz es v m hr => ?_, fun j hd => ?_⟩
    · by_cases hkb : k = b
      · subst hkb; exact hst o u hs
      · show w'.cell? _ = _
        rw [hcell k o hkb]; exact hs.1
    · by_cases hj : j = i
      · subst hj
        rw [hi] at hr; injection hr with hr
        obtain ⟨sz', es', m', rfl⟩ := hrow sz es v m hr
        exact .inr ⟨sz', es', v, m', hself, Nat.le_refl _, fun _ => rfl⟩
      · exact .inr ⟨sz, es, v, m, by show (E.H.set i ab')[j]? = _; rw [hoth j hj, hr], Nat.le_refl _, fun _ => rfl⟩
    · by_cases hj : j = i
      · subst hj; rw [hi] at hd; injection hd with hd; exact absurd hd hdead
      · show (E.H.set i ab')[j]? = _; rw [hoth j hj, hd]
  obtain ⟨hpb1, hpb2, hpb3, hpb4⟩ := h.phi i pv b hφ
  refine ⟨⟨h.below.trans ⟨hos, htape, hout, by show _ ≤ w'.heap.size; omega, fun k hk => hother k (by omega)⟩, h.old, fun k o hm => by rw [show ({ E with w := w', H := E.H.set i ab' } : Env).w.heap.size = E.w.heap.size from hsize]; exact h.mlt k o hm, fun j v c hp => ?_, h.inj, fun j x hx => ?_, fun g cs hg => RepAt.mono cs hle.bare (h.glob g cs hg)⟩, hle⟩
  · obtain ⟨⟨x, k1⟩, k2, k3, k4⟩ := h.phi j v c hp
    refine ⟨?_, ?_, k3, by rw [show ({ E with w := w', H := E.H.set i ab' } : Env).w.heap.size = E.w.heap.size from hsize]; exact k4⟩
    · by_cases hj : j = i
      · subst hj; exact ⟨ab', hself⟩
      · exact ⟨x, by show (E.H.set i ab')[j]? = _; rw [hoth j hj, k1]⟩
    · by_cases hj : j = i
      · subst hj; show (E.H.set j ab')[j]? ≠ _; rw [hself]; simpa using hhole
      · show (E.H.set i ab')[j]? ≠ _; rw [hoth j hj]; exact k2
  · by_cases hj : j = i
    · subst hj
      have : x = ab' := by
        have h1 : (E.H.set j ab')[j]? = some x := hx
        rw [hself] at h1; injection h1 with h1; exact h1.symm
      subst this
      exact hk hle
    · have h1 : E.H[j]? = some x := by rw [← hoth j hj]; exact hx
      refine HOK.mono hle rfl rfl (fun v c hc => ⟨hother c ?_, fun _ => Iff.rfl⟩) (h.blk j x h1)
      rintro rfl
      exact hj (h.inj j v i pv c hc hφ)
end
end Go.Ab

/- The abstract machine: what is read. -/
set_option linter.unusedVariables false
set_option linter.unusedSimpArgs false
namespace Go.Ab
open Go Go.RowKit

theorem RepAt.of {E : Env} : ∀ {cs : List V} {xs : List Value} {b o : Nat}, RepL E cs xs → (∀ j x, xs[j]? = some x → E.stab b (o + j) x) → RepAt E cs b o
  | [], xs, b, o, h, hs => by simp only [RepAt]
  | c :: cs, xs, b, o, h, hs => by
    simp only [RepL] at h
    obtain ⟨y, ys, rfl, h1, h2⟩ := h
    simp only [RepAt]
    refine ⟨⟨y, by simpa using hs 0 y (by simp), h1⟩, RepAt.of h2 fun j x hx => ?_⟩
    have := hs (j + 1) x (by simpa using hx)
    rwa [show o + 1 + j = o + (j + 1) by omega]
theorem RepAt.to {E : Env} : ∀ {cs : List V} {b o : Nat}, RepAt E cs b o → ∃ xs, RepL E cs xs ∧ ∀ j x, xs[j]? = some x → E.stab b (o + j) x
  | [], b, o, h => ⟨[], RepL.nil E, fun j x hx => by simp at hx⟩
  | c :: cs, b, o, h => by
    simp only [RepAt] at h
    obtain ⟨⟨u, h1, h2⟩, h3⟩ := h
    obtain ⟨xs, h4, h5⟩ := h3.to
    refine ⟨u :: xs, RepL.cons h2 h4, fun j x hx => ?_⟩
    cases j with
    | zero => simp at hx; subst hx; simpa using h1
    | succ j =>
      have := h5 j x (by simpa using hx)
      rwa [show o + (j + 1) = o + 1 + j by omega]
theorem RepAt.drop {E : Env} : ∀ {cs : List V} {b o : Nat} (n : Nat), RepAt E cs b o → RepAt E (cs.drop n) b (o + n)
  | _, _, _, 0, h => by simpa using h
  | [], _, _, n + 1, h => by simp [RepAt]
  | c :: cs, b, o, n + 1, h => by
    simp only [RepAt] at h
    have := h.2.drop n
    rw [show o + (n + 1) = o + 1 + n by omega]; simpa using this
theorem RepAt.append {E : Env} : ∀ {cs ds : List V} {b o : Nat}, RepAt E (cs ++ ds) b o ↔ RepAt E cs b o ∧ RepAt E ds b (o + cs.length)
  | [], ds, b, o => by simp [RepAt]
  | c :: cs, ds, b, o => by
    simp only [List.cons_append, RepAt, RepAt.append, List.length_cons]
    rw [show o + 1 + cs.length = o + (cs.length + 1) by omega, and_assoc]

theorem RepEs.cons {E : Env} {sz : Nat} {v : V} {vs : List V} {b o : Nat} : RepEs E sz (v :: vs) b o ↔ (v.cells.length = sz ∧ RepAt E v.cells b o) ∧ RepEs E sz vs b (o + sz) := by
  by_cases hv : ∃ cs, v = .agg cs
  · obtain ⟨cs, rfl⟩ := hv
    simp only [RepEs, V.cells]
  · rw [RepEs.eq_3 _ _ _ _ _ _ (fun cs e => hv ⟨cs, e⟩)]
    have : v.cells = [v] := by
      cases v <;> first | rfl | exact absurd ⟨_, rfl⟩ hv
    rw [this]
    simp only [List.length_singleton, RepAt, and_true]
    constructor <;> rintro ⟨⟨h1, h2⟩, h3⟩ <;> exact ⟨⟨by omega, h2⟩, h3⟩
theorem RepEs.flat {E : Env} {sz : Nat} : ∀ {es : List V} {b o : Nat}, RepEs E sz es b o ↔ (∀ e ∈ es, e.cells.length = sz) ∧ RepAt E (flatV es) b o
  | [], b, o => by simp [RepEs, flatV, RepAt]
  | e :: es, b, o => by
    rw [RepEs.cons, RepEs.flat]
    simp only [flatV, List.flatMap_cons, RepAt.append, List.mem_cons, forall_eq_or_imp]
    constructor
    · rintro ⟨⟨h1, h2⟩, h3, h4⟩
      exact ⟨⟨h1, h3⟩, h2, by rw [h1]; exact h4⟩
    · rintro ⟨⟨h1, h3⟩, h2, h4⟩
      exact ⟨⟨h1, h2⟩, h3, by rw [← h1]; exact h4⟩
theorem RepEs.get {E : Env} {sz : Nat} : ∀ {es : List V} {b o : Nat}, RepEs E sz es b o → ∀ i e, es[i]? = some e → e.cells.length = sz ∧ RepAt E e.cells b (o + i * sz)
  | [], b, o, h, i, e, he => by simp at he
  | u :: es, b, o, h, i, e, he => by
    rw [RepEs.cons] at h
    cases i with
    | zero => simp at he; subst he; exact ⟨h.1.1, by simpa using h.1.2⟩
    | succ i =>
      have := h.2.get i e (by simpa using he)
      refine ⟨this.1, ?_⟩
      have h2 := this.2
      rwa [show o + sz + i * sz = o + (i + 1) * sz by rw [Nat.add_mul]; omega] at h2
theorem RepEs.append {E : Env} {sz : Nat} : ∀ {es fs : List V} {b o : Nat}, RepEs E sz (es ++ fs) b o ↔ RepEs E sz es b o ∧ RepEs E sz fs b (o + es.length * sz)
  | [], fs, b, o => by simp [RepEs]
  | e :: es, fs, b, o => by
    simp only [List.cons_append, RepEs.cons, RepEs.append, List.length_cons]
    rw [show o + sz + es.length * sz = o + (es.length + 1) * sz by rw [Nat.add_mul]; omega]; simp only [and_assoc]
theorem RepEs.take {E : Env} {sz : Nat} {es : List V} {b o : Nat} (n : Nat) (h : RepEs E sz es b o) : RepEs E sz (es.take n) b o := by
  have := h; rw [← List.take_append_drop n es, RepEs.append] at this; exact this.1
theorem RepEs.drop {E : Env} {sz : Nat} {es : List V} {b o : Nat} (n : Nat) (hn : n ≤ es.length) (h : RepEs E sz es b o) : RepEs E sz (es.drop n) b (o + n * sz) := by
  have := h; rw [← List.take_append_drop n es, RepEs.append] at this
  have h2 := this.2
  rwa [List.length_take, Nat.min_eq_left hn] at h2
theorem flatV_append (es fs : List V) : flatV (es ++ fs) = flatV es ++ flatV fs := by simp [flatV]
theorem flatV_length {sz : Nat} : ∀ {es : List V}, (∀ e ∈ es, e.cells.length = sz) → (flatV es).length = es.length * sz
  | [], _ => by simp [flatV]
  | e :: es, h => by
    have h1 := flatV_length (es := es) fun x hx => h x (by simp [hx])
    simp only [flatV, List.flatMap_cons, List.length_append, List.length_cons] at h1 ⊢
    rw [h1, h e (by simp), Nat.add_mul]; omega
theorem flatV_get {sz : Nat} : ∀ {es : List V}, (∀ e ∈ es, e.cells.length = sz) → ∀ i e, es[i]? = some e → ((flatV es).drop (i * sz)).take sz = e.cells
  | [], _, i, e, he => by simp at he
  | u :: es, h, i, e, he => by
    have hu := h u (by simp)
    simp only [flatV, List.flatMap_cons]
    cases i with
    | zero => simp at he; subst he; simp [← hu]
    | succ i =>
      have := flatV_get (es := es) (fun x hx => h x (by simp [hx])) i e (by simpa using he)
      rw [show (i + 1) * sz = u.cells.length + i * sz by rw [hu, Nat.add_mul]; omega, ← List.drop_drop, List.drop_left]
      exact this

theorem takeN_eq : ∀ {n : Nat} {cs ds : List V}, takeN n cs = some ds → ds = cs.take n ∧ n ≤ cs.length
  | 0, cs, ds, h => by simp [takeN] at h; subst h; simp
  | n + 1, [], ds, h => by simp [takeN] at h
  | n + 1, c :: cs, ds, h => by
    simp only [takeN, Option.map_eq_some_iff] at h
    obtain ⟨es, h1, rfl⟩ := h
    obtain ⟨h2, h3⟩ := takeN_eq h1
    exact ⟨by simp [h2], by simpa using h3⟩

/-- What is known of a type by tdOf. -/
theorem tdOf_some {P : Program} {t : TypeId} {d : TD} (h : tdOf P t = some d) : ∃ i ds z, P.info? t = some i ∧ P.underlying t = some ds ∧ i.zero = some z ∧ z.cells.toList.all Value.oneCell' = true ∧ d = ⟨i.size, aggOf P t, shOf P ds, z.cells.toList.map ofCell, flatOf P t⟩ := by
  unfold tdOf at h
  split at h
  · rename_i i ds h1 h2
    split at h
    · rename_i z hz
      split at h
      · rename_i hc; injection h with h; exact ⟨i, ds, z, h1, h2, hz, hc, h.symm⟩
      · cases h
    · cases h
  · cases h

variable {P : Program}
/-- A load of cells that are there. -/
theorem run_loadVar {t : TypeId} {d : TD} (ht : tdOf P t = some d) {E : Env} {w : World} {b o : Nat} {cs : List V} {xs : List Value} (hr : RepL E cs xs)
    (hx : ∀ j x, xs[j]? = some x → w.cell? ⟨b, o + j, none⟩ = some x) {v : V} (hv : partV d.isAgg d.size cs = some v) :
    ∃ x, (loadVar t ⟨b, o, none⟩).run P w = .ok x w ∧ Rep E v x := by
  obtain ⟨i, ds, z, h1, h2, h3, _, rfl⟩ := tdOf_some ht
  simp only [partV] at hv
  by_cases hg : aggOf P t = true
  · simp only [hg, if_true, Option.map_eq_some_iff] at hv
    obtain ⟨ds', hd, rfl⟩ := hv
    obtain ⟨rfl, hl⟩ := takeN_eq hd
    have hlx : i.size ≤ xs.length := by rw [hr.length]; exact hl
    refine ⟨.agg (xs.take i.size).toArray, ?_, ?_⟩
    · have hrow : ds.isRow = true := by
        unfold aggOf at hg; rw [h2] at hg
        cases ds <;> simp_all [TypeDesc.isRow]
      exact run_loadVar_mid w b o t (xs.take i.size) ds (fun j u hu => hx j u (by
        rw [List.getElem?_take] at hu; split at hu
        · exact hu
        · cases hu)) h2 hrow (by simp [h1, Nat.min_eq_left hlx])
    · simp only [Rep]; exact ⟨_, rfl, hr.take _⟩
  · simp only [hg, if_false] at hv
    cases cs with
    | nil => simp at hv
    | cons c cs =>
      simp at hv; subst hv
      simp only [RepL] at hr
      obtain ⟨y, ys, rfl, k1, k2⟩ := hr
      refine ⟨y, ?_, k1⟩
      have hc := hx 0 y (by simp)
      simp only [Nat.add_zero] at hc
      have hag : (isAgg t).run P w = .ok false w := by
        unfold isAgg; rw [Sem.run_bind, run_underlying h2 w]
        unfold aggOf at hg; rw [h2] at hg
        cases ds <;> simp_all
      simp [loadVar, hag, hc]
end Go.Ab

/- The abstract machine: one operation, sound. -/
set_option linter.unusedVariables false
set_option linter.unusedSimpArgs false
namespace Go.Ab
open Go Go.RowKit

theorem chk_eq : ∀ (n : Nat) (xs : List V), (xs.length = n ∧ xs.all oneV = true) ↔ chk n xs = true
  | 0, [] => by simp [chk]
  | 0, x :: xs => by simp [chk]
  | n + 1, [] => by simp [chk]
  | n + 1, x :: xs => by
    simp only [List.length_cons, List.all_cons, Bool.and_eq_true, chk, ← chk_eq n xs]
    constructor
    · rintro ⟨h1, h2, h3⟩; exact ⟨h2, by omega, h3⟩
    · rintro ⟨h2, h1, h3⟩; exact ⟨by omega, h2, h3⟩
theorem over_sound {E : Env} : ∀ {cs xs cs' : List V} {zs ys : List Value}, RepL E cs zs → RepL E xs ys → over cs xs = some cs' → ys.length ≤ zs.length ∧ RepL E cs' (ys ++ zs.drop ys.length)
  | cs, [], cs', zs, ys, h, k, ho => by
    simp only [RepL] at k; subst k
    cases cs <;> (simp only [over] at ho; injection ho with ho; subst ho; exact ⟨Nat.zero_le _, by simpa using h⟩)
  | [], x :: xs, cs', zs, ys, h, k, ho => by simp [over] at ho
  | c :: cs, x :: xs, cs', zs, ys, h, k, ho => by
    simp only [over, Option.map_eq_some_iff] at ho
    obtain ⟨ds, h1, rfl⟩ := ho
    simp only [RepL] at h k
    obtain ⟨z, zs, rfl, h2, h3⟩ := h
    obtain ⟨y, ys, rfl, k2, k3⟩ := k
    obtain ⟨h4, h5⟩ := over_sound h3 k3 h1
    exact ⟨by simpa using h4, by simpa using RepL.cons k2 h5⟩
theorem splice_sound {E : Env} : ∀ {n : Nat} {cs xs cs' : List V} {zs ys : List Value}, RepL E cs zs → RepL E xs ys → splice cs n xs = some cs' →
    n + ys.length ≤ zs.length ∧ RepL E cs' (zs.take n ++ ys ++ zs.drop (n + ys.length))
  | 0, cs, xs, cs', zs, ys, h, k, ho => by
    simp only [splice] at ho
    obtain ⟨h1, h2⟩ := over_sound h k ho
    exact ⟨by omega, by simpa using h2⟩
  | n + 1, [], xs, cs', zs, ys, h, k, ho => by simp [splice] at ho
  | n + 1, c :: cs, xs, cs', zs, ys, h, k, ho => by
    simp only [splice, Option.map_eq_some_iff] at ho
    obtain ⟨ds, h1, rfl⟩ := ho
    simp only [RepL] at h
    obtain ⟨z, zs, rfl, h2, h3⟩ := h
    obtain ⟨h4, h5⟩ := splice_sound h3 k h1
    refine ⟨by simp; omega, ?_⟩
    rw [show n + 1 + ys.length = (n + ys.length) + 1 by omega]
    simpa using RepL.cons h2 h5
theorem splice_length : ∀ {n : Nat} {cs xs cs' : List V}, splice cs n xs = some cs' → cs'.length = cs.length
  | 0, cs, xs, cs', h => by
    simp only [splice] at h
    induction xs generalizing cs cs' with
    | nil => cases cs <;> (simp [over] at h; subst h; rfl)
    | cons x xs ih =>
      cases cs with
      | nil => simp [over] at h
      | cons c cs =>
        simp only [over, Option.map_eq_some_iff] at h
        obtain ⟨ds, h1, rfl⟩ := h
        simp [ih _ _ h1]
  | n + 1, [], xs, cs', h => by simp [splice] at h
  | n + 1, c :: cs, xs, cs', h => by
    simp only [splice, Option.map_eq_some_iff] at h
    obtain ⟨ds, h1, rfl⟩ := h
    simp [splice_length h1]
theorem Rep.one {E : Env} {v : V} {x : Value} (h : oneV v = true) (hr : Rep E v x) : x.oneCell' = true := by
  cases v <;> simp [oneV] at h <;> simp only [Rep] at hr
  · exact hr.1 ▸ hr.2
  · obtain ⟨b, _, rfl⟩ := hr; rfl
  · obtain ⟨⟨a, rfl⟩, _⟩ := hr; rfl
  · obtain ⟨b, o, rfl, _⟩ := hr; rfl
  · obtain ⟨a, n, c, rfl, _⟩ := hr; rfl
  · obtain ⟨⟨a, n, c, rfl⟩, _⟩ := hr; rfl
  · obtain ⟨b, c, _, rfl, _⟩ := hr; rfl
  · obtain ⟨xs, ys, rfl, _⟩ := hr; rfl
  · obtain ⟨y, rfl, _⟩ := hr; rfl
  · obtain ⟨b, _, rfl⟩ := hr; rfl
/-- A value's cells. -/
theorem Rep.cells {E : Env} {v : V} {x : Value} (hr : Rep E v x) (hv : v ≠ .any) : RepL E v.cells x.cells.toList := by
  have one : ∀ {y : Value}, y.oneCell' = true → y.cells.toList = [y] := by intro y hy; cases y <;> simp_all [Value.cells, Value.oneCell']
  cases v with
  | any => exact absurd rfl hv
  | agg cs => simp only [Rep] at hr; obtain ⟨xs, rfl, h⟩ := hr; simpa [V.cells, Value.cells] using h
  | tup vs =>
    have h := hr
    simp only [Rep] at h; obtain ⟨xs, rfl, _⟩ := h
    exact RepL.cons hr (RepL.nil E)
  | _ => rw [one (Rep.one rfl hr)]; exact RepL.cons hr (RepL.nil E)
theorem RepL.one {E : Env} : ∀ {vs : List V} {xs : List Value}, vs.all oneV = true → RepL E vs xs → ∀ x ∈ xs, x.oneCell' = true
  | [], xs, _, h, x, hx => by simp only [RepL] at h; subst h; simp at hx
  | v :: vs, xs, ha, h, x, hx => by
    simp only [RepL] at h
    obtain ⟨y, ys, rfl, h1, h2⟩ := h
    simp at ha
    rcases List.mem_cons.1 hx with rfl | hx
    · exact Rep.one ha.1 h1
    · exact RepL.one (by simpa using ha.2) h2 x hx
theorem not_any_of_one {v : V} (h : v.cells.all oneV = true) : v ≠ .any := by
  rintro rfl; simp [V.cells, oneV] at h

section
variable {P : Program} {G : Glob} {w0 : World} {M0 : Nat → Nat → Prop} {E : Env} {a : Act} {fr : List V}

theorem evalO_sound (hE : EOK G w0 M0 E) (hfr : RepL E fr a.tmps.toList) (x : Operand) : Rep E (evalO G fr x) (a.eval x) := by
  cases x with
  | tmp t =>
    have := hfr.getD t
    simpa [evalO, Act.eval, List.getD_eq_getElem?_getD, Array.getD_eq_getD_getElem?] using this
  | const v => exact Rep.ofConst E v
  | global g =>
    simp only [evalO, Act.eval]
    cases h : G.lookup g with
    | none => simp [Rep]
    | some cs => simp only [Rep]; exact ⟨g, 0, rfl, hE.glob g cs h⟩
  | func f => simp only [evalO, Act.eval, Rep]; exact ⟨[], [], rfl, RepL.nil E, RepL.nil E⟩
theorem evalL_sound (hE : EOK G w0 M0 E) (hfr : RepL E fr a.tmps.toList) : ∀ (xs : List Operand), RepL E (xs.map (evalO G fr)) (xs.map a.eval)
  | [] => RepL.nil E
  | x :: xs => RepL.cons (evalO_sound hE hfr x) (evalL_sound hE hfr xs)

/-- What an operation comes to. -/
def Comes (P : Program) (G : Glob) (w0 : World) (M0 : Nat → Nat → Prop) (E : Env) (a : Act) (o : Oper) (v : V) (H' : List AB) : Prop :=
  ∃ x E', ((execOp a.eval o).run P E.w = .ok (.value x) E'.w ∨ ((execOp a.eval o).run P E.w = .ok .skip E'.w ∧ x = undef)) ∧ E'.H = H' ∧ E.le E' ∧ EOK G w0 M0 E' ∧ Rep E' v x

theorem Comes.pure {o : Oper} {v : V} {x : Value} (hE : EOK G w0 M0 E) (h : (execOp a.eval o).run P E.w = .ok (.value x) E.w) (hr : Rep E v x) : Comes P G w0 M0 E a o v E.H :=
  ⟨x, E, .inl h, rfl, Env.le.refl E, hE, hr⟩

theorem row_elem {E : Env} {sz n : Nat} {es : List V} {C : Array Value} (h : ∀ e ∈ es, e.cells.length = sz) (hr : RepL E (flatV es) (C.toList.take (n * sz))) {i : Nat} {e : V} (he : es[i]? = some e) :
    ∃ xs, RepL E e.cells xs ∧ ∀ j x, xs[j]? = some x → C[i * sz + j]? = some x := by
  refine ⟨(((C.toList.take (n * sz)).drop (i * sz)).take sz), ?_, fun j x hx => ?_⟩
  · rw [← flatV_get h i e he]; exact (hr.drop _).take _
  · rw [List.getElem?_take] at hx
    split at hx
    · rw [List.getElem?_drop, List.getElem?_take] at hx
      split at hx
      · simpa using hx
      · cases hx
    · cases hx
/-- The cells that a pointer leads to. -/
theorem loadV_sound (hE : EOK G w0 M0 E) {t : TypeId} {d : TD} (ht : tdOf P t = some d) {p v : V} {x : Value} (hp : Rep E p x) (h : loadV E.H d p = some v) :
    ∃ b o y, x = .pointer (some ⟨b, o, none⟩) ∧ (loadVar t ⟨b, o, none⟩).run P E.w = .ok y E.w ∧ Rep E v y := by
  cases p <;> simp only [loadV] at h <;> try (cases h; done)
  · rename_i i off
    split at h
    · rename_i cs hi
      simp only [Rep] at hp
      obtain ⟨b, h1, rfl⟩ := hp
      obtain ⟨b', C, e, k1, k2, k3, k4⟩ := hE.blk i _ hi
      rw [h1] at k1; injection k1 with k1; subst k1
      obtain ⟨y, hy, hv⟩ := run_loadVar (P := P) ht (w := E.w) (b := b) (o := off) (k3.drop off) (fun j u hu => by
        rw [cell_of_row E.w b (off + j) C e (0, 0) k2]
        rw [List.getElem?_drop] at hu
        simpa using hu) h
      exact ⟨b, off, y, rfl, hy, hv⟩
    · cases h
  · rename_i i ver idx sz off
    split at h
    · rename_i sz' es v' imm hi
      split at h
      · rename_i hver
        obtain ⟨rfl, rfl⟩ := hver
        simp only [Option.bind_eq_some_iff] at h
        obtain ⟨e, he, h⟩ := h
        simp only [Rep, hi] at hp
        obtain ⟨_, _, hp⟩ := hp
        obtain ⟨b, h1, rfl⟩ := hp trivial
        obtain ⟨a', n, c, k1, k2, k3, k4, k5, k6⟩ := hE.blk i _ hi
        rcases k6 with ⟨k6, _⟩ | ⟨b', C, ty, k6, k7, k8, k9, k10, k11, k12⟩
        · have : es = [] := List.eq_nil_of_length_eq_zero (by omega)
          subst this; simp at he
        · rw [h1] at k6; injection k6 with k6; subst k6
          obtain ⟨xs, hx, hc⟩ := row_elem k5.1 k10 he
          obtain ⟨y, hy, hv⟩ := run_loadVar (P := P) ht (w := E.w) (b := b) (o := idx * sz + off) (hx.drop off) (fun j u hu => by
            rw [List.getElem?_drop] at hu
            rw [cell_of_row E.w b _ C ty (0, 0) k8, Nat.add_assoc]
            exact hc _ _ hu) h
          exact ⟨b, _, y, rfl, hy, Rep.mono _ E.bare_le hv⟩
      · cases h
    · cases h
  · rename_i cs
    simp only [Rep] at hp
    obtain ⟨b, o, rfl, h1⟩ := hp
    obtain ⟨xs, h2, h3⟩ := h1.to
    obtain ⟨y, hy, hv⟩ := run_loadVar (P := P) ht (w := E.w) (b := b) (o := o) h2 (fun j u hu => (h3 j u hu).1) h
    exact ⟨b, o, y, rfl, hy, Rep.mono _ E.bare_le hv⟩

mutual
theorem fz_sound (hE : EOK G w0 M0 E) : (v : V) → ∀ {v' : V} {x : Value}, Rep E v x → fz E.H v = some v' → Rep E.bare v' x
  | .val v, v', x, h, k => by simp only [fz] at k; injection k with k; subst k; simpa only [Rep] using h
  | .sl es m, v', x, h, k => by
    simp only [fz] at k; injection k with k; subst k
    simp only [Rep] at h ⊢
    obtain ⟨a, n, c, h1, h2, h3, h4, _, _, h7⟩ := h
    exact ⟨a, n, c, h1, h2, h3, h4, by simp, by simp, h7⟩
  | .cp cs, v', x, h, k => by simp only [fz] at k; injection k with k; subst k; simpa only [Rep, Env.bare_bare] using h
  | .row i ver, v', x, h, k => by
    simp only [fz, fzRow] at k
    split at k
    · rename_i sz es v hi
      split at k
      · rename_i hv; subst hv
        injection k with k; subst k
        simp only [Rep, hi] at h
        obtain ⟨_, _, h⟩ := h
        have h := h trivial
        obtain ⟨a', n, c, k1, k2, k3, k4, k5, k6⟩ := hE.blk i _ hi
        simp only [Rep]
        refine ⟨a', n, c, h.trans k1, k2, k3, k4, by simp, by simp, fun hne => ?_⟩
        rcases k6 with ⟨k6, _⟩ | ⟨b, C, ty, k6, k7, k8, k9, k10, k11, k12⟩
        · exact absurd (List.eq_nil_of_length_eq_zero (by omega)) hne
        · refine ⟨sz, b, 0, k7, RepEs.flat.2 ⟨k5.1, RepAt.of k10 fun j u hu => ?_⟩⟩
          rw [List.getElem?_take] at hu
          split at hu
          · rename_i hj
            refine ⟨?_, fun hm => ?_⟩
            · show E.w.cell? _ = _
              rw [cell_of_row E.w b _ C ty (0, 0) k8]; simpa using hu
            · have := (k12 (0 + j) (by omega)).1 hm; cases this
          · cases hu
      · cases k
    · cases k
  | .agg cs, v', x, h, k => by
    simp only [fz, Option.map_eq_some_iff] at k
    obtain ⟨cs', k1, rfl⟩ := k
    simp only [Rep] at h ⊢
    obtain ⟨xs, rfl, h2⟩ := h
    exact ⟨xs, rfl, fzL_sound hE cs h2 k1⟩
  | .tup cs, v', x, h, k => by
    simp only [fz, Option.map_eq_some_iff] at k
    obtain ⟨cs', k1, rfl⟩ := k
    simp only [Rep] at h ⊢
    obtain ⟨xs, rfl, h2⟩ := h
    exact ⟨xs, rfl, fzL_sound hE cs h2 k1⟩
  | .fn f fa fb, v', x, h, k => by
    simp only [fz, Option.bind_eq_some_iff, Option.map_eq_some_iff] at k
    obtain ⟨a', k1, b', k2, rfl⟩ := k
    simp only [Rep] at h ⊢
    obtain ⟨xs, ys, rfl, h2, h3⟩ := h
    exact ⟨xs, ys, rfl, fzL_sound hE fa h2 k1, fzL_sound hE fb h3 k2⟩
  | .iface t v, v', x, h, k => by
    simp only [fz, Option.map_eq_some_iff] at k
    obtain ⟨u, k1, rfl⟩ := k
    simp only [Rep] at h ⊢
    obtain ⟨y, rfl, h2⟩ := h
    exact ⟨y, rfl, fz_sound hE v h2 k1⟩
  | .any, v', x, h, k => by simp [fz] at k
  | .ptr _ _, v', x, h, k => by simp [fz] at k
  | .ptrE _ _ _ _ _, v', x, h, k => by simp [fz] at k
  | .vs _ _ _ _, v', x, h, k => by simp [fz] at k
  | .mp _, v', x, h, k => by simp [fz] at k
theorem fzL_sound (hE : EOK G w0 M0 E) : (vs : List V) → ∀ {vs' : List V} {xs : List Value}, RepL E vs xs → fzL E.H vs = some vs' → RepL E.bare vs' xs
  | [], vs', xs, h, k => by simp only [fzL] at k; injection k with k; subst k; simpa only [RepL] using h
  | v :: vs, vs', xs, h, k => by
    simp only [fzL, Option.bind_eq_some_iff, Option.map_eq_some_iff] at k
    obtain ⟨v', k1, ws, k2, rfl⟩ := k
    simp only [RepL] at h
    obtain ⟨y, ys, rfl, h1, h2⟩ := h
    exact RepL.cons (fz_sound hE v h1 k1) (fzL_sound hE vs h2 k2)
end

theorem flat_set {E : Env} {sz : Nat} {ys : List Value} {xs : List V} (hx : RepL E xs ys) : ∀ {es : List V} {idx off : Nat} {e e' : V} {zs : List Value}, (∀ e ∈ es, e.cells.length = sz) → RepL E (flatV es) zs → es[idx]? = some e → splice e.cells off xs = some e'.cells →
    idx * sz + off + ys.length ≤ zs.length ∧ off + ys.length ≤ sz ∧ RepL E (flatV (es.set idx e')) (zs.take (idx * sz + off) ++ ys ++ zs.drop (idx * sz + off + ys.length))
  | [], idx, off, e, e', zs, hl, h, he, hs => by simp at he
  | u :: es, 0, off, e, e', zs, hl, h, he, hs => by
    simp at he; subst he
    simp only [flatV, List.flatMap_cons] at h
    obtain ⟨z1, z2, rfl, h1, h2⟩ := h.split
    obtain ⟨k1, k2⟩ := splice_sound h1 hx hs
    have hz : z1.length = sz := by rw [h1.length]; exact hl u (by simp)
    refine ⟨by simp; omega, by omega, ?_⟩
    simp only [List.set_cons_zero, flatV, List.flatMap_cons, Nat.zero_mul, Nat.zero_add]
    rw [List.take_append_of_le_length (by omega), List.drop_append_of_le_length (by omega), ← List.append_assoc]
    exact k2.append h2
  | u :: es, idx + 1, off, e, e', zs, hl, h, he, hs => by
    simp only [flatV, List.flatMap_cons] at h
    obtain ⟨z1, z2, rfl, h1, h2⟩ := h.split
    have hz : z1.length = sz := by rw [h1.length]; exact hl u (by simp)
    obtain ⟨k1, k0, k2⟩ := flat_set hx (es := es) (fun e he => hl e (by simp [he])) h2 (by simpa using he) hs
    have e1 : (idx + 1) * sz + off = z1.length + (idx * sz + off) := by rw [hz, Nat.add_mul]; omega
    refine ⟨by rw [e1]; simp; omega, k0, ?_⟩
    simp only [List.set_cons_succ, flatV, List.flatMap_cons]
    rw [e1, List.take_length_add_append, show z1.length + (idx * sz + off) + ys.length = z1.length + (idx * sz + off + ys.length) by omega, List.drop_length_add_append]
    simpa [flatV, List.append_assoc] using h1.append k2

theorem set_cells {sz : Nat} {es : List V} {idx : Nat} {e' : V} (hl : ∀ e ∈ es, e.cells.length = sz) (he' : e'.cells.length = sz) : ∀ e ∈ es.set idx e', e.cells.length = sz := by
  intro e he
  rcases List.mem_or_eq_of_mem_set he with h | h
  · exact hl e h
  · rw [h]; exact he'

theorem run_storeAt {t : TypeId} {d : TD} (ht : tdOf P t = some d) {w w' : World} {b o : Nat} {y : Value} (hy : y.cells.toList.length = d.size)
    (hs : (storeCells ⟨b, o, none⟩ y.cells.toList).run P w = .ok () w') : (Instr.storeAt t (.pointer (some ⟨b, o, none⟩)) y).run P w = .ok () w' := by
  obtain ⟨i, ds, z, h1, h2, h3, _, rfl⟩ := tdOf_some ht
  have : y.cells.size = i.size := by simpa using hy
  simp [Instr.storeAt, Instr.sureAddr, storeVar, sizeOf, typeInfo, h1, this, hs]

theorem storeV_sound (hE : EOK G w0 M0 E) {t : TypeId} {d : TD} (ht : tdOf P t = some d) {p : V} {px y : Value} {vs : List V} {u : Upd} (hp : Rep E p px) (hv : RepL E vs y.cells.toList) (h1 : vs.all oneV = true) (hl : vs.length = d.size)
    (h : storeV E.H vs p = some u) : ∃ E', (Instr.storeAt t px y).run P E.w = .ok () E'.w ∧ u.new = none ∧ E'.H = setH E.H u.sets ∧ E.le E' ∧ EOK G w0 M0 E' := by
  have hone := RepL.one h1 hv
  have hyl : y.cells.toList.length = d.size := by rw [hv.length]; exact hl
  cases p <;> simp only [storeV] at h <;> try (cases h; done)
  · rename_i i off
    split at h
    · rename_i cs hi
      simp only [Option.map_eq_some_iff] at h
      obtain ⟨cs', hsp, rfl⟩ := h
      simp only [Rep] at hp
      obtain ⟨b, hb, rfl⟩ := hp
      obtain ⟨b', C, ty, k1, k2, k3, k4⟩ := hE.blk i _ hi
      rw [hb] at k1; injection k1 with k1; subst k1
      obtain ⟨k5, k6⟩ := splice_sound k3 hv hsp
      have hst := run_storeCells_at P b off ty y.cells.toList 0 C E.w k2 (by simpa using k5) hone
      simp only [Nat.add_zero] at hst
      obtain ⟨g1, g2⟩ := hE.write (E.w.setRow b (C.toList.take off ++ y.cells.toList ++ C.toList.drop (off + y.cells.toList.length)).toArray) i b _ (.var cs') hb hi (by simp) rfl rfl rfl
        (fun k hk => setRow_other E.w b k _ hk) (fun o u hs => absurd (k4 o) hs.2) (fun _ _ _ _ e => by cases e) (by simp) (by simp)
        (fun hle => ⟨b, _, ty, hb, setRow_heap E.w b C _ ty (0, 0) k2, RepL.mono _ hle (by simpa using k6), k4⟩)
      exact ⟨_, run_storeAt ht hyl hst, rfl, rfl, g2, g1⟩
    · cases h
  · rename_i i ver idx sz off
    split at h
    · rename_i sz' es v' hi
      split at h
      · rename_i hver
        obtain ⟨rfl, rfl⟩ := hver
        simp only [Option.bind_eq_some_iff] at h
        obtain ⟨xs', hfz, e, he, cs', hsp, h⟩ := h
        have hx' := fzL_sound hE _ hv hfz
        simp only [Rep, hi] at hp
        obtain ⟨_, _, hp⟩ := hp
        obtain ⟨b, hb, rfl⟩ := hp trivial
        obtain ⟨a', n, c, k1, k2, k3, k4, k5, k6⟩ := hE.blk i _ hi
        rcases k6 with ⟨k6, _⟩ | ⟨b', C, ty, k6, k7, k8, k9, k10, k11, k12⟩
        · have : es = [] := List.eq_nil_of_length_eq_zero (by omega)
          subst this; simp at he
        · rw [hb] at k6; injection k6 with k6; subst k6
          have key : ∃ e', cs' = e'.cells ∧ u = ⟨[(i, .row sz (es.set idx e') ver false)], none⟩ := by
            split at h
            · injection h with h; exact ⟨.agg cs', rfl, h.symm⟩
            · cases h
            · rename_i c' _ _
              injection h with h
              exact ⟨c', by cases c' <;> first | rfl | (exfalso; simp_all), h.symm⟩
            · cases h
          obtain ⟨e', rfl, rfl⟩ := key
          obtain ⟨m1, m0, m2⟩ := flat_set hx' k5.1 k10 he hsp
          have hel : e'.cells.length = sz := by rw [splice_length hsp]; exact k5.1 e (List.mem_of_getElem? he)
          have hCl : C.toList.length = c * sz := by simpa using k9
          have hzl : (C.toList.take (n * sz)).length = n * sz := by
            rw [List.length_take, hCl]; exact Nat.min_eq_left (Nat.mul_le_mul_right _ k3)
          rw [hzl] at m1
          have hle2 : n * sz ≤ c * sz := Nat.mul_le_mul_right _ k3
          have hys : y.cells.toList.length = y.cells.size := Array.length_toList
          have hCs : C.toList.length = C.size := Array.length_toList
          have hst := run_storeCells_at P b (idx * sz + off) ty y.cells.toList 0 C E.w k8 (by omega) hone
          simp only [Nat.add_zero] at hst
          have hM : ∀ o, E.M b o := fun o => by
            rcases Nat.lt_or_ge o (n * sz) with ho | ho
            · exact (k12 o ho).2 rfl
            · exact k11 o ho
          have hC' : ((C.toList.take (idx * sz + off) ++ y.cells.toList ++ C.toList.drop (idx * sz + off + y.cells.toList.length)).take (n * sz)) =
              ((C.toList.take (n * sz)).take (idx * sz + off) ++ y.cells.toList ++ (C.toList.take (n * sz)).drop (idx * sz + off + y.cells.toList.length)) := by
            rw [List.append_assoc, List.append_assoc, List.take_append, List.take_append, List.length_take, Nat.min_eq_left (by omega), List.take_of_length_le (l := List.take _ _) (by simp; omega),
              List.take_of_length_le (l := y.cells.toList) (by omega), List.take_take, Nat.min_eq_left (by omega), List.drop_take]
            congr 3; omega
          obtain ⟨g1, g2⟩ := hE.write (E.w.setRow b (C.toList.take (idx * sz + off) ++ y.cells.toList ++ C.toList.drop (idx * sz + off + y.cells.toList.length)).toArray) i b _ (.row sz (es.set idx e') ver false) hb hi (by simp) rfl rfl rfl
            (fun k hk => setRow_other E.w b k _ hk) (fun o u hs => absurd (hM o) hs.2) (fun sz1 es1 v1 m1 e => by injection e with e1 e2 e3 e4; exact ⟨sz, _, false, by rw [e3]⟩) (by simp) (by simp)
            (fun hle => ⟨a', n, c, k1, by simpa using k2, k3, k4, ⟨set_cells k5.1 hel, k5.2⟩, .inr ⟨b, _, ty, hb, k7, setRow_heap E.w b C _ ty (0, 0) k8, by simp only [List.size_toArray, List.length_append, List.length_take, List.length_drop]; omega,
              by rw [List.toList_toArray, hC']; exact RepL.mono _ hle.bare m2, fun o _ => hM o, fun o _ => ⟨fun _ => rfl, fun _ => hM o⟩⟩⟩)
          exact ⟨_, run_storeAt ht hyl hst, rfl, rfl, g2, g1⟩
      · cases h
    · cases h
end
end Go.Ab

/- The abstract machine: every operation of 'eff', sound. -/
set_option linter.unusedVariables false
set_option linter.unusedSimpArgs false
namespace Go.Ab
open Go Go.RowKit
section
variable {P : Program} {G : Glob} {w0 : World} {M0 : Nat → Nat → Prop} {E : Env} {a : Act} {fr : List V}

theorem partV_sound {E : Env} {t : TypeId} {agg : Bool} {n : Nat} {cs : List V} {xs : Array Value} {off : Nat} {v : V} {w : World} {i : TypeInfo} (hi : P.info? t = some i) (hn : n = i.size) (hu : aggOf P t = agg) (hun : (P.underlying t).isSome = true)
    (hr : RepL E cs xs.toList) (h : partV agg n (cs.drop off) = some v) : ∃ x, (part t xs off).run P w = .ok x w ∧ Rep E v x := by
  obtain ⟨ds, hds⟩ := Option.isSome_iff_exists.1 hun
  have hd := hr.drop off
  cases agg with
  | true =>
    simp only [partV, if_true, Option.map_eq_some_iff] at h
    obtain ⟨es, h1, rfl⟩ := h
    obtain ⟨rfl, h2⟩ := takeN_eq h1
    have hag : (isAgg t).run P w = .ok true w := by
      unfold isAgg; rw [Sem.run_bind, run_underlying hds w]
      unfold aggOf at hu; rw [hds] at hu
      cases ds <;> simp_all
    have hsz : (sizeOf t).run P w = .ok i.size w := by simp [sizeOf, typeInfo, hi]
    refine ⟨.agg (xs.extract off (off + n)), by simp [part, hag, hsz, hn], ?_⟩
    simp only [Rep]
    refine ⟨(xs.toList.drop off).take n, ?_, hd.take n⟩
    congr 1
    apply Array.ext'
    simp [List.take_drop, Array.toList_extract]
  | false =>
    simp only [partV, Bool.false_eq_true, if_false] at h
    have hag : (isAgg t).run P w = .ok false w := by
      unfold isAgg; rw [Sem.run_bind, run_underlying hds w]
      unfold aggOf at hu; rw [hds] at hu
      cases ds <;> simp_all
    cases hc : cs.drop off with
    | nil => rw [hc] at h; simp at h
    | cons c ds =>
      rw [hc] at h hd; simp at h; subst h
      simp only [RepL] at hd
      obtain ⟨y, ys, h1, h2, h3⟩ := hd
      have : xs[off]? = some y := by
        have h4 : (xs.toList.drop off)[0]? = some y := by rw [h1]; rfl
        rw [List.getElem?_drop] at h4; simpa using h4
      exact ⟨y, by simp [part, hag, this], h2⟩

theorem foldl_set_list (off : Nat) : ∀ (xs : List Value) (k : Nat) (cs : Array Value), off + k + xs.length ≤ cs.size →
    ((xs.zipIdx k).foldl (fun cs (x : Value × Nat) => cs.setIfInBounds (off + x.2) x.1) cs).toList = cs.toList.take (off + k) ++ xs ++ cs.toList.drop (off + k + xs.length)
  | [], k, cs, h => by simp
  | x :: xs, k, cs, h => by
    simp only [List.length_cons] at h
    simp only [List.zipIdx_cons, List.foldl_cons]
    rw [foldl_set_list off xs (k + 1) (cs.setIfInBounds (off + k) x) (by simp; omega)]
    simp only [Array.toList_setIfInBounds, List.length_cons]
    rw [List.take_set, List.drop_set]
    have h1 : off + k < cs.toList.length := by simp; omega
    rw [if_pos (by omega)]
    rw [show off + (k + 1) = off + k + 1 by omega, List.take_succ_eq_append_getElem h1]
    rw [List.set_append_right _ _ (by simp; omega)]
    simp only [List.length_take, Nat.min_eq_left (Nat.le_of_lt h1), Nat.sub_self, List.set_cons_zero, List.append_assoc, List.cons_append, List.nil_append]
    rw [show off + k + 1 + xs.length = off + k + (xs.length + 1) by omega]

theorem fill_sound {E : Env} (fs : List (Nat × Nat × Bool)) (place : Nat → Option (Nat × Nat)) (hp : ∀ i f, fs[i]? = some f → place i = some (f.1, f.2.1)) : ∀ (ps : List (Nat × V)) (qs : List (Nat × Value)) (cs ds : List V) (xs : Array Value),
    RepL E cs xs.toList → qs.map (·.1) = ps.map (·.1) → RepL E (ps.map (·.2)) (qs.map (·.2)) → buildV fs cs ps = some ds → ∃ ys, Instr.fill place xs qs = some ys ∧ RepL E ds ys.toList
  | [], qs, cs, ds, xs, h, hq, hr, hb => by
    have : qs = [] := by simpa using hq
    subst this
    simp only [buildV] at hb; injection hb with hb; subst hb
    exact ⟨xs, rfl, h⟩
  | (i, v) :: ps, [], cs, ds, xs, h, hq, hr, hb => by simp at hq
  | (i, v) :: ps, (j, x) :: qs, cs, ds, xs, h, hq, hr, hb => by
    simp only [List.map_cons, List.cons.injEq] at hq
    obtain ⟨rfl, hq⟩ := hq
    simp only [List.map_cons, RepL.cons_iff] at hr
    simp only [buildV] at hb
    split at hb
    · rename_i off sz ag hf
      split at hb
      · rename_i hsz
        simp only [Option.bind_eq_some_iff] at hb
        obtain ⟨cs', hs, hb⟩ := hb
        have hc := Rep.cells hr.1 (not_any_of_one hsz.2)
        obtain ⟨k1, k2⟩ := splice_sound h hc hs
        have hlen : x.cells.size = sz := by
          have := hc.length; rw [hsz.1] at this; simpa using this
        have hfold := foldl_set_list off x.cells.toList 0 xs (by simpa using k1)
        have e1 : (x.cells.zipIdx.foldl (fun cs (c : Value × Nat) => cs.setIfInBounds (off + c.2) c.1) xs) = ((x.cells.toList.zipIdx 0).foldl (fun cs (c : Value × Nat) => cs.setIfInBounds (off + c.2) c.1) xs) := by
          rw [← Array.foldl_toList]; simp
        have k2' : RepL E cs' ((x.cells.zipIdx.foldl (fun cs (c : Value × Nat) => cs.setIfInBounds (off + c.2) c.1) xs)).toList := by
          rw [e1, hfold]; simpa using k2
        obtain ⟨ys, h1, h2⟩ := fill_sound fs place hp ps qs cs' ds _ k2' hq hr.2 hb
        refine ⟨ys, ?_, h2⟩
        unfold Instr.fill
        rw [hp j _ hf]
        simp only
        have k1' : off + x.cells.size ≤ xs.size := by simpa using k1
        rw [if_neg (by simp [hlen]; omega)]
        exact h1
      · cases hb
    · cases hb
end
end Go.Ab

/- The abstract machine: every operation of 'eff', sound. -/
set_option linter.unusedVariables false
set_option linter.unusedSimpArgs false
namespace Go.Ab
open Go Go.RowKit
section
variable {P : Program} {G : Glob} {w0 : World} {M0 : Nat → Nat → Prop} {E : Env} {a : Act} {fr : List V} {o : Oper} {nid : Nat} {v : V} {u : Upd} {H' : List AB}

/-- The heap behind an operation. -/
def After (H : List AB) (nid : Nat) (u : Upd) (H' : List AB) : Prop := match u.new with
  | none => H' = setH H u.sets
  | some b => NewAt (setH H u.sets) nid b H'
theorem After.no {H H' : List AB} {nid : Nat} (h : After H nid .no H') : H' = H := h

theorem asBool_bool {b : Bool} (w : World) : (asBool (.bool b)).run P w = .ok b w := rfl

theorem ok_move {x : Operand} (ho : o.op = .move x) (hE : EOK G w0 M0 E) (hfr : RepL E fr a.tmps.toList) : Comes P G w0 M0 E a o (evalO G fr x) E.H :=
  Comes.pure hE (x := a.eval x) (by simp [execOp, ho]) (evalO_sound hE hfr x)
theorem ok_assign {x : Operand} (ho : o.op = .assign x) (hE : EOK G w0 M0 E) (hfr : RepL E fr a.tmps.toList) : Comes P G w0 M0 E a o (evalO G fr x) E.H :=
  Comes.pure hE (x := a.eval x) (by simp [execOp, ho]) (evalO_sound hE hfr x)
theorem ok_pick {c x y : Operand} (ho : o.op = .pick c x y) (hE : EOK G w0 M0 E) (hfr : RepL E fr a.tmps.toList) {t : Bool} (hc : evalO G fr c = .val (.bool t)) :
    Comes P G w0 M0 E a o (bif t then evalO G fr x else evalO G fr y) E.H := by
  have h := evalO_sound hE hfr c
  rw [hc] at h; simp only [Rep] at h
  refine Comes.pure hE (x := if t then a.eval x else a.eval y) (by simp [execOp, ho, h.1, asBool]) ?_
  cases t
  · exact evalO_sound hE hfr y
  · exact evalO_sound hE hfr x

theorem newVar_run (t : TypeId) (y : Value) (w : World) : (newVar t y).run P w = .ok ⟨w.heap.size, 0, none⟩ (w.alloc (.cells y.cells t)) := by
  simp [newVar, newRow]
theorem alloc_at (w : World) (o : Obj) : (w.alloc o).heap[w.heap.size]? = some o := by
  show (w.heap.push o)[_]? = _
  simp
/-- A variable of its own. -/
theorem ok_var {o : Oper} (hE : EOK G w0 M0 E) {t : TypeId} {y : Value} {cs : List V} (hr : RepL E cs y.cells.toList) (hrun : (execOp a.eval o).run P E.w = .ok (.value (.pointer (some ⟨E.w.heap.size, 0, none⟩))) (E.w.alloc (.cells y.cells t)))
    (hn : NewAt E.H nid (.var cs) H') : Comes P G w0 M0 E a o (.ptr nid 0) H' := by
  obtain ⟨h1, h2⟩ := hE.allocOwn (.cells y.cells t) hn (.bool false) (fun _ => True) (by simp)
    (fun hle => ⟨E.w.heap.size, y.cells, t, by simp [Env.allocOwn], alloc_at _ _, RepL.mono _ hle hr, fun o => .inr ⟨rfl, trivial⟩⟩)
  refine ⟨_, _, .inl hrun, rfl, h2, h1, ?_⟩
  simp only [Rep]
  exact ⟨E.w.heap.size, by simp [Env.allocOwn], rfl⟩
theorem ok_alloc {t : TypeId} (ho : o.op = .alloc t) (hE : EOK G w0 M0 E) {d : TD} (ht : tdOf P t = some d) (hn : NewAt E.H nid (.var d.zero) H') : Comes P G w0 M0 E a o (.ptr nid 0) H' := by
  obtain ⟨i, ds, z, h1, h2, h3, h4, rfl⟩ := tdOf_some ht
  refine ok_var hE (t := t) (y := z) (RepL.ofCells E _ h4) ?_ hn
  simp [execOp, ho, Instr.alloc, zeroValue, typeInfo, h1, h3, newVar_run]
theorem ok_box {t : TypeId} {x : Operand} (ho : o.op = .box t x) (hE : EOK G w0 M0 E) (hfr : RepL E fr a.tmps.toList) (hv : evalO G fr x ≠ .any) (hn : NewAt E.H nid (.var (evalO G fr x).cells) H') :
    Comes P G w0 M0 E a o (.ptr nid 0) H' := by
  refine ok_var hE (t := t) (y := a.eval x) (Rep.cells (evalO_sound hE hfr x) hv) ?_ hn
  simp [execOp, ho, Instr.box, newVar_run]

theorem ok_build {t : TypeId} {ps : Array (Nat × Operand)} (ho : o.op = .build t ps) (hE : EOK G w0 M0 E) (hfr : RepL E fr a.tmps.toList) {d : TD} (ht : tdOf P t = some d) {fs : List (Nat × Nat × Bool)} (hd : d.sh = .struct fs)
    {cs : List V} (h : buildV fs d.zero (ps.toList.map fun p => (p.1, evalO G fr p.2)) = some cs) : Comes P G w0 M0 E a o (.agg cs) E.H := by
  obtain ⟨i, ds, z, h1, h2, h3, h4, rfl⟩ := tdOf_some ht
  cases ds <;> simp only [shOf] at hd <;> try (first | cases hd; done | (split at hd <;> cases hd; done))
  rename_i fields
  split at hd
  · rename_i hall
    injection hd with hd; subst hd
    have hpl : fields.toList.mapM (fun f => (P.info? f.type).map fun i => (f.offset, i.size)) = some (fields.toList.map fun f => (f.offset, szOf P f.type)) := by
      generalize fields.toList = l at hall
      induction l with
      | nil => rfl
      | cons f l ih =>
        simp at hall
        obtain ⟨j, hj⟩ := Option.isSome_iff_exists.1 hall.1.1
        have ih := ih (by simpa using hall.2)
        simp [List.mapM_cons, hj, ih, szOf]
    obtain ⟨ys, k1, k2⟩ := fill_sound (E := E) (fields.toList.map fun f => (f.offset, szOf P f.type, aggOf P f.type)) ((fields.toList.map fun f => (f.offset, szOf P f.type)).toArray[·]?)
      (fun i f hf => by simp only [List.getElem?_map, Option.map_eq_some_iff] at hf; obtain ⟨x, hx, rfl⟩ := hf; simp [hx]) (ps.toList.map fun p => (p.1, evalO G fr p.2)) (ps.toList.map fun p => (p.1, a.eval p.2)) _ _ z.cells (RepL.ofCells E _ h4)
      (by simp) (by simpa [Function.comp_def] using evalL_sound hE hfr (ps.toList.map (·.2))) h
    have hb : P.built t (ps.toList.map fun p => (p.1, a.eval p.2)) = some ys := by
      simp only [Program.built, h1, h2, h3, hpl, k1]
    refine Comes.pure hE (x := .agg ys) ?_ (by simp only [Rep]; exact ⟨ys.toList, by simp, k2⟩)
    have := run_build E.w t (ps.map fun p => (p.1, a.eval p.2)) ys (by simpa using hb)
    simp [execOp, ho, this]
  · cases hd

theorem arrFs_get (ea : Bool) (esz : Nat) : ∀ (n off i : Nat) (f : Nat × Nat × Bool), (arrFs n off esz ea)[i]? = some f → (off + i * esz, esz) = (f.1, f.2.1)
  | 0, off, i, f, h => by simp [arrFs] at h
  | n + 1, off, 0, f, h => by simp [arrFs] at h; subst h; simp
  | n + 1, off, i + 1, f, h => by
    simp only [arrFs, List.getElem?_cons_succ] at h
    rw [← arrFs_get ea esz n (off + esz) i f h, Nat.succ_mul]; simp; omega
theorem ok_buildA {t : TypeId} {ps : Array (Nat × Operand)} (ho : o.op = .build t ps) (hE : EOK G w0 M0 E) (hfr : RepL E fr a.tmps.toList) {d : TD} (ht : tdOf P t = some d) {k esz : Nat} {ea : Bool} (hd : d.sh = .array k esz ea)
    {cs : List V} (h : buildV (arrFs k 0 esz ea) d.zero (ps.toList.map fun p => (p.1, evalO G fr p.2)) = some cs) : Comes P G w0 M0 E a o (.agg cs) E.H := by
  obtain ⟨i, ds, z, h1, h2, h3, h4, rfl⟩ := tdOf_some ht
  cases ds <;> simp only [shOf] at hd <;> try (first | cases hd; done | (split at hd <;> cases hd; done))
  rename_i n e
  split at hd
  · rename_i hall
    injection hd with q1 q2 q3; subst q1; subst q2; subst q3
    obtain ⟨ie, hie⟩ := Option.isSome_iff_exists.1 (Bool.and_eq_true _ _ ▸ hall).1
    have hsz : szOf P e = ie.size := by simp [szOf, hie]
    obtain ⟨ys, k1, k2⟩ := fill_sound (E := E) (arrFs n 0 (szOf P e) (aggOf P e)) (fun i => some (i * ie.size, ie.size))
      (fun i f hf => by have := arrFs_get _ _ _ _ _ _ hf; rw [← this, hsz]; simp) (ps.toList.map fun p => (p.1, evalO G fr p.2)) (ps.toList.map fun p => (p.1, a.eval p.2)) _ _ z.cells (RepL.ofCells E _ h4)
      (by simp) (by simpa [Function.comp_def] using evalL_sound hE hfr (ps.toList.map (·.2))) h
    have hb : P.built t (ps.toList.map fun p => (p.1, a.eval p.2)) = some ys := by
      simp only [Program.built, h1, h2, h3, hie, k1]
    refine Comes.pure hE (x := .agg ys) ?_ (by simp only [Rep]; exact ⟨ys.toList, by simp, k2⟩)
    have := run_build E.w t (ps.map fun p => (p.1, a.eval p.2)) ys (by simpa using hb)
    simp [execOp, ho, this]
  · cases hd

theorem ok_load {t : TypeId} {x : Operand} (ho : o.op = .load t x) (hE : EOK G w0 M0 E) (hfr : RepL E fr a.tmps.toList) {d : TD} (ht : tdOf P t = some d) (h : loadV E.H d (evalO G fr x) = some v) : Comes P G w0 M0 E a o v E.H := by
  obtain ⟨b, of, y, hx, hrun, hv⟩ := loadV_sound hE ht (evalO_sound hE hfr x) h
  exact Comes.pure hE (x := y) (by simp [execOp, ho, hx, Instr.loadAt, Instr.sureAddr, hrun]) hv
theorem ok_store {t : TypeId} {p x : Operand} (ho : o.op = .store t p x) (hE : EOK G w0 M0 E) (hfr : RepL E fr a.tmps.toList) {d : TD} (ht : tdOf P t = some d) (hl : (evalO G fr x).cells.length = d.size) (h1 : (evalO G fr x).cells.all oneV = true)
    (h : storeV E.H (evalO G fr x).cells (evalO G fr p) = some u) (hA : After E.H nid u H') : Comes P G w0 M0 E a o undefV H' := by
  obtain ⟨E', k1, k2, k3, k4, k5⟩ := storeV_sound hE ht (evalO_sound hE hfr p) (Rep.cells (evalO_sound hE hfr x) (not_any_of_one h1)) h1 hl h
  refine ⟨undef, E', .inr ⟨by simp [execOp, ho, k1], rfl⟩, ?_, k4, k5, Rep.undef E'⟩
  simp only [After, k2] at hA; rw [k3, hA]

theorem ok_nilCheck {x : Operand} (ho : o.op = .nilCheck x) (hE : EOK G w0 M0 E) (hfr : RepL E fr a.tmps.toList)
    (h : (∃ i k, evalO G fr x = .ptr i k) ∨ (∃ cs, evalO G fr x = .cp cs) ∨ (∃ t y, evalO G fr x = .iface t y) ∨ (∃ f b c, evalO G fr x = .fn (.func f) b c)) : Comes P G w0 M0 E a o (evalO G fr x) E.H := by
  have hr := evalO_sound hE hfr x
  refine Comes.pure hE (x := a.eval x) ?_ hr
  rcases h with ⟨i, k, h⟩ | ⟨cs, h⟩ | ⟨t, y, h⟩ | ⟨f, b, c, h⟩ <;> rw [h] at hr <;> simp only [Rep] at hr
  · obtain ⟨b, _, hr⟩ := hr; simp [execOp, ho, hr]
  · obtain ⟨b, _, hr, _⟩ := hr; simp [execOp, ho, hr]
  · obtain ⟨b, hr, _⟩ := hr; simp [execOp, ho, hr]
  · obtain ⟨xs, ys, hr, _⟩ := hr; simp [execOp, ho, hr]

theorem shOf_struct {ds : TypeDesc} {fs : List (Nat × Nat × Bool)} (h : shOf P ds = .struct fs) : ∃ fields, ds = .struct fields ∧ fs = (fields.toList.map fun f => (f.offset, szOf P f.type, aggOf P f.type)) ∧ fields.toList.all (fun f => (P.info? f.type).isSome && (P.underlying f.type).isSome) = true := by
  cases ds <;> simp only [shOf] at h <;> try (first | (cases h; done) | (split at h <;> cases h; done))
  rename_i fields
  split at h
  · rename_i hall; injection h with h; exact ⟨fields, rfl, h.symm, hall⟩
  · cases h
theorem shOf_array {ds : TypeDesc} {n esz : Nat} {ea : Bool} (h : shOf P ds = .array n esz ea) : ∃ e i, ds = .array n e ∧ P.info? e = some i ∧ esz = i.size ∧ ea = aggOf P e ∧ (P.underlying e).isSome = true := by
  cases ds <;> simp only [shOf] at h <;> try (first | (cases h; done) | (split at h <;> cases h; done))
  rename_i n' e
  split at h
  · rename_i hs
    simp only [Bool.and_eq_true] at hs
    obtain ⟨i, hi⟩ := Option.isSome_iff_exists.1 hs.1
    injection h with h1 h2 h3; exact ⟨e, i, by rw [h1], hi, by rw [← h2]; simp [szOf, hi], h3.symm, hs.2⟩
  · cases h
theorem shOf_slice {ds : TypeDesc} {e esz by_ : Nat} (h : shOf P ds = .slice e esz by_) : ∃ i, ds = .slice e ∧ P.info? e = some i ∧ esz = i.size ∧ by_ = i.bytes := by
  cases ds <;> simp only [shOf] at h <;> try (first | (cases h; done) | (split at h <;> cases h; done))
  rename_i e'
  split at h
  · rename_i i hi
    injection h with h1 h2 h3; subst h1; exact ⟨i, rfl, hi, h2.symm, h3.symm⟩
  · cases h
theorem struct_field {fields : Array Field} {f : Nat} {fd : Nat × Nat × Bool} (h : (fields.toList.map fun f => (f.offset, szOf P f.type, aggOf P f.type))[f]? = some fd) : ∃ g, fields[f]? = some g ∧ fd = (g.offset, szOf P g.type, aggOf P g.type) := by
  rw [List.getElem?_map] at h
  simp only [Option.map_eq_some_iff] at h
  obtain ⟨g, h1, h2⟩ := h
  exact ⟨g, by simpa using h1, h2.symm⟩
theorem Addr.add_none (b o n : Nat) : (⟨b, o, none⟩ : Addr).add n = ⟨b, o + n, none⟩ := Addr.add_mid b o n

theorem ok_fieldAddr {t : TypeId} {x : Operand} {f : Nat} (ho : o.op = .fieldAddr t x f) (hE : EOK G w0 M0 E) (hfr : RepL E fr a.tmps.toList) {d : TD} (ht : tdOf P t = some d) {fs : List (Nat × Nat × Bool)} (hd : d.sh = .struct fs)
    {fd : Nat × Nat × Bool} (hf : fs[f]? = some fd) (h0 : fd.2.1 ≠ 0) (h : fieldAddrV E.H fd (evalO G fr x) = some v) : Comes P G w0 M0 E a o v E.H := by
  obtain ⟨i, ds, z, h1, h2, h3, h4, rfl⟩ := tdOf_some ht
  obtain ⟨fields, rfl, rfl, hall⟩ := shOf_struct hd
  obtain ⟨g, hg, rfl⟩ := struct_field hf
  have hr := evalO_sound hE hfr x
  have hsz : ∃ j, P.info? g.type = some j ∧ j.size ≠ 0 := by
    simp only [szOf] at h0
    split at h0
    · rename_i j hj; exact ⟨j, hj, h0⟩
    · exact absurd rfl h0
  obtain ⟨j, hj, hj0⟩ := hsz
  have hrun : ∀ b k, a.eval x = .pointer (some ⟨b, k, none⟩) → (execOp a.eval o).run P E.w = .ok (.value (.pointer (some ⟨b, k + g.offset, none⟩))) E.w := by
    intro b k hx
    simp [execOp, ho, hx, Instr.fieldAt, run_underlying h2, hg, Instr.sureAddr, fieldPlace, sizeOf, typeInfo, hj, hj0, Addr.add_none]
  generalize evalO G fr x = y at hr h
  cases y <;> simp only [fieldAddrV] at h <;> try (cases h; done)
  · injection h with h; subst h
    simp only [Rep] at hr
    obtain ⟨b, k1, k2⟩ := hr
    exact Comes.pure hE (hrun b _ k2) (by simp only [Rep]; exact ⟨b, k1, rfl⟩)
  · rename_i i' ver idx sz off
    split at h
    · rename_i hi
      split at h
      · rename_i hv; subst hv
        injection h with h; subst h
        simp only [Rep, hi] at hr
        obtain ⟨_, _, hr⟩ := hr
        obtain ⟨b, k1, k2⟩ := hr trivial
        exact Comes.pure hE (hrun b _ k2) (by simp only [Rep, hi]; exact ⟨⟨_, rfl⟩, Nat.le_refl _, fun _ => ⟨b, k1, by rw [Nat.add_assoc]⟩⟩)
      · cases h
    · cases h
  · injection h with h; subst h
    simp only [Rep] at hr
    obtain ⟨b, k, k1, k2⟩ := hr
    exact Comes.pure hE (hrun b k k1) (by simp only [Rep]; exact ⟨b, _, rfl, k2.drop _⟩)
end
end Go.Ab

/- The abstract machine: every operation of 'eff', sound. -/
set_option linter.unusedVariables false
set_option linter.unusedSimpArgs false
namespace Go.Ab
open Go Go.RowKit
section
variable {P : Program} {G : Glob} {w0 : World} {M0 : Nat → Nat → Prop} {E : Env} {a : Act} {fr : List V} {o : Oper} {nid : Nat} {v : V} {u : Upd} {H' : List AB}

theorem ok_field {t : TypeId} {x : Operand} {f : Nat} (ho : o.op = .field t x f) (hE : EOK G w0 M0 E) (hfr : RepL E fr a.tmps.toList) {d : TD} (ht : tdOf P t = some d) {fs : List (Nat × Nat × Bool)} (hd : d.sh = .struct fs)
    {cs : List V} (hx : evalO G fr x = .agg cs) {fd : Nat × Nat × Bool} (hf : fs[f]? = some fd) (h : partV fd.2.2 fd.2.1 (cs.drop fd.1) = some v) : Comes P G w0 M0 E a o v E.H := by
  obtain ⟨i, ds, z, h1, h2, h3, h4, rfl⟩ := tdOf_some ht
  obtain ⟨fields, rfl, rfl, hall⟩ := shOf_struct hd
  obtain ⟨g, hg, rfl⟩ := struct_field hf
  have hr := evalO_sound hE hfr x
  rw [hx] at hr; simp only [Rep] at hr
  obtain ⟨xs, hax, hxs⟩ := hr
  have hgi := (List.all_eq_true.1 hall) g (List.mem_of_getElem? (by simpa using hg))
  simp only [Bool.and_eq_true] at hgi
  obtain ⟨j, hj⟩ := Option.isSome_iff_exists.1 hgi.1
  obtain ⟨y, k1, k2⟩ := partV_sound (P := P) (t := g.type) (xs := xs.toArray) (w := E.w) hj (by simp [szOf, hj]) rfl hgi.2 (by simpa using hxs) h
  exact Comes.pure hE (x := y) (by simp [execOp, ho, hax, Instr.field, run_underlying h2, hg, asAgg, k1]) k2

theorem idxN_some {n : Int} {k : Nat} (h : idxN n = some k) : 0 ≤ n ∧ n = k ∧ n.toNat = k := by
  unfold idxN at h
  split at h
  · injection h with h; exact ⟨by assumption, by omega, h⟩
  · cases h

theorem ok_index {t : TypeId} {x ix : Operand} (ho : o.op = .index t x ix) (hE : EOK G w0 M0 E) (hfr : RepL E fr a.tmps.toList) {d : TD} (ht : tdOf P t = some d) {n esz : Nat} {ea : Bool} (hd : d.sh = .array n esz ea)
    {cs : List V} (hx : evalO G fr x = .agg cs) {k : IntKind} {m : Int} (hi : evalO G fr ix = .val (.int k m)) {j : Nat} (hj : idxN m = some j) (hlt : j < n) (h : partV ea esz (cs.drop (j * esz)) = some v)
    : Comes P G w0 M0 E a o v E.H := by
  obtain ⟨i, ds, z, h1, h2, h3, h4, rfl⟩ := tdOf_some ht
  obtain ⟨e, ie, rfl, hie, rfl, rfl, hun⟩ := shOf_array hd
  have hr := evalO_sound hE hfr x
  have hr2 := evalO_sound hE hfr ix
  rw [hx] at hr; simp only [Rep] at hr
  rw [hi] at hr2; simp only [Rep] at hr2
  obtain ⟨xs, hax, hxs⟩ := hr
  obtain ⟨g1, g2, g3⟩ := idxN_some hj
  obtain ⟨y, k1, k2⟩ := partV_sound (P := P) (t := e) (xs := xs.toArray) (w := E.w) hie rfl rfl hun (by simpa using hxs) h
  refine Comes.pure hE (x := y) ?_ k2
  have hb : 0 ≤ m ∧ m < (n : Int) := ⟨g1, by omega⟩
  simp [execOp, ho, hax, hr2.1, Instr.index, asIntOf, run_underlying h2, hb, sizeOf, typeInfo, hie, g3, k1]

theorem ok_indexAddr {t : TypeId} {x ix : Operand} (ho : o.op = .indexAddr t x ix) (hE : EOK G w0 M0 E) (hfr : RepL E fr a.tmps.toList) {d : TD} (ht : tdOf P t = some d)
    {k : IntKind} {m : Int} (hi : evalO G fr ix = .val (.int k m)) {j : Nat} (hj : idxN m = some j) (h : indexAddrV E.H d.sh j (evalO G fr x) = some v) : Comes P G w0 M0 E a o v E.H := by
  obtain ⟨i, ds, z, h1, h2, h3, h4, rfl⟩ := tdOf_some ht
  have hr := evalO_sound hE hfr x
  have hr2 := evalO_sound hE hfr ix
  rw [hi] at hr2; simp only [Rep] at hr2
  obtain ⟨g1, g2, g3⟩ := idxN_some hj
  have hsl : ∀ {e : TypeId} {ie : TypeInfo} {b k' n c : Nat}, ds = .slice e → P.info? e = some ie → a.eval x = .slice (some ⟨b, k', none⟩) n c → j < n →
      (execOp a.eval o).run P E.w = .ok (.value (.pointer (some ⟨b, k' + j * ie.size, none⟩))) E.w := by
    intro e ie b k' n c hds hie hx hlt
    subst hds
    have hb : 0 ≤ m ∧ m < (n : Int) := ⟨g1, by omega⟩
    simp [execOp, ho, hx, hr2.1, Instr.indexAt, asIntOf, run_underlying h2, hb, sizeOf, typeInfo, hie, g3, Addr.add_none]
  have har : ∀ {e : TypeId} {ie : TypeInfo} {b k' n : Nat}, ds = .array n e → P.info? e = some ie → a.eval x = .pointer (some ⟨b, k', none⟩) → j < n →
      (execOp a.eval o).run P E.w = .ok (.value (.pointer (some ⟨b, k' + j * ie.size, none⟩))) E.w := by
    intro e ie b k' n hds hie hx hlt
    subst hds
    have hb : 0 ≤ m ∧ m < (n : Int) := ⟨g1, by omega⟩
    simp [execOp, ho, hx, hr2.1, Instr.indexAt, Instr.sureAddr, asIntOf, run_underlying h2, hb, sizeOf, typeInfo, hie, g3, Addr.add_none]
  generalize evalO G fr x = y at hr h
  cases y <;> simp only [indexAddrV] at h <;> try (cases h; done)
  · -- a pointer to an array
    rename_i i' off
    split at h
    · rename_i n esz ea hsh
      obtain ⟨e, ie, rfl, hie, rfl, rfl, _⟩ := shOf_array hsh
      split at h
      · rename_i hlt
        injection h with h; subst h
        simp only [Rep] at hr
        obtain ⟨b, k1, k2⟩ := hr
        exact Comes.pure hE (har rfl hie k2 hlt) (by simp only [Rep]; exact ⟨b, k1, rfl⟩)
      · cases h
    · cases h
  · rename_i cs
    split at h
    · rename_i n esz ea hsh
      obtain ⟨e, ie, rfl, hie, rfl, rfl, _⟩ := shOf_array hsh
      split at h
      · rename_i hlt
        injection h with h; subst h
        simp only [Rep] at hr
        obtain ⟨b, k', k1, k2⟩ := hr
        exact Comes.pure hE (har rfl hie k1 hlt) (by simp only [Rep]; exact ⟨b, _, rfl, k2.drop _⟩)
      · cases h
    · cases h
  · rename_i es mk
    split at h
    · rename_i e esz by_ hsh
      obtain ⟨ie, rfl, hie, rfl, rfl⟩ := shOf_slice hsh
      simp only [Option.bind_eq_some_iff] at h
      obtain ⟨e', he', h⟩ := h
      split at h
      · rename_i hsz
        injection h with h; subst h
        simp only [Rep] at hr
        obtain ⟨ad, n, c, q1, q2, q3, q4, q5, q6, q7⟩ := hr
        have hjl : j < es.length := by
          rcases Nat.lt_or_ge j es.length with hh | hh
          · exact hh
          · rw [List.getElem?_eq_none hh] at he'; cases he'
        obtain ⟨sz, b, k', rfl, q9⟩ := q7 (by intro hh; subst hh; simp at hjl)
        obtain ⟨q10, q11⟩ := q9.get j e' he'
        have : sz = ie.size := by omega
        subst this
        exact Comes.pure hE (hsl rfl hie q1 (by omega)) (by simp only [Rep]; exact ⟨b, _, rfl, q11⟩)
      · cases h
    · cases h
  · rename_i i' ver
    split at h
    · rename_i e esz by_ sz es v' imm hsh hH
      obtain ⟨ie, rfl, hie, rfl, rfl⟩ := shOf_slice hsh
      split at h
      · rename_i hc
        obtain ⟨rfl, rfl, hlt⟩ := hc
        injection h with h; subst h
        simp only [Rep, hH] at hr
        obtain ⟨_, _, hr⟩ := hr
        have hr := hr trivial
        obtain ⟨a', n, c, q1, q2, q3, q4, q5, q6⟩ := hE.blk _ _ hH
        rcases q6 with ⟨q6, _⟩ | ⟨b, C, ty, q6, q7, q8, q9, q10, q11, q12⟩
        · omega
        · subst q7
          have hp : (⟨b, 0 + j * ie.size, none⟩ : Addr) = ⟨b, j * ie.size + 0, none⟩ := by simp
          exact Comes.pure hE (hsl rfl hie (hr.trans q1) (by omega)) (by simp only [Rep, hH]; exact ⟨⟨_, rfl⟩, Nat.le_refl _, fun _ => ⟨b, q6, by rw [hp]⟩⟩)
      · cases h
    · cases h
  · rename_i i' off n sz
    split at h
    · rename_i e esz by_ hsh
      obtain ⟨ie, rfl, hie, rfl, rfl⟩ := shOf_slice hsh
      split at h
      · rename_i hc
        obtain ⟨rfl, hlt⟩ := hc
        injection h with h; subst h
        simp only [Rep] at hr
        obtain ⟨b, c, q1, q2, q3⟩ := hr
        exact Comes.pure hE (hsl rfl hie q2 hlt) (by simp only [Rep]; exact ⟨b, q1, rfl⟩)
      · cases h
    · cases h

theorem ok_unOp {op : UnOp} {t : TypeId} {x : Operand} (ho : o.op = .unOp op t x) (hE : EOK G w0 M0 E) (hfr : RepL E fr a.tmps.toList)
    (h : (op = .not ∧ ∃ b, evalO G fr x = .val (.bool b) ∧ v = .bool (!b)) ∨ (op = .neg ∧ ∃ k n, evalO G fr x = .val (.int k n) ∧ v = .int k (k.wrap (0 - n)))) : Comes P G w0 M0 E a o v E.H := by
  have hr := evalO_sound hE hfr x
  rcases h with ⟨rfl, b, h, rfl⟩ | ⟨rfl, k, n, h, rfl⟩ <;> rw [h] at hr <;> simp only [Rep] at hr
  · exact Comes.pure hE (x := .bool (!b)) (by simp [execOp, ho, hr.1, Op.unary]) (by simp [Rep, Value.oneCell'])
  · exact Comes.pure hE (x := .int k (k.wrap (0 - n))) (by simp [execOp, ho, hr.1, Op.unary, Op.intArith]) (by simp [Rep, Value.oneCell'])

theorem ok_convert {s t : TypeId} {x : Operand} (ho : o.op = .convert s t x) (hE : EOK G w0 M0 E) (hfr : RepL E fr a.tmps.toList) {ds d : TD} (hs : tdOf P s = some ds) (ht : tdOf P t = some d) {j k k' : IntKind} {n : Int} (hsh : ds.sh = .int j) (hd : d.sh = .int k)
    (hx : evalO G fr x = .val (.int k' n)) : Comes P G w0 M0 E a o (.int k (k.wrap n)) E.H := by
  obtain ⟨i, dds, z, h1, h2, h3, h4, rfl⟩ := tdOf_some ht
  obtain ⟨i', dds', z', h1', h2', h3', h4', rfl⟩ := tdOf_some hs
  have hr := evalO_sound hE hfr x
  rw [hx] at hr; simp only [Rep] at hr
  have e1 : dds = .int k := by
    cases dds <;> simp only [shOf] at hd <;> try (first | (cases hd; done) | (split at hd <;> cases hd; done))
    injection hd with hd; rw [hd]
  have e2 : dds' = .int j := by
    cases dds' <;> simp only [shOf] at hsh <;> try (first | (cases hsh; done) | (split at hsh <;> cases hsh; done))
    injection hsh with hsh; rw [hsh]
  subst e1; subst e2
  refine Comes.pure hE (x := .int k (k.wrap n)) ?_ (by simp [Rep, Value.oneCell'])
  simp [execOp, ho, hr.1, convert, run_underlying h2, run_underlying h2', Conv.intToInt]

theorem ok_makeFunc {f : Fn} {first cap : Array Operand} (ho : o.op = .makeFunc f first cap) (hE : EOK G w0 M0 E) (hfr : RepL E fr a.tmps.toList) :
    Comes P G w0 M0 E a o (.fn f (first.toList.map (evalO G fr)) (cap.toList.map (evalO G fr))) E.H := by
  refine Comes.pure hE (x := .func f (first.map a.eval) (cap.map a.eval)) (by simp [execOp, ho, Instr.makeFunc]) ?_
  simp only [Rep]
  exact ⟨first.toList.map a.eval, cap.toList.map a.eval, by congr 1 <;> (apply Array.ext'; simp), evalL_sound hE hfr _, evalL_sound hE hfr _⟩

theorem ok_extract {x : Operand} {i : Nat} (ho : o.op = .extract x i) (hE : EOK G w0 M0 E) (hfr : RepL E fr a.tmps.toList) {vs : List V} (hx : evalO G fr x = .tup vs) (h : vs[i]? = some v) : Comes P G w0 M0 E a o v E.H := by
  have hr := evalO_sound hE hfr x
  rw [hx] at hr; simp only [Rep] at hr
  obtain ⟨xs, h1, h2⟩ := hr
  obtain ⟨y, h3, h4⟩ := h2.get i v h
  exact Comes.pure hE (x := y) (by simp [execOp, ho, h1, Instr.extract, h3]) h4

theorem goInt_rep (n : Int) : Rep E (.int .i64 n) (goInt n) := by simp [Rep, goInt, Value.oneCell']
theorem ok_len {t : TypeId} {x : Operand} {c : Call} (ho : o.op = .call c) (hc : c.callee = .builtin .len) (ha : c.args.toList = [x]) (ht : c.argTypes.toList = [t]) (hE : EOK G w0 M0 E) (hfr : RepL E fr a.tmps.toList)
    {e : TypeId} (hu : P.underlying t = some (.slice e)) {n : Nat} (h : ∃ ad cp, a.eval x = .slice ad n cp) : Comes P G w0 M0 E a o (.int .i64 n) E.H := by
  obtain ⟨ad, cp, h⟩ := h
  refine Comes.pure hE (x := goInt n) ?_ (goInt_rep _)
  have h1 : c.args = #[x] := by rw [← Array.toArray_toList (xs := c.args), ha]
  have h2 : c.argTypes = #[t] := by rw [← Array.toArray_toList (xs := c.argTypes), ht]
  simp [execOp, ho, resolve, hc, invoke, builtin, Builtin.len_, h1, h2, run_underlying hu, h]

theorem ok_binI {op : BinOp} {t yt : TypeId} {x y : Operand} (ho : o.op = .binOp op t x y yt) (hE : EOK G w0 M0 E) (hfr : RepL E fr a.tmps.toList) {k : IntKind} {m n : Int} (hx : evalO G fr x = .val (.int k m)) {j : IntKind} (hy : evalO G fr y = .val (.int j n)) (hkj : k = j ∨ isSh op = true)
    (h : binI op k m n = some v) : Comes P G w0 M0 E a o v E.H := by
  have hr := evalO_sound hE hfr x
  have hr2 := evalO_sound hE hfr y
  rw [hx] at hr; rw [hy] at hr2; simp only [Rep] at hr hr2
  have key : ∀ z : Value, v = .val z → z.oneCell' = true → (execOp a.eval o).run P E.w = .ok (.value z) E.w → Comes P G w0 M0 E a o v E.H := by
    rintro z rfl hz hrun
    exact Comes.pure hE hrun (by simp [Rep, hz])
  have hg : (eqGuard op t x y (.int k m) (.int j n)).run P E.w = .ok () E.w := by
    cases op <;> simp [eqGuard]
  have hkj' : isSh op = false → k = j := fun h0 => hkj.resolve_right (by rw [h0]; simp)
  cases op <;> simp only [isSh, true_implies, Bool.true_eq_false, false_implies] at hkj' <;> try subst hkj'
  all_goals clear hkj
  all_goals simp only [binI, cmpI] at h
  all_goals first
    | (injection h with h; subst h
       refine key _ rfl rfl ?_
       simp [execOp, ho, hr.1, hr2.1, hg, binOp, Op.intArith, Op.intCmp, Op.intBits]; done)
    | (split at h
       · cases h
       · injection h with h; subst h
         rename_i hne
         refine key _ rfl rfl ?_
         simp [execOp, ho, hr.1, hr2.1, hg, binOp, Op.intDiv, Op.shift, hne]; done)
    | (cases h; done)


theorem run_equal_bool {t : TypeId} (ht : P.underlying t = some .bool) (m n : Bool) (w : World) : (Op.equal t (.bool m) (.bool n)).run P w = .ok (m == n) w := by
  unfold Op.equal Op.maxDepth
  rw [show (10000 : Nat) = 9999 + 1 from rfl, Op.equalIn]
  rw [Sem.run_bind, run_underlying ht]
  rfl
theorem ok_binB {op : BinOp} {t yt : TypeId} {x y : Operand} (ho : o.op = .binOp op t x y yt) (hE : EOK G w0 M0 E) (hfr : RepL E fr a.tmps.toList) {m n : Bool} (hx : evalO G fr x = .val (.bool m)) (hy : evalO G fr y = .val (.bool n)) (ht : P.underlying t = some .bool)
    (h : (op = .eql ∧ v = .bool (m == n)) ∨ (op = .neq ∧ v = .bool (m != n))) : Comes P G w0 M0 E a o v E.H := by
  have hr := evalO_sound hE hfr x
  have hr2 := evalO_sound hE hfr y
  rw [hx] at hr; rw [hy] at hr2; simp only [Rep] at hr hr2
  have e1 : binOp .eql t (.bool m) (.bool n) = (do pure (.bool (← Op.equal t (.bool m) (.bool n)))) := rfl
  have e2 : binOp .neq t (.bool m) (.bool n) = (do pure (.bool (!(← Op.equal t (.bool m) (.bool n))))) := rfl
  have g1 : ∀ op, (eqGuard op t x y (.bool m) (.bool n)).run P E.w = .ok () E.w := by intro op; cases op <;> simp [eqGuard]
  have q := fun w => run_equal_bool ht m n w
  rcases h with ⟨rfl, rfl⟩ | ⟨rfl, rfl⟩
  · refine Comes.pure hE (x := .bool (m == n)) ?_ (by simp [Rep, Value.oneCell'])
    simp only [execOp, ho, hr.1, hr2.1, Sem.run_bind, g1, Result.andThen_ok, e1, q, Sem.run_pure]
  · refine Comes.pure hE (x := .bool (m != n)) ?_ (by simp [Rep, Value.oneCell'])
    simp only [execOp, ho, hr.1, hr2.1, Sem.run_bind, g1, Result.andThen_ok, e2, q, Sem.run_pure]
    rfl

theorem optN_sound (hE : EOK G w0 M0 E) (hfr : RepL E fr a.tmps.toList) {x : Option Operand} {r : Option Nat} (h : optN G fr x = some r) :
    (x = none ∧ r = none) ∨ ∃ y k n, x = some y ∧ r = some n ∧ a.eval y = .int k (n : Nat) := by
  cases x with
  | none => simp only [optN] at h; injection h with h; exact .inl ⟨rfl, h.symm⟩
  | some y =>
    have hr := evalO_sound hE hfr y
    simp only [optN] at h
    split at h
    · rename_i k m heq
      rw [heq] at hr; simp only [Rep] at hr
      simp only [Option.map_eq_some_iff] at h
      obtain ⟨n, h1, rfl⟩ := h
      exact .inr ⟨y, k, n, rfl, rfl, by rw [hr.1, (idxN_some h1).2.1]⟩
    · cases h

theorem run_sliceBound (k : IntKind) (n y : Nat) (c : BoundsCode) (h : n ≤ y) (w : World) : (Instr.sliceBound (.int k (n : Nat)) y c).run P w = .ok n w := by
  have : (0 : Int) ≤ (n : Int) ∧ (n : Int) ≤ (y : Int) := by omega
  simp [Instr.sliceBound, asIntOf, this]

theorem ok_slice {t : TypeId} {x : Operand} {lo hi mx : Option Operand} (ho : o.op = .slice t x lo hi mx) (hE : EOK G w0 M0 E) (hfr : RepL E fr a.tmps.toList) {d : TD} (ht : tdOf P t = some d) {e esz by_ : Nat} (hd : d.sh = .slice e esz by_)
    {l h m : Option Nat} (hl : optN G fr lo = some l) (hh : optN G fr hi = some h) (hm : optN G fr mx = some m) {es : List V} {mk : Mk} (hr : Rep E (.sl es mk) (a.eval x)) (hB : slcB es.length l h m = true) (hesz : ∀ e ∈ es, e.cells.length = esz) :
    Comes P G w0 M0 E a o (.sl ((es.take (h.getD es.length)).drop (l.getD 0)) (slcM es.length h m)) E.H := by
  obtain ⟨i, ds, z, h1, h2, h3, h4, rfl⟩ := tdOf_some ht
  obtain ⟨ie, rfl, hie, rfl, rfl⟩ := shOf_slice hd
  simp only [slcB, Bool.and_eq_true, Bool.or_eq_true, decide_eq_true_eq, Option.isNone_iff_eq_none] at hB
  obtain ⟨⟨⟨⟨c1, c2⟩, c3⟩, c4⟩, c5⟩ := hB
  have hmh : m = none ∨ h ≠ none := c5.elim .inl (fun hc => .inr (by intro h0; rw [h0] at hc; cases hc))
  have hmk : slcM es.length h m = .tight → m = some (h.getD es.length) := by
    intro hq
    unfold slcM at hq
    cases m with
    | none => simp at hq
    | some mm =>
      cases hb : ((some mm).isSome && (some mm == some (h.getD es.length))) with
      | true => simpa using hb
      | false => rw [hb] at hq; cases hq
  have hmn : slcM es.length h m ≠ .nil := by
    unfold slcM
    cases (m.isSome && (m == some (h.getD es.length))) <;> simp
  simp only [Rep] at hr
  obtain ⟨ad, n, c, q1, q2, q3, q4, q5, q6, q7⟩ := hr
  subst q2
  have hbounds : ∃ mm, (Instr.sliceBounds true es.length c (lo.map a.eval) (hi.map a.eval) (mx.map a.eval)).run P E.w = .ok (l.getD 0, h.getD es.length, mm) E.w ∧ h.getD es.length ≤ mm ∧ mm ≤ c ∧ (m = some (h.getD es.length) → mm = h.getD es.length) := by
    rcases optN_sound hE hfr hm with ⟨rfl, rfl⟩ | ⟨my, mk', mn, rfl, rfl, hme⟩
    · rcases optN_sound hE hfr hh with ⟨rfl, rfl⟩ | ⟨hy, hk, hn, rfl, rfl, hhe⟩
      · rcases optN_sound hE hfr hl with ⟨rfl, rfl⟩ | ⟨ly, lk, ln, rfl, rfl, hle⟩
        · simp only [Option.getD_none] at *
          exact ⟨c, by simp [Instr.sliceBounds], by omega, by omega, by simp⟩
        · simp only [Option.getD_none, Option.getD_some] at *
          exact ⟨c, by simp [Instr.sliceBounds, hle, run_sliceBound _ _ _ _ c1], by omega, by omega, by simp⟩
      · rcases optN_sound hE hfr hl with ⟨rfl, rfl⟩ | ⟨ly, lk, ln, rfl, rfl, hle⟩
        · simp only [Option.getD_none, Option.getD_some] at *
          exact ⟨c, by simp [Instr.sliceBounds, hhe, run_sliceBound (P := P) _ hn c _ (by omega)], by omega, by omega, by simp⟩
        · simp only [Option.getD_none, Option.getD_some] at *
          exact ⟨c, by simp [Instr.sliceBounds, hhe, hle, run_sliceBound (P := P) _ hn c _ (by omega), run_sliceBound (P := P) _ ln hn _ (by omega)], by omega, by omega, by simp⟩
    · rcases optN_sound hE hfr hh with ⟨rfl, rfl⟩ | ⟨hy, hk, hn, rfl, rfl, hhe⟩
      · simp at hmh
      · rcases optN_sound hE hfr hl with ⟨rfl, rfl⟩ | ⟨ly, lk, ln, rfl, rfl, hle⟩
        · simp only [Option.getD_none, Option.getD_some] at *
          exact ⟨mn, by simp [Instr.sliceBounds, hhe, hme, run_sliceBound (P := P) _ mn c _ (by omega), run_sliceBound (P := P) _ hn mn _ (by omega)], by omega, by omega, by simp⟩
        · simp only [Option.getD_none, Option.getD_some] at *
          exact ⟨mn, by simp [Instr.sliceBounds, hhe, hme, hle, run_sliceBound (P := P) _ mn c _ (by omega), run_sliceBound (P := P) _ hn mn _ (by omega), run_sliceBound (P := P) _ ln hn _ (by omega)], by omega, by omega, by simp⟩
  obtain ⟨mm, hb, m1, m2, m3⟩ := hbounds
  refine Comes.pure hE (x := .slice (if mm = l.getD 0 then ad else ad.map (·.add (l.getD 0 * ie.size))) (h.getD es.length - l.getD 0) (mm - l.getD 0)) ?_ ?_
  · have : (sizeOf e).run P E.w = .ok ie.size E.w := by simp [sizeOf, typeInfo, hie]
    simp [execOp, ho, q1, Instr.sliceAt, run_underlying h2, Instr.slice, hb, this]
  · simp only [Rep]
    refine ⟨_, _, _, rfl, by simp; omega, by omega, by omega, ?_, ?_, fun hne => ?_⟩
    · intro hq; exact absurd hq hmn
    · intro hq; have := m3 (hmk hq); omega
    · have hlt : l.getD 0 < h.getD es.length := by
        rcases Nat.lt_or_ge (l.getD 0) (h.getD es.length) with k | k
        · exact k
        · exfalso; apply hne; apply List.eq_nil_of_length_eq_zero; simp; omega
      have hes : es ≠ [] := by rintro rfl; simp only [List.length_nil] at *; omega
      obtain ⟨sz, b, k, rfl, q9⟩ := q7 hes
      have hsz : sz = ie.size := by
        obtain ⟨u, us, rfl⟩ := List.exists_cons_of_ne_nil hes
        have := (q9.get 0 u (by simp)).1
        have := hesz u (by simp)
        omega
      subst hsz
      rw [if_neg (by omega)]
      refine ⟨ie.size, b, k + l.getD 0 * ie.size, by simp [Addr.add_none], ?_⟩
      exact (q9.take _).drop _ (by simp; omega)
end
end Go.Ab
