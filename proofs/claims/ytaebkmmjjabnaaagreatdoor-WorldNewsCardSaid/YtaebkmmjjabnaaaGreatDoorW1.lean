import Derived.Below
import Derived.WalkKit
import Derived.Deep.MidRow
set_option maxRecDepth 100000
set_option maxHeartbeats 4000000
set_option linter.unusedSimpArgs false
set_option linter.unusedVariables false
namespace Go.Ab
open Go Go.RowKit
inductive Mk where
 | plain|nil|tight
 deriving DecidableEq
inductive V where
 | any
 | val (v:Value)
 | ptr (i off:Nat)
 | ptrE (i ver idx sz off:Nat)
 | cp (cs:List V)
 | sl (es:List V) (m:Mk)
 | row (i ver:Nat)
 | vs (i off n sz:Nat)
 | agg (cs:List V)
 | tup (vs:List V)
 | fn (f:Fn) (first cap:List V)
 | iface (t:TypeId) (v:V)
 | mp (i:Nat)
inductive AB where
 | dead
 | hole
 | var (cs:List V)
 | row (sz:Nat) (es:List V) (ver:Nat) (imm:Bool)
 | map (own:Bool) (sg:Bool×List IntKind) (f:List Int→Option V)
 | dfr (D:Nat)
 | lp (l:Nat) (s:LoopState) (pend:Option Code) (fr:List V) (ps:List Tmp) (asg body:Code)
abbrev V.int (k:IntKind) (n:Int):V:=.val (.int k n)
abbrev V.bool (b:Bool):V:=.val (.bool b)
def undefV:V:=.tup []
def V.cells:V→List V
 | .agg cs=>cs
 | v=>[v]
def ofCell:Value→V
 | .slice none 0 0=>.sl [] .nil
 | v=>.val v
def ofConst:Value→V
 | .tuple vs=>if vs.toList.isEmpty then .tup [] else .any
 | .agg cs=>if cs.toList.all Value.oneCell' then .agg (cs.toList.map ofCell) else .any
 | v=>ofCell v
structure Env where
 w:World
 φ:Nat→Nat→Option Nat
 τ:Nat→Value
 M:Nat→Nat→Prop
 H:List AB
def Env.bare (E:Env):Env:={ E with φ:=fun _ _=>none,H:=[] }
def Env.stab (E:Env) (b o:Nat) (u:Value):Prop:=E.w.cell? ⟨b,o,none⟩=some u ∧ ¬ E.M b o
mutual
def Rep (E:Env):V→Value→Prop
 | .any,_=>True
 | .val v,x=>x=v∧v.oneCell'=true
 | .ptr i o,x => ∃ b,E.φ i 0=some b∧x=.pointer (some ⟨b,o,none⟩)
 | .ptrE i ver idx sz off,x=>(∃ a,x=.pointer a)∧match E.H[i]? with
   | some (.row _ _ v _)=>ver≤v∧(ver=v → ∃ b,E.φ i ver=some b∧x=.pointer (some ⟨b,idx * sz + off,none⟩))
   | some .dead=>True
   | _=>False
 | .cp cs,x => ∃ b o,x=.pointer (some ⟨b,o,none⟩)∧RepAt E.bare cs b o
 | .sl es m,x => ∃ a n c,x=.slice a n c∧n=es.length∧n≤c∧c≤maxLen∧(m=.nil→x=.slice none 0 0)∧(m=.tight→c=n)∧(es≠[] → ∃ sz b o,a=some ⟨b,o,none⟩∧RepEs E.bare sz es b o)
 | .row i ver,x=>(∃ a n c,x=.slice a n c)∧match E.H[i]? with
   | some (.row _ _ v _)=>ver≤v∧(ver=v→x=E.τ i)
   | some .dead=>True
   | _=>False
 | .vs i off n sz,x => ∃ b c,E.φ i 0=some b∧x=.slice (some ⟨b,off,none⟩) n c∧n≤c
 | .agg cs,x => ∃ xs:List Value,x=.agg xs.toArray∧RepL E cs xs
 | .tup vs,x => ∃ xs:List Value,x=.tuple xs.toArray∧RepL E vs xs
 | .fn f first cap,x => ∃ xs ys:List Value,x=.func f xs.toArray ys.toArray∧RepL E first xs∧RepL E cap ys
 | .iface t v,x => ∃ y,x=.iface t y∧Rep E v y
 | .mp i,x => ∃ b,E.φ i 0=some b∧x=.map (some b)
def RepL (E:Env):List V→List Value→Prop
 | [],xs=>xs=[]
 | v::vs,xs => ∃ y ys,xs=y::ys∧Rep E v y∧RepL E vs ys
def RepAt (E:Env):List V→Nat→Nat→Prop
 | [],_,_=>True
 | v::vs,b,o=>(∃ u,E.stab b o u∧Rep E v u)∧RepAt E vs b (o + 1)
def RepEs (E:Env) (sz:Nat):List V→Nat→Nat→Prop
 | [],_,_=>True
 | .agg cs::vs,b,o=>(cs.length=sz∧RepAt E cs b o)∧RepEs E sz vs b (o + sz)
 | v::vs,b,o=>(sz=1 ∧ ∃ u,E.stab b o u∧Rep E v u)∧RepEs E sz vs b (o + sz)
end
inductive Sh where
 | struct (fs:List (Nat×Nat×Bool))
 | array (n esz:Nat) (eagg:Bool)
 | slice (e esz bytes:Nat)
 | map (k e:Nat)
 | int (k:IntKind)
 | bool
 | str
 | other
structure TD where
 size:Nat
 isAgg:Bool
 sh:Sh
 zero:List V
 flat:Bool
def szOf (P:Program) (t:TypeId):Nat:=match P.info? t with|some i=>i.size|none=>0
def aggOf (P:Program) (t:TypeId):Bool:=match P.underlying t with
 | some (.struct _)=>true
 | some (.array _ _)=>true
 | _=>false
def shOf (P:Program):TypeDesc→Sh
 | .struct fs=>if fs.toList.all (fun f=>(P.info? f.type).isSome && (P.underlying f.type).isSome) then .struct (fs.toList.map fun f=>(f.offset,szOf P f.type,aggOf P f.type)) else .other
 | .array n e=>if (P.info? e).isSome && (P.underlying e).isSome then .array n (szOf P e) (aggOf P e) else .other
 | .slice e=>match P.info? e with
   | some i=>.slice e i.size i.bytes
   | none=>.other
 | .map k e=>.map k e
 | .int k=>.int k
 | .bool=>.bool
 | .string=>.str
 | _=>.other
def flatOf (P:Program) (t:TypeId):Bool:=match P.underlying t with
 | some (.struct fs) => (fs.size == szOf P t) && !P.stoodInHeld t && !P.eqGuardType P.depth t && fs.toList.zipIdx.all fun f => f.1.name != "_" && f.1.offset == f.2 && (match P.underlying f.1.type with | some (.int _) => true | _ => false)
 | _=>false
def tdOf (P:Program) (t:TypeId):Option TD :=
 match P.info? t,P.underlying t with
 | some i,some d=>match i.zero with
   | some z=>if z.cells.toList.all Value.oneCell' then some ⟨i.size,aggOf P t,shOf P d,z.cells.toList.map ofCell,flatOf P t⟩ else none
   | none=>none
 | _,_=>none
def takeN:Nat→List V→Option (List V)
 | 0,_=>some []
 | n + 1,c::cs=>(takeN n cs).map (c :: ·)
 | _ + 1,[]=>none
def partV (agg:Bool) (n:Nat) (cs:List V):Option V :=
 if agg then (takeN n cs).map .agg else cs.head?
def over:List V→List V→Option (List V)
 | cs,[]=>some cs
 | _::cs,x::xs=>(over cs xs).map (x :: ·)
 | [],_::_=>none
def splice:List V→Nat→List V→Option (List V)
 | cs,0,xs=>over cs xs
 | c::cs,n + 1,xs=>(splice cs n xs).map (c :: ·)
 | [],_ + 1,_=>none
def idxN (n:Int):Option Nat:=if 0≤n then some n.toNat else none
def oneV:V→Bool
 | .any|.agg _|.tup _=>false
 | _=>true
structure Upd where
 sets:List (Nat×AB)
 new:Option AB
def Upd.no:Upd:=⟨[],none⟩
abbrev Glob:=List (Nat×List V)
def evalO (G:Glob) (fr:List V):Operand→V
 | .tmp t=>fr.getD t undefV
 | .const v=>ofConst v
 | .global g=>match G.lookup g with
   | some cs=>.cp cs
   | none=>.any
 | .func f=>.fn (.func f) [] []
def fzRow (H:List AB) (i ver:Nat):Option V :=
 match H[i]? with
 | some (.row _ es v true)=>if ver=v then some (.sl es .plain) else none
 | _=>none
mutual
def fz (H:List AB):V→Option V
 | .val v=>some (.val v)
 | .sl es _=>some (.sl es .plain)
 | .cp cs=>some (.cp cs)
 | .row i ver=>fzRow H i ver
 | .agg cs=>(fzL H cs).map .agg
 | .tup cs=>(fzL H cs).map .tup
 | .fn f a b=>(fzL H a).bind fun a'=>(fzL H b).map fun b'=>.fn f a' b'
 | .iface t v=>(fz H v).map (.iface t)
 | _=>none
def fzL (H:List AB):List V→Option (List V)
 | []=>some []
 | v::vs=>(fz H v).bind fun v'=>(fzL H vs).map (v' :: ·)
end
mutual
def rowsIn:V→List Nat
 | .row i _=>[i]
 | .agg cs=>rowsInL cs
 | .tup cs=>rowsInL cs
 | .fn _ a b=>rowsInL a++rowsInL b
 | .iface _ v=>rowsIn v
 | _=>[]
def rowsInL:List V→List Nat
 | []=>[]
 | v::vs=>rowsIn v++rowsInL vs
end
def immAt:List AB→Nat→List AB
 | .row sz es v _::H,0=>.row sz es v true::H
 | h::H,0=>h::H
 | h::H,n + 1=>h::immAt H n
 | [],_=>[]
def immL (H:List AB):List Nat→List AB
 | []=>H
 | i::is=>immL (immAt H i) is
def immB:AB→AB
 | .row sz es v _=>.row sz es v true
 | b=>b
def immS (H:List AB):List Nat→List (Nat×AB)
 | []=>[]
 | i::is=>(i,immB (H.getD i .dead))::immS (immAt H i) is
def cmpI (op:BinOp) (x y:Int):Option V :=
 match op with
 | .eql=>some (.bool (x==y))
 | .neq=>some (.bool (x != y))
 | .lss=>some (.bool (decide (x < y)))
 | .leq=>some (.bool (decide (x≤y)))
 | .gtr=>some (.bool (decide (x > y)))
 | .geq=>some (.bool (decide (x≥y)))
 | _=>none
def binI (op:BinOp) (k:IntKind) (x y:Int):Option V :=
 match op with
 | .add=>some (.int k (k.wrap (x + y)))
 | .sub=>some (.int k (k.wrap (x - y)))
 | .mul=>some (.int k (k.wrap (x * y)))
 | .quo=>if y=0 then none else some (.int k (k.wrap (x.tdiv y)))
 | .rem=>if y=0 then none else some (.int k (x.tmod y))
 | .and=>some (.int k (k.wrap (BitVec.ofInt k.bits x &&& BitVec.ofInt k.bits y).toNat))
 | .or=>some (.int k (k.wrap (BitVec.ofInt k.bits x ||| BitVec.ofInt k.bits y).toNat))
 | .shl=>if y < 0 then none else some (.int k (k.wrap (x * 2 ^ (min y.toNat k.bits))))
 | .shr=>if y < 0 then none else some (.int k (x.fdiv (2 ^ (min y.toNat k.bits))))
 | .xor|.andNot=>none
 | op=>cmpI op x y
def eqCells:List V→List V→Option Bool
 | [],[]=>some true
 | .val (.int j a)::xs,.val (.int k b)::ys=>if j=k then (eqCells xs ys).map ((a==b) && ·) else none
 | _,_=>none
def isSh:BinOp→Bool
 | .shl=>true
 | .shr=>true
 | _=>false
def binV (P:Program) (op:BinOp) (t:TypeId):V→V→Option V
 | .val (.int k a),.val (.int j b)=>if k=j∨isSh op=true then binI op k a b else none
 | .val (.bool a),.val (.bool b)=>match tdOf P t with
   | some d=>match d.sh with
     | .bool=>match op with
       | .eql=>some (.bool (a==b))
       | .neq=>some (.bool (a != b))
       | _=>none
     | _=>none
   | none=>none
 | .agg xs,.agg ys=>match tdOf P t with
   | some d=>if d.flat∧xs.length=d.size then match op with
      | .eql=>(eqCells xs ys).map .bool
      | .neq=>(eqCells xs ys).map fun b=>.bool (!b)
      | _=>none
     else none
   | none=>none
 | _,_=>none
def loadV (H:List AB) (d:TD):V→Option V
 | .ptr i off=>match H[i]? with
   | some (.var cs)=>partV d.isAgg d.size (cs.drop off)
   | _=>none
 | .ptrE i ver idx sz off=>match H[i]? with
   | some (.row sz' es v _)=>if ver=v∧sz=sz' then (es[idx]?).bind fun e=>partV d.isAgg d.size (e.cells.drop off) else none
   | _=>none
 | .cp cs=>partV d.isAgg d.size cs
 | _=>none
def fieldAddrV (H:List AB) (f:Nat×Nat×Bool):V→Option V
 | .ptr i o=>some (.ptr i (o + f.1))
 | .ptrE i ver idx sz o=>match H[i]? with
   | some (.row _ _ v _)=>if ver=v then some (.ptrE i ver idx sz (o + f.1)) else none
   | _=>none
 | .cp cs=>some (.cp (cs.drop f.1))
 | _=>none
def indexAddrV (H:List AB) (sh:Sh) (n:Nat):V→Option V
 | .sl es _=>match sh with
   | .slice _ esz _=>(es[n]?).bind fun e=>if e.cells.length=esz then some (.cp e.cells) else none
   | _=>none
 | .row i ver=>match sh,H[i]? with
   | .slice _ esz _,some (.row sz es v _)=>if ver=v∧sz=esz∧n < es.length then some (.ptrE i ver n sz 0) else none
   | _,_=>none
 | .vs i off k sz=>match sh with
   | .slice _ esz _=>if sz=esz∧n < k then some (.ptr i (off + n * sz)) else none
   | _=>none
 | .ptr i o=>match sh with
   | .array k esz _=>if n < k then some (.ptr i (o + n * esz)) else none
   | _=>none
 | .cp cs=>match sh with
   | .array k esz _=>if n < k then some (.cp (cs.drop (n * esz))) else none
   | _=>none
 | _=>none
def storeV (H:List AB) (xs:List V):V→Option Upd
 | .ptr i off=>match H[i]? with
   | some (.var cs)=>(splice cs off xs).map fun cs'=>⟨[(i,.var cs')],none⟩
   | _=>none
 | .ptrE i ver idx sz off=>match H[i]? with
   | some (.row sz' es v false)=>if ver=v∧sz=sz' then (fzL H xs).bind fun xs=>(es[idx]?).bind fun e=>(splice e.cells off xs).bind fun cs'=>match e,cs' with
      | .agg _,_=>some ⟨[(i,.row sz' (es.set idx (.agg cs')) v false)],none⟩
      | _,[.agg _]=>none
      | _,[c]=>some ⟨[(i,.row sz' (es.set idx c) v false)],none⟩
      | _,_=>none
     else none
   | _=>none
 | _=>none
def optN (G:Glob) (fr:List V):Option Operand→Option (Option Nat)
 | none=>some none
 | some o=>match evalO G fr o with
   | .val (.int _ n)=>(idxN n).map some
   | _=>none
def buildV (fs:List (Nat×Nat×Bool)):List V→List (Nat×V)→Option (List V)
 | cs,[]=>some cs
 | cs,(i,v)::ps=>match fs[i]? with
   | some (off,sz,_)=>if v.cells.length=sz∧v.cells.all oneV then (splice cs off v.cells).bind fun cs'=>buildV fs cs' ps else none
   | none=>none
def inOrder:Nat→List (Nat×V)→Option (List V)
 | _,[]=>some []
 | i,(j,v)::ps=>if j=i then (inOrder (i + 1) ps).map (v :: ·) else none
def strAt (s:ByteArray) (n:Nat):Option V:=(s[n]?).map fun b=>.int .u8 b.toNat
def lenV (H:List AB) (sh:Sh):V→Option (V×Upd)
 | .sl es _=>match sh with
   | .slice _ _ _=>some (.int .i64 es.length,.no)
   | _=>none
 | .row i ver=>match sh,H[i]? with
   | .slice _ _ _,some (.row _ es v _)=>if ver=v then some (.int .i64 es.length,.no) else none
   | _,_=>none
 | .vs _ _ n _=>match sh with
   | .slice _ _ _=>some (.int .i64 n,.no)
   | _=>none
 | .val (.string s)=>match sh with
   | .str=>some (.int .i64 s.size,.no)
   | _=>none
 | _=>none
def chk:Nat→List V→Bool
 | 0,[]=>true
 | n + 1,x::xs=>oneV x && chk n xs
 | _,_=>false
def okE (sz:Nat) (e:V):Bool:=chk sz e.cells
def srcV (H:List AB):V→Option (List V)
 | .sl es _=>some es
 | .row j ver=>match H[j]? with
   | some (.row _ es v _)=>if ver=v then some es else none
   | _=>none
 | _=>none
def appT (P:Program) (t tx:TypeId):Option Nat:=match tdOf P t,tdOf P tx with
 | some d,some dx=>match d.sh,dx.sh with
   | .slice e esz by_,.slice _ _ _=>match tdOf P e with
     | some de=>if de.zero.length=esz∧by_≤128 then some esz else none
     | none=>none
   | _,_=>none
 | _,_=>none
def appR (H:List AB) (nid esz:Nat) (xs:List V):V→Option (Bool×V×Upd)
 | .sl es .plain=>none
 | .sl es m=>some ((es++xs).all (okE esz) && decide (es.length + xs.length≤1099511627776),bif es.isEmpty || !xs.isEmpty then (.row nid 0,⟨[],some (.row esz (es++xs) 0 false)⟩) else (.sl es m,.no))
 | .row i ver=>match H[i]? with
   | some (.row sz es v imm)=>if ver=v∧sz=esz then some (xs.all (okE esz) && decide (es.length + xs.length≤1099511627776),.row i (ver + 1),⟨[(i,.row esz (es++xs) (ver + 1) imm)],none⟩) else none
   | _=>none
 | _=>none
def slcB (n:Nat) (lo hi mx:Option Nat):Bool :=
 decide (lo.getD 0≤hi.getD n) && decide (hi.getD n≤n) && decide (hi.getD n≤mx.getD (hi.getD n)) && decide (mx.getD (hi.getD n)≤n) && (mx.isNone || hi.isSome)
def slcM (n:Nat) (hi mx:Option Nat):Mk:=bif mx.isSome && (mx==some (hi.getD n)) then .tight else .plain
def lenE' (sz:Nat) (e:V):Bool:=decide (e.cells.length=sz)
def slcR (H:List AB) (esz:Nat) (lo hi mx:Option Nat):V→Option (Bool×V×Upd)
 | .sl es _=>some (slcB es.length lo hi mx && es.all (lenE' esz),.sl ((es.take (hi.getD es.length)).drop (lo.getD 0)) (slcM es.length hi mx),.no)
 | .row i ver=>match H[i]? with
   | some (.row sz es v imm)=>if ver=v∧sz=esz then some (slcB es.length lo hi mx,.sl ((es.take (hi.getD es.length)).drop (lo.getD 0)) (slcM es.length hi mx),⟨[(i,.row sz es v true)],none⟩) else none
   | _=>none
 | _=>none
def slcT (P:Program) (t:TypeId):Option Nat:=match tdOf P t with
 | some d=>match d.sh with
   | .slice _ esz _=>some esz
   | _=>none
 | none=>none
def ifcT (P:Program) (t:TypeId):Bool:=match tdOf P t with
 | some d=>match d.sh with
   | .other=>false
   | _=>true
 | none=>false
def ifc (t:TypeId):V→Option V
 | .any=>none
 | .tup _=>none
 | v=>some (.iface t v)
def condR:Option (Bool×V×Upd)→Option (V×Upd)
 | some (true,r)=>some r
 | _=>none
abbrev KS:=Bool×List IntKind
def intsOf:List IntKind→List V→Option (List Int)
 | [],[]=>some []
 | k::ks,.val (.int j n)::xs=>if j=k then (intsOf ks xs).map (n :: ·) else none
 | _,_=>none
def keyI:KS→V→Option (List Int)
 | (true,ks),.agg xs=>intsOf ks xs
 | (false,ks),v=>intsOf ks [v]
 | _,_=>none
def kindsOf:List V→Option (List IntKind)
 | []=>some []
 | .val (.int k _)::xs=>(kindsOf xs).map (k :: ·)
 | _=>none
def sgT (P:Program) (t:TypeId):Option KS:=match tdOf P t with
 | some d=>match d.sh with
   | .int k=>some (false,[k])
   | _=>if d.flat then match kindsOf d.zero with
      | some ks=>if ks.length=d.size then some (true,ks) else none
      | none=>none
     else none
 | none=>none
def eqIs:List Int→List Int→Bool
 | [],[]=>true
 | a::a_s,b::bs=>(a==b) && eqIs a_s bs
 | _,_=>false
def noF:List Int→Option V:=fun _=>none
def updF (f:List Int→Option V) (k:List Int) (x:V):List Int→Option V:=fun q=>bif eqIs q k then some x else f q
def ofCellP:Value→V
 | .slice none 0 0=>.sl [] .plain
 | v=>.val v
def zeroT (P:Program) (t:TypeId):Option V:=match P.info? t with
 | some i=>match i.zero with
   | some (.agg cs)=>if cs.toList.all Value.oneCell' then some (.agg (cs.toList.map ofCellP)) else none
   | some v=>if v.oneCell' then some (ofCellP v) else none
   | none=>none
 | none=>none
def lookR (ok:Bool) (z:V):Option V→V
 | some v=>bif ok then .tup [v,.bool true] else v
 | none=>bif ok then .tup [z,.bool false] else z
def mapT (P:Program) (t:TypeId):Option (TypeId×TypeId):=match tdOf P t with
 | some d=>match d.sh with
   | .map k e=>some (k,e)
   | _=>none
 | none=>none
def insV (H:List AB) (own:Bool) (x:V):Bool×V:=match fz H x with
 | some x'=>(own,x')
 | none=>(true,x)
def insR (P:Program) (H:List AB) (kt:TypeId) (m k x:V):Option (List (Nat×AB)):=match m with
 | .mp i=>match H[i]? with
   | some (.map own sg f)=>if sgT P kt=some sg then (match keyI sg k with
     | some q=>some [(i,.map (insV H own x).1 sg (updF f q (insV H own x).2))]
     | none=>none) else none
   | _=>none
 | _=>none
def lkR (P:Program) (H:List AB) (kt et:TypeId) (ok:Bool) (m k:V):Option V:=match m with
 | .mp i=>match H[i]? with
   | some (.map _ sg f)=>if sgT P kt=some sg then (keyI sg k).bind fun q=>(zeroT P et).map fun z=>lookR ok z (f q) else none
   | _=>none
 | _=>none
def bsR (H:List AB) (nid esz n:Nat) (z:Bool) (vs:List V):Option (List V)→Option (Bool×V×Upd)
 | some es=>some (decide (es.length=n) && es.all (fun e=>decide (e.cells.length=esz)) && decide (0 < esz) && decide (n * esz≤16777216) && z,.sl es .tight,⟨immS H (rowsInL vs),none⟩)
 | none=>some (decide (vs.length=n) && vs.all (fun e=>chk esz e.cells) && decide (0 < esz) && decide (n * esz≤16777216) && z,.vs nid 0 n esz,⟨[],some (.var (vs.flatMap V.cells))⟩)
def arrFs:Nat→Nat→Nat→Bool→List (Nat×Nat×Bool)
 | 0,_,_,_=>[]
 | n + 1,off,esz,ea=>(off,esz,ea)::arrFs n (off + esz) esz ea
def mkSl2 (de:Option TD) (esz by_ nid:Nat) (x y:V):Option (Bool×V×Upd):=match de,esz,x,y with
 | some ⟨_,_,_,[.sl [] .nil],_⟩,1,.val (.int _ n),.val (.int _ m)=>some (decide (by_≤128) && (decide (n=m) && (decide (0≤n) && decide (n≤1000000))),.row nid 0,⟨[],some (.row 1 (List.replicate n.toNat (.sl [] .plain)) 0 false)⟩)
 | _,_,_,_=>none
def mkSlE (P:Program) (d:Option TD) (nid:Nat) (x y:V):Option (Bool×V×Upd):=match d with
 | some ⟨_,_,.slice e esz by_,_,_⟩=>mkSl2 (tdOf P e) esz by_ nid x y
 | _=>none
def eff (P:Program) (G:Glob) (fr:List V) (H:List AB) (nid:Nat):Op→Option (V×Upd)
 | .move x=>some (evalO G fr x,.no)
 | .assign x=>some (evalO G fr x,.no)
 | .pick c a b=>match evalO G fr c with
   | .val (.bool t)=>some (bif t then evalO G fr a else evalO G fr b,.no)
   | _=>none
 | .alloc t=>(tdOf P t).map fun d=>(.ptr nid 0,⟨[],some (.var d.zero)⟩)
 | .box _ x=>match evalO G fr x with
   | .any=>none
   | .tup _=>none
   | v=>some (.ptr nid 0,⟨[],some (.var v.cells)⟩)
 | .build t ps=>(tdOf P t).bind fun d=>match d.sh with
   | .struct fs=>(buildV fs d.zero (ps.toList.map fun p=>(p.1,evalO G fr p.2))).map fun cs=>(.agg cs,.no)
   | .array k esz ea=>(buildV (arrFs k 0 esz ea) d.zero (ps.toList.map fun p=>(p.1,evalO G fr p.2))).map fun cs=>(.agg cs,.no)
   | _=>none
 | .buildSlice t n ps=>(tdOf P t).bind fun d=>match d.sh with
   | .slice e esz _=>(inOrder 0 (ps.toList.map fun p=>(p.1,evalO G fr p.2))).bind fun vs=>condR (bsR H nid esz n (tdOf P e).isSome vs (fzL (immL H (rowsInL vs)) vs))
   | _=>none
 | .load t a=>(tdOf P t).bind fun d=>(loadV H d (evalO G fr a)).map fun v=>(v,.no)
 | .store t a x=>(tdOf P t).bind fun d =>
    if (evalO G fr x).cells.length=d.size∧(evalO G fr x).cells.all oneV then (storeV H (evalO G fr x).cells (evalO G fr a)).map fun u=>(undefV,u) else none
 | .nilCheck x=>match evalO G fr x with
   | .ptr i o=>some (.ptr i o,.no)
   | .cp cs=>some (.cp cs,.no)
   | .iface t v=>some (.iface t v,.no)
   | .fn (.func f) a b=>some (.fn (.func f) a b,.no)
   | _=>none
 | .fieldAddr t x f=>(tdOf P t).bind fun d=>match d.sh with
   | .struct fs=>(fs[f]?).bind fun fd=>if fd.2.1=0 then none else (fieldAddrV H fd (evalO G fr x)).map fun v=>(v,.no)
   | _=>none
 | .field t x f=>(tdOf P t).bind fun d=>match d.sh,evalO G fr x with
   | .struct fs,.agg cs=>(fs[f]?).bind fun fd=>(partV fd.2.2 fd.2.1 (cs.drop fd.1)).map fun v=>(v,.no)
   | _,_=>none
 | .indexAddr t x ix=>(tdOf P t).bind fun d=>match evalO G fr ix with
   | .val (.int _ n)=>(idxN n).bind fun n=>(indexAddrV H d.sh n (evalO G fr x)).map fun v=>(v,.no)
   | _=>none
 | .index t x ix=>(tdOf P t).bind fun d=>match d.sh,evalO G fr x,evalO G fr ix with
   | .array k esz ea,.agg cs,.val (.int _ n)=>(idxN n).bind fun n=>if n < k then (partV ea esz (cs.drop (n * esz))).map fun v=>(v,.no) else none
   | .str,.val (.string s),.val (.int _ n)=>(idxN n).bind fun n=>(strAt s n).map fun v=>(v,.no)
   | _,_,_=>none
 | .binOp op t x y _=>(binV P op t (evalO G fr x) (evalO G fr y)).map fun v=>(v,.no)
 | .unOp op _ x=>match op,evalO G fr x with
   | .not,.val (.bool b)=>some (.bool (!b),.no)
   | .neg,.val (.int k n)=>some (.int k (k.wrap (0 - n)),.no)
   | _,_=>none
 | .convert s t x=>(tdOf P s).bind fun ds=>(tdOf P t).bind fun d=>match ds.sh,d.sh,evalO G fr x with
   | .int _,.int k,.val (.int _ n)=>some (.int k (k.wrap n),.no)
   | _,_,_=>none
 | .makeFunc f a b=>some (.fn f (a.toList.map (evalO G fr)) (b.toList.map (evalO G fr)),.no)
 | .extract x i=>match evalO G fr x with
   | .tup vs=>(vs[i]?).map fun v=>(v,.no)
   | _=>none
 | .call c=>match c.callee with
   | .builtin .len=>match c.args.toList,c.argTypes.toList with
     | [x],[t]=>match tdOf P t with
       | some d=>lenV H d.sh (evalO G fr x)
       | none=>none
     | _,_=>none
   | .builtin .append=>match c.args.toList,c.argTypes.toList with
     | [x,y],[t,tx]=>(appT P t tx).bind fun esz=>(srcV H (evalO G fr y)).bind fun xs=>condR (appR H nid esz xs (evalO G fr x))
     | _,_=>none
   | _=>none
 | .slice t x lo hi mx=>(slcT P t).bind fun esz=>(optN G fr lo).bind fun lo=>(optN G fr hi).bind fun hi=>(optN G fr mx).bind fun mx=>condR (slcR H esz lo hi mx (evalO G fr x))
 | .makeMap t none=>(mapT P t).bind fun kt=>(sgT P kt.1).map fun sg=>(.mp nid,⟨[],some (.map false sg noF)⟩)
 | .insert t m k x=>(mapT P t).bind fun kt=>(insR P H kt.1 (evalO G fr m) (evalO G fr k) (evalO G fr x)).map fun s=>(undefV,⟨s,none⟩)
 | .mapUpdate t m k x=>(mapT P t).bind fun kt=>(insR P H kt.1 (evalO G fr m) (evalO G fr k) (evalO G fr x)).map fun s=>(undefV,⟨s,none⟩)
 | .lookup t m k ok=>(mapT P t).bind fun kt=>(lkR P H kt.1 kt.2 ok (evalO G fr m) (evalO G fr k)).map fun v=>(v,.no)
 | .makeSlice t x y=>condR (mkSlE P (tdOf P t) nid (evalO G fr x) (evalO G fr y))
 | .makeInterface t x=>bif ifcT P t then (ifc t (evalO G fr x)).map fun v=>(v,.no) else none
 | _=>none
inductive It where
 | code (c:Code)
 | ops (all l:List Oper)
 | blk (id:Nat)
 | ret (rs:List ResultVar) (dst:Option Tmp)
 | fin (rs:List ResultVar)
 | inv (J:List Act→Act→World→Prop)
 | mk (D:Nat)
 | beg (l:Nat)
 | rnd (l:Nat) (dst:Option Tmp)
 | rndj (l:Nat) (c:Code) (dst:Option Tmp)
 | erf (l:Nat)
structure Cfg where
 k:List It
 fr:List V
 st:List (List V)
 H:List AB
def putV (fr:List V) (d:Option Tmp) (v:V):List V:=match d with
 | some t=>fr.set t v
 | none=>fr
def setH (H:List AB):List (Nat×AB)→List AB
 | []=>H
 | (i,b)::r=>setH (H.set i b) r
def applyU (H:List AB) (u:Upd):List AB:=match u.new with
 | some b=>setH H u.sets++[b]
 | none=>setH H u.sets
def guardV (all:List Oper) (fr:List V) (o:Oper):Option Bool :=
 match o.guard with
 | none=>some true
 | some (j,want)=>match (all[j]?).bind (·.dst) with
   | none=>some false
   | some t=>match fr.getD t undefV with
     | .val (.bool b)=>some (b==want)
     | .tup _=>some false
     | _=>none
def toRet:List It→List It
 | .ret rs d::k=>.ret rs d::k
 | .fin rs::k=>.fin rs::k
 | .mk D::k=>.mk D::k
 | .rnd l d::k=>.rndj l .ret d::k
 | .beg _::_=>[]
 | .rndj _ _ _::_=>[]
 | .erf _::_=>[]
 | _::k=>toRet k
 | []=>[]
def toBlk (id:Nat):List It→Option (List It)
 | []=>none
 | .blk j::k=>if j=id then some k else toBlk id k
 | .ret _ _::_=>none
 | .fin _::_=>none
 | .mk _::_=>none
 | .rnd l d::k=>some (.rndj l (.exit id) d::k)
 | .beg _::_=>none
 | .rndj _ _ _::_=>none
 | .erf _::_=>none
 | _::k=>toBlk id k
def resOne (P:Program) (fr:List V) (H:List AB):ResultVar→Option V
 | .tmp t=>some (fr.getD t undefV)
 | .cell a t=>(tdOf P t).bind fun d=>loadV H d (fr.getD a undefV)
def resL (P:Program) (fr:List V) (H:List AB):List ResultVar→Option (List V)
 | []=>some []
 | r::rs=>(resOne P fr H r).bind fun v=>(resL P fr H rs).map (v :: ·)
def resV:List V→V
 | [v]=>v
 | vs=>.tup vs
def opStep (P:Program) (G:Glob) (all:List Oper) (o:Oper) (l:List Oper) (k:List It) (fr:List V) (st:List (List V)) (H:List AB):Option Cfg :=
 match o.guard with
 | none=>(eff P G fr H H.length o.op).map fun r=>⟨.ops all l::k,putV fr o.dst r.1,st,applyU H r.2⟩
 | some _=>match guardV all fr o with
   | some true=>some ⟨.ops all ({ o with guard:=none }::l)::k,fr,st,H⟩
   | some false=>some ⟨.ops all l::k,putV fr o.dst undefV,st,H⟩
   | none=>none
def step (P:Program) (G:Glob):Cfg→Option Cfg
 | ⟨.code c::k,fr,st,H⟩=>match c with
   | .seq a b=>some ⟨.code a::.code b::k,fr,st,H⟩
   | .skip=>some ⟨k,fr,st,H⟩
   | .block id b=>some ⟨.code b::.blk id::k,fr,st,H⟩
   | .region _ ops false=>some ⟨.ops ops.toList ops.toList::k,fr,st,H⟩
   | .cond c a b=>match evalO G fr c with
     | .val (.bool t)=>some ⟨.code (bif t then a else b)::k,fr,st,H⟩
     | _=>none
   | .exit id=>(toBlk id k).map fun k=>⟨k,fr,st,H⟩
   | .ret=>some ⟨toRet k,fr,st,H⟩
   | .label _=>some ⟨k,fr,st,H⟩
   | .scope b=>some ⟨.code b::k,fr,st,H⟩
   | _=>none
 | ⟨.blk _::k,fr,st,H⟩=>some ⟨k,fr,st,H⟩
 | ⟨.ops _ []::k,fr,st,H⟩=>some ⟨k,fr,st,H⟩
 | ⟨.ops all (o::l)::k,fr,st,H⟩=>opStep P G all o l k fr st H
 | ⟨.ret rs dst::k,fr,f::st,H⟩=>(resL P fr H rs).map fun vs=>⟨k,putV f dst (resV vs),st,H⟩
 | _=>none
end Go.Ab
namespace Go.Ab
open Go Go.RowKit
structure Env.le (E E':Env):Prop where
 stab:∀ b o u,E.stab b o u→E'.stab b o u
 phi:∀ i v b,E.φ i v=some b→E'.φ i v=some b
 row:∀ (i sz:Nat) (es:List V) (v:Nat) (m:Bool),E.H[i]?=some (.row sz es v m)→E'.H[i]?=some AB.dead ∨ ∃ sz' es' v' m',E'.H[i]?=some (AB.row sz' es' v' m')∧v≤v'∧(v=v'→E'.τ i=E.τ i)
 dead:∀ i:Nat,E.H[i]?=some AB.dead→E'.H[i]?=some AB.dead
theorem Env.le.bare {E E':Env} (h:E.le E'):E.bare.le E'.bare:=⟨h.stab,fun _ _ _ h=>by simp [Env.bare] at h,fun _ _ _ _ _ h=>by simp [Env.bare] at h,fun _ h=>by simp [Env.bare] at h⟩
theorem Env.le.refl (E:Env):E.le E:=⟨fun _ _ _ h=>h,fun _ _ _ h=>h,fun _ _ _ _ _ h=>.inr ⟨_,_,_,_,h,Nat.le_refl _,fun _=>rfl⟩,fun _ h=>h⟩
theorem Env.le.trans {E E' E'':Env} (h:E.le E') (k:E'.le E''):E.le E'':=by
 refine ⟨fun b o u h1=>k.stab _ _ _ (h.stab _ _ _ h1),fun _ _ _ h1=>k.phi _ _ _ (h.phi _ _ _ h1),fun i sz es v m h1=>?_,fun i h1=>k.dead _ (h.dead _ h1)⟩
 rcases h.row _ _ _ _ _ h1 with h2|⟨sz',es',v',m',h2,h3,h4⟩
 ·exact .inl (k.dead _ h2)
 ·rcases k.row _ _ _ _ _ h2 with h5|⟨sz2,es2,v2,m2,h5,h6,h7⟩
  ·exact .inl h5
  ·exact .inr ⟨_,_,_,_,h5,by omega,fun e=>by rw [h7 (by omega),h4 (by omega)]⟩
mutual
theorem Rep.mono:(v:V) → ∀ {E E':Env} {x:Value},E.le E'→Rep E v x→Rep E' v x
 | .any,_,_,_,_,_=>by simp only [Rep]
 | .val v,_,_,_,_,h=>by simpa only [Rep] using h
 | .ptr i o,_,_,_,hl,h=>by
   simp only [Rep] at h ⊢
   obtain ⟨b,h1,h2⟩:=h;exact ⟨b,hl.phi _ _ _ h1,h2⟩
 | .ptrE i ver idx sz off,E,E',x,hl,h=>by
   simp only [Rep] at h ⊢
   obtain ⟨h0,h⟩:=h
   refine ⟨h0,?_⟩
   split at h
   ·rename_i heq
    rcases hl.row _ _ _ _ _ heq with h2|⟨_,_,v',_,h2,h3,h4⟩
    ·simp only [h2]
    ·simp only [h2]
     refine ⟨by omega,fun e=>?_⟩
     obtain ⟨b,h5,h6⟩:=h.2 (by omega)
     exact ⟨b,hl.phi _ _ _ h5,h6⟩
   ·rename_i heq;simp only [hl.dead _ heq]
   ·exact h.elim
 | .cp cs,_,_,_,hl,h=>by
   simp only [Rep] at h ⊢
   obtain ⟨b,o,h1,h2⟩:=h
   exact ⟨b,o,h1,RepAt.mono cs hl.bare h2⟩
 | .sl es m,_,_,_,hl,h=>by
   simp only [Rep] at h ⊢
   obtain ⟨a,n,c,h1,h2,h3,h4,h5,h6,h7⟩:=h
   refine ⟨a,n,c,h1,h2,h3,h4,h5,h6,fun he=>?_⟩
   obtain ⟨sz,b,o,h8,h9⟩:=h7 he
   exact ⟨sz,b,o,h8,RepEs.mono es hl.bare h9⟩
 | .vs i off n sz,_,_,_,hl,h=>by
   simp only [Rep] at h ⊢
   obtain ⟨b,c,h1,h2⟩:=h;exact ⟨b,c,hl.phi _ _ _ h1,h2⟩
 | .row i ver,_,_,_,hl,h=>by
   simp only [Rep] at h ⊢
   obtain ⟨h0,h⟩:=h
   refine ⟨h0,?_⟩
   split at h
   ·rename_i heq
    rcases hl.row _ _ _ _ _ heq with h2|⟨_,_,v',_,h2,h3,h4⟩
    ·simp only [h2]
    ·simp only [h2]
     exact ⟨by omega,fun e=>by rw [h.2 (by omega),h4 (by omega)]⟩
   ·rename_i heq;simp only [hl.dead _ heq]
   ·exact h.elim
 | .agg cs,_,_,_,hl,h=>by
   simp only [Rep] at h ⊢
   obtain ⟨xs,h1,h2⟩:=h;exact ⟨xs,h1,RepL.mono cs hl h2⟩
 | .tup cs,_,_,_,hl,h=>by
   simp only [Rep] at h ⊢
   obtain ⟨xs,h1,h2⟩:=h;exact ⟨xs,h1,RepL.mono cs hl h2⟩
 | .fn f first cap,_,_,_,hl,h=>by
   simp only [Rep] at h ⊢
   obtain ⟨xs,ys,h1,h2,h3⟩:=h;exact ⟨xs,ys,h1,RepL.mono first hl h2,RepL.mono cap hl h3⟩
 | .iface t v,_,_,_,hl,h=>by
   simp only [Rep] at h ⊢
   obtain ⟨y,h1,h2⟩:=h;exact ⟨y,h1,Rep.mono v hl h2⟩
 | .mp i,_,_,_,hl,h=>by
   simp only [Rep] at h ⊢
   obtain ⟨b,h1,h2⟩:=h;exact ⟨b,hl.phi _ _ _ h1,h2⟩
theorem RepL.mono:(vs:List V) → ∀ {E E':Env} {xs:List Value},E.le E'→RepL E vs xs→RepL E' vs xs
 | [],_,_,_,_,h=>by simpa only [RepL] using h
 | v::vs,_,_,_,hl,h=>by
   simp only [RepL] at h ⊢
   obtain ⟨y,ys,h1,h2,h3⟩:=h
   exact ⟨y,ys,h1,Rep.mono v hl h2,RepL.mono vs hl h3⟩
theorem RepAt.mono:(vs:List V) → ∀ {E E':Env} {b o:Nat},E.le E'→RepAt E vs b o→RepAt E' vs b o
 | [],_,_,_,_,_,_=>by simp only [RepAt]
 | v::vs,_,_,_,_,hl,h=>by
   simp only [RepAt] at h ⊢
   obtain ⟨⟨u,h1,h2⟩,h3⟩:=h
   exact ⟨⟨u,hl.stab _ _ _ h1,Rep.mono v hl h2⟩,RepAt.mono vs hl h3⟩
theorem RepEs.mono:(vs:List V) → ∀ {E E':Env} {sz b o:Nat},E.le E'→RepEs E sz vs b o→RepEs E' sz vs b o
 | [],_,_,_,_,_,_,_=>by simp only [RepEs]
 | v::vs,E,E',sz,b,o,hl,h=>by
   by_cases hv:∃ cs,v=.agg cs
   ·obtain ⟨cs,rfl⟩:=hv
    simp only [RepEs] at h ⊢
    exact ⟨⟨h.1.1,RepAt.mono cs hl h.1.2⟩,RepEs.mono vs hl h.2⟩
   ·rw [RepEs.eq_3 _ _ _ _ _ _ (fun cs e=>hv ⟨cs,e⟩)] at h ⊢
    obtain ⟨⟨h0,u,h1,h2⟩,h3⟩:=h
    exact ⟨⟨h0,u,hl.stab _ _ _ h1,Rep.mono v hl h2⟩,RepEs.mono vs hl h3⟩
end
theorem Env.bare_le (E:Env):E.bare.le E:=⟨fun _ _ _ h=>h,fun _ _ _ h=>by simp [Env.bare] at h,fun _ _ _ _ _ h=>by simp [Env.bare] at h,fun _ h=>by simp [Env.bare] at h⟩
theorem Env.bare_bare (E:Env):E.bare.bare=E.bare:=rfl
theorem RepL.nil (E:Env):RepL E [] []:=by simp [RepL]
theorem RepL.cons {E:Env} {v:V} {vs:List V} {x:Value} {xs:List Value} (h:Rep E v x) (hs:RepL E vs xs):RepL E (v::vs) (x::xs):=by
 simp only [RepL];exact ⟨x,xs,rfl,h,hs⟩
theorem RepL.cons_iff {E:Env} {v:V} {vs:List V} {x:Value} {xs:List Value}:RepL E (v::vs) (x::xs)↔Rep E v x∧RepL E vs xs:=by
 simp only [RepL,List.cons.injEq]
 exact ⟨fun ⟨_,_,⟨h1,h2⟩,h3,h4⟩=>by subst h1;subst h2;exact ⟨h3,h4⟩,fun ⟨h1,h2⟩=>⟨_,_,⟨rfl,rfl⟩,h1,h2⟩⟩
theorem RepL.length {E:Env}:∀ {vs:List V} {xs:List Value},RepL E vs xs→xs.length=vs.length
 | [],xs,h=>by simp only [RepL] at h;simp [h]
 | v::vs,xs,h=>by
   simp only [RepL] at h
   obtain ⟨y,ys,rfl,_,h2⟩:=h
   simp [h2.length]
theorem RepL.get {E:Env}:∀ {vs:List V} {xs:List Value},RepL E vs xs → ∀ (i:Nat) (v:V),vs[i]?=some v → ∃ x,xs[i]?=some x∧Rep E v x
 | [],xs,h,i,v,hv=>by simp at hv
 | u::vs,xs,h,i,v,hv=>by
   simp only [RepL] at h
   obtain ⟨y,ys,rfl,h1,h2⟩:=h
   cases i with
   | zero=>simp at hv;subst hv;exact ⟨y,by simp,h1⟩
   | succ i=>simpa using h2.get i v (by simpa using hv)
theorem RepL.append {E:Env}:∀ {vs ws:List V} {xs ys:List Value},RepL E vs xs→RepL E ws ys→RepL E (vs++ws) (xs++ys)
 | [],ws,xs,ys,h,k=>by simp only [RepL] at h;subst h;simpa using k
 | v::vs,ws,xs,ys,h,k=>by
   simp only [RepL] at h
   obtain ⟨y,zs,rfl,h1,h2⟩:=h
   exact RepL.cons h1 (h2.append k)
theorem RepL.take {E:Env}:∀ {vs:List V} {xs:List Value} (n:Nat),RepL E vs xs→RepL E (vs.take n) (xs.take n)
 | _,_,0,_=>by simp [RepL]
 | [],xs,n + 1,h=>by simp only [RepL] at h;subst h;simp [RepL]
 | v::vs,xs,n + 1,h=>by
   simp only [RepL] at h
   obtain ⟨y,zs,rfl,h1,h2⟩:=h
   exact RepL.cons h1 (h2.take n)
theorem RepL.drop {E:Env}:∀ {vs:List V} {xs:List Value} (n:Nat),RepL E vs xs→RepL E (vs.drop n) (xs.drop n)
 | _,_,0,h=>by simpa using h
 | [],xs,n + 1,h=>by simp only [RepL] at h;subst h;simp [RepL]
 | v::vs,xs,n + 1,h=>by
   simp only [RepL] at h
   obtain ⟨y,zs,rfl,h1,h2⟩:=h
   exact h2.drop n
theorem RepL.set {E:Env}:∀ {vs:List V} {xs:List Value} (n:Nat) {v:V} {x:Value},RepL E vs xs→Rep E v x→RepL E (vs.set n v) (xs.set n x)
 | [],xs,n,_,_,h,_=>by simp only [RepL] at h;subst h;simp [RepL]
 | u::vs,xs,0,v,x,h,k=>by
   simp only [RepL] at h
   obtain ⟨y,zs,rfl,h1,h2⟩:=h
   exact RepL.cons k h2
 | u::vs,xs,n + 1,v,x,h,k=>by
   simp only [RepL] at h
   obtain ⟨y,zs,rfl,h1,h2⟩:=h
   exact RepL.cons h1 (h2.set n k)
theorem RepL.split {E:Env}:∀ {vs ws:List V} {xs:List Value},RepL E (vs++ws) xs → ∃ ys zs,xs=ys++zs∧RepL E vs ys∧RepL E ws zs
 | [],ws,xs,h=>⟨[],xs,rfl,RepL.nil E,by simpa using h⟩
 | v::vs,ws,xs,h=>by
   simp only [List.cons_append,RepL] at h
   obtain ⟨y,ys,rfl,h1,h2⟩:=h
   obtain ⟨a_s,bs,rfl,h3,h4⟩:=h2.split
   exact ⟨y::a_s,bs,rfl,RepL.cons h1 h3,h4⟩
theorem Rep.undef (E:Env):Rep E undefV undef:=by
 simp only [undefV,Rep];exact ⟨[],rfl,RepL.nil E⟩
theorem RepL.getD {E:Env} {vs:List V} {xs:List Value} (h:RepL E vs xs) (i:Nat):Rep E (vs.getD i undefV) (xs.getD i undef):=by
 simp only [List.getD_eq_getElem?_getD]
 cases hv:vs[i]? with
 | some v =>
   obtain ⟨x,hx,hr⟩:=h.get i v hv
   simpa [hx] using hr
 | none =>
   have:xs[i]?=none:=by
    have:=h.length
    simp at hv ⊢
    omega
   simpa [this] using Rep.undef E
theorem Rep.ofCell (E:Env) (v:Value) (h:v.oneCell'=true):Rep E (ofCell v) v:=by
 unfold Ab.ofCell
 split
 ·simp only [Rep];refine ⟨none,0,0,rfl,rfl,Nat.le_refl _,by simp [maxLen],?_,?_,?_⟩<;>simp
 ·simp [Rep,h]
theorem RepL.ofCells (E:Env):∀ (vs:List Value),(vs.all Value.oneCell')=true→RepL E (vs.map ofCell) vs
 | [],_=>RepL.nil E
 | v::vs,h=>by
   simp at h
   exact RepL.cons (Rep.ofCell E v h.1) (RepL.ofCells E vs (by simpa using h.2))
theorem Rep.ofConst (E:Env) (v:Value):Rep E (ofConst v) v:=by
 unfold Ab.ofConst
 split
 ·rename_i vs
  split
  ·rename_i h
   have:vs = #[]:=by
    have:vs.toList=[]:=by simpa using h
    rw [← Array.toArray_toList (xs:=vs),this]
   subst this
   exact Rep.undef E
  ·simp [Rep]
 ·rename_i cs
  split
  ·rename_i h
   simp only [Rep]
   exact ⟨cs.toList,by simp,RepL.ofCells E _ h⟩
  ·simp [Rep]
 ·rename_i h1 h2
  refine Rep.ofCell E v ?_
  cases v<;>simp_all [Value.oneCell']
end Go.Ab
namespace Go.Ab
open Go Go.RowKit
def flatV (es:List V):List V:=es.flatMap V.cells
def keyVal (sg:KS) (q:List Int):Value:=bif sg.1 then .agg (List.zipWith Value.int sg.2 q).toArray else (match sg.2,q with|k::_,n::_=>.int k n|_,_=>.bool false)
def lookL:List (List Int×V)→List Int→Option V
 | [],_=>none
 | p::L,q=>bif eqIs q p.1 then some p.2 else lookL L q
def HOK (E:Env) (i:Nat):AB→Prop
 | .dead=>True
 | .hole => ∀ v,E.φ i v=none
 | .var cs => ∃ b C e,E.φ i 0=some b∧E.w.heap[b]?=some (.cells C e (0,0))∧RepL E cs C.toList ∧ ∀ o,E.M b o
 | .row sz es ver imm => ∃ a n c,E.τ i=.slice a n c∧n=es.length∧n≤c∧c≤maxLen∧((∀ e∈es,e.cells.length=sz) ∧ ∀ u,ver < u→E.φ i u=none) ∧
    ((n=0∧c=0) ∨ ∃ b C e,E.φ i ver=some b∧a=some ⟨b,0,none⟩∧E.w.heap[b]?=some (.cells C e (0,0))∧C.size=c * sz ∧
      RepL E.bare (flatV es) (C.toList.take (n * sz))∧(∀ o,n * sz≤o→E.M b o)∧(∀ o,o < n * sz→(E.M b o↔imm=false)))
 | .map own sg f => ∃ b C k L,E.φ i 0=some b∧E.w.heap[b]?=some (.map C k)∧C.toList.map (·.key)=L.map (fun p=>keyVal sg p.1)∧RepL (bif own then E else E.bare) (L.map (·.2)) (C.toList.map (·.val))∧(∀ p∈L,p.1.length=sg.2.length)∧f=lookL L
 | .dfr D=>E.φ i 0=some D∧E.w.heap[D]?=some (.deferred (some []))
 | .lp l s pend fr ps asg body => ∃ fn tmps D,E.φ i 0=some l∧E.w.heap[l]?=some (.loop { state:=s,pending:=pend,fn:=fn,tmps:=tmps,params:=ps.toArray,assign:=asg,body:=body,defers:=D })∧RepL E fr tmps.toList
structure EOK (G:Glob) (w0:World) (M0:Nat→Nat→Prop) (E:Env):Prop where
 below:Below w0.heap.size w0 E.w
 old:∀ b o,b < w0.heap.size→(E.M b o↔M0 b o)
 mlt:∀ b o,E.M b o→b < E.w.heap.size
 phi:∀ i v b,E.φ i v=some b→(∃ h,E.H[i]?=some h)∧E.H[i]?≠some AB.hole∧w0.heap.size≤b∧b < E.w.heap.size
 inj:∀ i v j u b,E.φ i v=some b→E.φ j u=some b→i=j
 blk:∀ i h,E.H[i]?=some h→HOK E i h
 glob:∀ g cs,G.lookup g=some cs→RepAt E.bare cs g 0
theorem HOK.mono {E E':Env} {i:Nat} {h:AB} (hle:E.le E') (hφ:E'.φ i=E.φ i) (hτ:E'.τ i=E.τ i)
 (hb:∀ v b,E.φ i v=some b→E'.w.heap[b]?=E.w.heap[b]? ∧ ∀ o,(E'.M b o↔E.M b o)) (hh:HOK E i h):HOK E' i h:=by
 cases h with
 | dead=>trivial
 | hole=>simpa [HOK,hφ] using hh
 | var cs =>
   obtain ⟨b,C,e,h1,h2,h3,h4⟩:=hh
   obtain ⟨k1,k2⟩:=hb _ b h1
   exact ⟨b,C,e,by rw [hφ,h1],by rw [k1,h2],RepL.mono cs hle h3,fun o=>(k2 o).2 (h4 o)⟩
 | row sz es ver imm =>
   obtain ⟨a,n,c,h1,h2,h3,h4,h5,h6⟩:=hh
   refine ⟨a,n,c,by rw [hτ,h1],h2,h3,h4,⟨h5.1,fun u hu=>by rw [hφ];exact h5.2 u hu⟩,?_⟩
   rcases h6 with h6|⟨b,C,e,h6,h7,h8,h9,h10,h11,h12⟩
   ·exact .inl h6
   ·obtain ⟨k1,k2⟩:=hb _ b h6
    exact .inr ⟨b,C,e,by rw [hφ,h6],h7,by rw [k1,h8],h9,RepL.mono _ hle.bare h10,fun o ho=>(k2 o).2 (h11 o ho),fun o ho=>(k2 o).trans (h12 o ho)⟩
 | map own sg f =>
   obtain ⟨b,C,k,L,h1,h2,h3,h4,h5,h6⟩:=hh
   obtain ⟨k1,k2⟩:=hb _ b h1
   refine ⟨b,C,k,L,by rw [hφ,h1],by rw [k1,h2],h3,?_,h5,h6⟩
   cases own
   ·exact RepL.mono _ hle.bare h4
   ·exact RepL.mono _ hle h4
 | dfr D =>
   obtain ⟨h1,h2⟩:=hh
   obtain ⟨k1,_⟩:=hb _ D h1
   exact ⟨by rw [hφ,h1],by rw [k1,h2]⟩
 | lp l s pend fr ps asg body =>
   obtain ⟨fn,tmps,D,h1,h2,h3⟩:=hh
   obtain ⟨k1,_⟩:=hb _ l h1
   exact ⟨fn,tmps,D,by rw [hφ,h1],by rw [k1,h2],RepL.mono _ hle h3⟩
structure NewAt (H:List AB) (nid:Nat) (b:AB) (H':List AB):Prop where
 was:H[nid]?=none∨H[nid]?=some AB.hole
 is:H'[nid]?=some b
 other:∀ j,j≠nid→H'[j]?=H[j]?
theorem NewAt.push (H:List AB) (b:AB):NewAt H H.length b (H++[b]) :=
 ⟨.inl (by simp),by simp,fun j hj=>by
   rcases Nat.lt_or_ge j H.length with h|h
   ·rw [List.getElem?_append_left h]
   ·have:H.length < j:=by omega
    rw [List.getElem?_eq_none (by simp;omega),List.getElem?_eq_none (by omega)]⟩
theorem NewAt.hole {H:List AB} {nid:Nat} (h:H[nid]?=some AB.hole) (b:AB):NewAt H nid b (H.set nid b) :=
 ⟨.inr h,by
   have:nid < H.length:=by
    rcases Nat.lt_or_ge nid H.length with k|k
    ·exact k
    ·rw [List.getElem?_eq_none k] at h;cases h
   simp [this],fun j hj=>by simp [List.getElem?_set,Ne.symm hj]⟩
section
variable {G:Glob} {w0:World} {M0:Nat→Nat→Prop} {E:Env}
theorem EOK.phi_new (h:EOK G w0 M0 E) {nid:Nat} {b:AB} {H':List AB} (hn:NewAt E.H nid b H'):∀ v,E.φ nid v=none:=by
 intro v
 cases hp:E.φ nid v with
 | none=>rfl
 | some c =>
   obtain ⟨⟨x,h1⟩,h2,_⟩:=h.phi _ _ _ hp
   rcases hn.was with h3|h3
   ·rw [h3] at h1;cases h1
   ·exact absurd h3 h2
theorem EOK.lt_of_stab (E:Env) {b o:Nat} {u:Value} (hs:E.stab b o u):b < E.w.heap.size:=World.block_lt_of_cell? E.w ⟨b,o,none⟩ hs.1
theorem EOK.allocImm (h:EOK G w0 M0 E) (o:Obj):EOK G w0 M0 { E with w:=E.w.alloc o }∧E.le { E with w:=E.w.alloc o }:=by
 have hle:E.le { E with w:=E.w.alloc o }:=by
  refine ⟨fun b o' u hs=>⟨?_,hs.2⟩,fun _ _ _ h=>h,fun _ _ _ _ _ h=>.inr ⟨_,_,_,_,h,Nat.le_refl _,fun _=>rfl⟩,fun _ h=>h⟩
  have hb:=EOK.lt_of_stab E hs
  show (E.w.alloc o).cell? _=_
  rw [World.cell?_alloc_lt (h:=hb)];exact hs.1
 refine ⟨⟨h.below.alloc h.below.size o,h.old,fun b o' hm=>?_,fun i v b hp=>?_,h.inj,fun i x hx=>?_,fun g cs hg=>RepAt.mono cs hle.bare (h.glob g cs hg)⟩,hle⟩
 ·have:=h.mlt b o' hm;simp;omega
 ·obtain ⟨k1,k2,k3,k4⟩:=h.phi i v b hp
  exact ⟨k1,k2,k3,by simp;omega⟩
 ·refine HOK.mono hle rfl rfl (fun v b hb=>⟨?_,fun _=>Iff.rfl⟩) (h.blk i x hx)
  exact Below.heap_alloc E.w o b (h.phi i v b hb).2.2.2
theorem EOK.drew (h:EOK G w0 M0 E):EOK G w0 M0 { E with w:=E.w.drew }∧E.le { E with w:=E.w.drew }:=by
 have hle:E.le { E with w:=E.w.drew }:=⟨fun b o' u hs=>hs,fun _ _ _ h=>h,fun _ _ _ _ _ h=>.inr ⟨_,_,_,_,h,Nat.le_refl _,fun _=>rfl⟩,fun _ h=>h⟩
 refine ⟨⟨h.below.drew,h.old,h.mlt,h.phi,h.inj,fun i x hx=>?_,fun g cs hg=>RepAt.mono cs hle.bare (h.glob g cs hg)⟩,hle⟩
 exact HOK.mono hle rfl rfl (fun v b hb=>⟨rfl,fun _=>Iff.rfl⟩) (h.blk i x hx)
def Env.allocOwn (E:Env) (o:Obj) (nid:Nat) (H':List AB) (t:Value) (M':Nat→Prop):Env :=
 { w:=E.w.alloc o,φ:=fun j v=>if j=nid then (if v=0 then some E.w.heap.size else none) else E.φ j v,τ:=fun j=>if j=nid then t else E.τ j,
   M:=fun b k=>E.M b k∨(b=E.w.heap.size∧M' k),H:=H' }
theorem EOK.allocOwn (h:EOK G w0 M0 E) (o:Obj) {nid:Nat} {ab:AB} {H':List AB} (hn:NewAt E.H nid ab H') (t:Value) (M':Nat→Prop) (hab:ab≠AB.hole)
 (hk:E.le (E.allocOwn o nid H' t M')→HOK (E.allocOwn o nid H' t M') nid ab) :
 EOK G w0 M0 (E.allocOwn o nid H' t M')∧E.le (E.allocOwn o nid H' t M'):=by
 have hφ:=h.phi_new hn
 have hle:E.le (E.allocOwn o nid H' t M'):=by
  refine ⟨fun b o' u hs=>⟨?_,?_⟩,fun i v b hp=>?_,fun i sz es v m hr=>?_,fun i hd=>?_⟩
  ·show (E.w.alloc o).cell? _=_
   rw [World.cell?_alloc_lt (h:=EOK.lt_of_stab E hs)];exact hs.1
  ·rintro (h1|⟨h1,_⟩)
   ·exact hs.2 h1
   ·have:=EOK.lt_of_stab E hs;omega
  ·have:i≠nid:=by rintro rfl;rw [hφ] at hp;cases hp
   simp [Env.allocOwn,this,hp]
  ·have:i≠nid:=by rintro rfl;rcases hn.was with h3|h3<;>rw [h3] at hr<;>cases hr
   exact .inr ⟨sz,es,v,m,by simp [Env.allocOwn,hn.other _ this,hr],Nat.le_refl _,fun _=>by simp [Env.allocOwn,this]⟩
  ·have:i≠nid:=by rintro rfl;rcases hn.was with h3|h3<;>rw [h3] at hd<;>cases hd
   simp [Env.allocOwn,hn.other _ this,hd]
 have hsz:(E.allocOwn o nid H' t M').w.heap.size=E.w.heap.size + 1:=by simp [Env.allocOwn]
 refine ⟨⟨h.below.alloc h.below.size o,fun b k hb=>?_,fun b k hm=>?_,fun i v b hp=>?_,fun i v j u b hi hj=>?_,fun i x hx=>?_,fun g cs hg=>RepAt.mono cs hle.bare (h.glob g cs hg)⟩,hle⟩
 ·have:=h.below.size
  constructor
  ·rintro (h1|⟨h1,_⟩)
   ·exact (h.old b k hb).1 h1
   ·omega
  ·exact fun h1=>.inl ((h.old b k hb).2 h1)
 ·rw [hsz]
  rcases hm with h1|⟨h1,_⟩
  ·have:=h.mlt _ _ h1;omega
  ·omega
 ·rw [hsz]
  by_cases hi:i=nid
  ·subst hi
   simp [Env.allocOwn] at hp
   obtain ⟨_,hp⟩:=hp
   subst hp
   exact ⟨⟨ab,hn.is⟩,by simp [Env.allocOwn,hn.is,hab],h.below.size,by omega⟩
  ·simp [Env.allocOwn,hi] at hp
   obtain ⟨⟨x,k1⟩,k2,k3,k4⟩:=h.phi i v b hp
   exact ⟨⟨x,by simp [Env.allocOwn,hn.other _ hi,k1]⟩,by simp [Env.allocOwn,hn.other _ hi,k2],k3,by omega⟩
 ·by_cases h1:i=nid<;>by_cases h2:j=nid<;>simp [Env.allocOwn,h1,h2] at hi hj
  ·omega
  ·have:=(h.phi j _ _ hj).2.2.2;omega
  ·have:=(h.phi i _ _ hi).2.2.2;omega
  ·exact h.inj i v j u b hi hj
 ·by_cases hi:i=nid
  ·subst hi
   have:x=ab:=by
    have h1:H'[i]?=some x:=hx
    rw [hn.is] at h1;injection h1 with h1;exact h1.symm
   subst this
   exact hk hle
  ·have h1:E.H[i]?=some x:=by rw [← hn.other _ hi];exact hx
   refine HOK.mono hle (by funext v;simp [Env.allocOwn,hi]) (by simp [Env.allocOwn,hi]) (fun v b hb=>?_) (h.blk i x h1)
   have hlt:=(h.phi i v b hb).2.2.2
   refine ⟨Below.heap_alloc E.w o b hlt,fun k=>⟨?_,.inl⟩⟩
   rintro (h2|⟨h2,_⟩)
   ·exact h2
   ·omega
theorem EOK.write (h:EOK G w0 M0 E) (w':World) (i b:Nat) (ab ab':AB) {pv:Nat} (hφ:E.φ i pv=some b) (hi:E.H[i]?=some ab) (hsize:w'.heap.size=E.w.heap.size)
 (hos:w'.os=E.w.os) (htape:w'.tape=E.w.tape) (hout:w'.output=E.w.output)
 (hother:∀ k,k≠b→w'.heap[k]?=E.w.heap[k]?) (hst:∀ o u,E.stab b o u→w'.cell? ⟨b,o,none⟩=some u)
 (hrow:∀ sz es v m,ab=AB.row sz es v m → ∃ sz' es' m',ab'=AB.row sz' es' v m') (hdead:ab≠AB.dead) (hhole:ab'≠AB.hole)
 (hk:E.le { E with w:=w',H:=E.H.set i ab' }→HOK { E with w:=w',H:=E.H.set i ab' } i ab') :
 EOK G w0 M0 { E with w:=w',H:=E.H.set i ab' }∧E.le { E with w:=w',H:=E.H.set i ab' }:=by
 have hil:i < E.H.length:=by
  rcases Nat.lt_or_ge i E.H.length with k|k
  ·exact k
  ·rw [List.getElem?_eq_none k] at hi;cases hi
 have hself:(E.H.set i ab')[i]?=some ab':=by simp [hil]
 have hoth:∀ j,j≠i→(E.H.set i ab')[j]?=E.H[j]?:=fun j hj=>by simp [List.getElem?_set,Ne.symm hj]
 have hcell:∀ k o,k≠b→w'.cell? ⟨k,o,none⟩=E.w.cell? ⟨k,o,none⟩:=fun k o hne=>World.cell?_of_block (hother k hne)
 have hle:E.le { E with w:=w',H:=E.H.set i ab' }:=by
  refine ⟨fun k o u hs=>⟨?_,hs.2⟩,fun _ _ _ h=>h,fun j sz es v m hr=>?_,fun j hd=>?_⟩
  ·by_cases hkb:k=b
   ·subst hkb;exact hst o u hs
   ·show w'.cell? _=_
    rw [hcell k o hkb];exact hs.1
  ·by_cases hj:j=i
   ·subst hj
    rw [hi] at hr;injection hr with hr
    obtain ⟨sz',es',m',rfl⟩:=hrow sz es v m hr
    exact .inr ⟨sz',es',v,m',hself,Nat.le_refl _,fun _=>rfl⟩
   ·exact .inr ⟨sz,es,v,m,by show (E.H.set i ab')[j]?=_;rw [hoth j hj,hr],Nat.le_refl _,fun _=>rfl⟩
  ·by_cases hj:j=i
   ·subst hj;rw [hi] at hd;injection hd with hd;exact absurd hd hdead
   ·show (E.H.set i ab')[j]?=_;rw [hoth j hj,hd]
 obtain ⟨hpb1,hpb2,hpb3,hpb4⟩:=h.phi i pv b hφ
 refine ⟨⟨h.below.trans ⟨hos,htape,hout,by show _≤w'.heap.size;omega,fun k hk=>hother k (by omega)⟩,h.old,fun k o hm=>by rw [show ({ E with w:=w',H:=E.H.set i ab' }:Env).w.heap.size=E.w.heap.size from hsize];exact h.mlt k o hm,fun j v c hp=>?_,h.inj,fun j x hx=>?_,fun g cs hg=>RepAt.mono cs hle.bare (h.glob g cs hg)⟩,hle⟩
 ·obtain ⟨⟨x,k1⟩,k2,k3,k4⟩:=h.phi j v c hp
  refine ⟨?_,?_,k3,by rw [show ({ E with w:=w',H:=E.H.set i ab' }:Env).w.heap.size=E.w.heap.size from hsize];exact k4⟩
  ·by_cases hj:j=i
   ·subst hj;exact ⟨ab',hself⟩
   ·exact ⟨x,by show (E.H.set i ab')[j]?=_;rw [hoth j hj,k1]⟩
  ·by_cases hj:j=i
   ·subst hj;show (E.H.set j ab')[j]?≠_;rw [hself];simpa using hhole
   ·show (E.H.set i ab')[j]?≠_;rw [hoth j hj];exact k2
 ·by_cases hj:j=i
  ·subst hj
   have:x=ab':=by
    have h1:(E.H.set j ab')[j]?=some x:=hx
    rw [hself] at h1;injection h1 with h1;exact h1.symm
   subst this
   exact hk hle
  ·have h1:E.H[j]?=some x:=by rw [← hoth j hj];exact hx
   refine HOK.mono hle rfl rfl (fun v c hc=>⟨hother c ?_,fun _=>Iff.rfl⟩) (h.blk j x h1)
   rintro rfl
   exact hj (h.inj j v i pv c hc hφ)
end
end Go.Ab
namespace Go.Ab
open Go Go.RowKit
theorem RepAt.of {E:Env}:∀ {cs:List V} {xs:List Value} {b o:Nat},RepL E cs xs→(∀ j x,xs[j]?=some x→E.stab b (o + j) x)→RepAt E cs b o
 | [],xs,b,o,h,hs=>by simp only [RepAt]
 | c::cs,xs,b,o,h,hs=>by
   simp only [RepL] at h
   obtain ⟨y,ys,rfl,h1,h2⟩:=h
   simp only [RepAt]
   refine ⟨⟨y,by simpa using hs 0 y (by simp),h1⟩,RepAt.of h2 fun j x hx=>?_⟩
   have:=hs (j + 1) x (by simpa using hx)
   rwa [show o + 1 + j=o + (j + 1) by omega]
theorem RepAt.to {E:Env}:∀ {cs:List V} {b o:Nat},RepAt E cs b o → ∃ xs,RepL E cs xs ∧ ∀ j x,xs[j]?=some x→E.stab b (o + j) x
 | [],b,o,h=>⟨[],RepL.nil E,fun j x hx=>by simp at hx⟩
 | c::cs,b,o,h=>by
   simp only [RepAt] at h
   obtain ⟨⟨u,h1,h2⟩,h3⟩:=h
   obtain ⟨xs,h4,h5⟩:=h3.to
   refine ⟨u::xs,RepL.cons h2 h4,fun j x hx=>?_⟩
   cases j with
   | zero=>simp at hx;subst hx;simpa using h1
   | succ j =>
     have:=h5 j x (by simpa using hx)
     rwa [show o + (j + 1)=o + 1 + j by omega]
theorem RepAt.drop {E:Env}:∀ {cs:List V} {b o:Nat} (n:Nat),RepAt E cs b o→RepAt E (cs.drop n) b (o + n)
 | _,_,_,0,h=>by simpa using h
 | [],_,_,n + 1,h=>by simp [RepAt]
 | c::cs,b,o,n + 1,h=>by
   simp only [RepAt] at h
   have:=h.2.drop n
   rw [show o + (n + 1)=o + 1 + n by omega];simpa using this
theorem RepAt.append {E:Env}:∀ {cs ds:List V} {b o:Nat},RepAt E (cs++ds) b o↔RepAt E cs b o∧RepAt E ds b (o + cs.length)
 | [],ds,b,o=>by simp [RepAt]
 | c::cs,ds,b,o=>by
   simp only [List.cons_append,RepAt,RepAt.append,List.length_cons]
   rw [show o + 1 + cs.length=o + (cs.length + 1) by omega,and_assoc]
theorem RepEs.cons {E:Env} {sz:Nat} {v:V} {vs:List V} {b o:Nat}:RepEs E sz (v::vs) b o↔(v.cells.length=sz∧RepAt E v.cells b o)∧RepEs E sz vs b (o + sz):=by
 by_cases hv:∃ cs,v=.agg cs
 ·obtain ⟨cs,rfl⟩:=hv
  simp only [RepEs,V.cells]
 ·rw [RepEs.eq_3 _ _ _ _ _ _ (fun cs e=>hv ⟨cs,e⟩)]
  have:v.cells=[v]:=by
   cases v<;>first|rfl|exact absurd ⟨_,rfl⟩ hv
  rw [this]
  simp only [List.length_singleton,RepAt,and_true]
  constructor<;>rintro ⟨⟨h1,h2⟩,h3⟩<;>exact ⟨⟨by omega,h2⟩,h3⟩
theorem RepEs.flat {E:Env} {sz:Nat}:∀ {es:List V} {b o:Nat},RepEs E sz es b o↔(∀ e∈es,e.cells.length=sz)∧RepAt E (flatV es) b o
 | [],b,o=>by simp [RepEs,flatV,RepAt]
 | e::es,b,o=>by
   rw [RepEs.cons,RepEs.flat]
   simp only [flatV,List.flatMap_cons,RepAt.append,List.mem_cons,forall_eq_or_imp]
   constructor
   ·rintro ⟨⟨h1,h2⟩,h3,h4⟩
    exact ⟨⟨h1,h3⟩,h2,by rw [h1];exact h4⟩
   ·rintro ⟨⟨h1,h3⟩,h2,h4⟩
    exact ⟨⟨h1,h2⟩,h3,by rw [← h1];exact h4⟩
theorem RepEs.get {E:Env} {sz:Nat}:∀ {es:List V} {b o:Nat},RepEs E sz es b o → ∀ i e,es[i]?=some e→e.cells.length=sz∧RepAt E e.cells b (o + i * sz)
 | [],b,o,h,i,e,he=>by simp at he
 | u::es,b,o,h,i,e,he=>by
   rw [RepEs.cons] at h
   cases i with
   | zero=>simp at he;subst he;exact ⟨h.1.1,by simpa using h.1.2⟩
   | succ i =>
     have:=h.2.get i e (by simpa using he)
     refine ⟨this.1,?_⟩
     have h2:=this.2
     rwa [show o + sz + i * sz=o + (i + 1) * sz by rw [Nat.add_mul];omega] at h2
theorem RepEs.append {E:Env} {sz:Nat}:∀ {es fs:List V} {b o:Nat},RepEs E sz (es++fs) b o↔RepEs E sz es b o∧RepEs E sz fs b (o + es.length * sz)
 | [],fs,b,o=>by simp [RepEs]
 | e::es,fs,b,o=>by
   simp only [List.cons_append,RepEs.cons,RepEs.append,List.length_cons]
   rw [show o + sz + es.length * sz=o + (es.length + 1) * sz by rw [Nat.add_mul];omega];simp only [and_assoc]
theorem RepEs.take {E:Env} {sz:Nat} {es:List V} {b o:Nat} (n:Nat) (h:RepEs E sz es b o):RepEs E sz (es.take n) b o:=by
 have:=h;rw [← List.take_append_drop n es,RepEs.append] at this;exact this.1
theorem RepEs.drop {E:Env} {sz:Nat} {es:List V} {b o:Nat} (n:Nat) (hn:n≤es.length) (h:RepEs E sz es b o):RepEs E sz (es.drop n) b (o + n * sz):=by
 have:=h;rw [← List.take_append_drop n es,RepEs.append] at this
 have h2:=this.2
 rwa [List.length_take,Nat.min_eq_left hn] at h2
theorem flatV_append (es fs:List V):flatV (es++fs)=flatV es++flatV fs:=by simp [flatV]
theorem flatV_length {sz:Nat}:∀ {es:List V},(∀ e∈es,e.cells.length=sz)→(flatV es).length=es.length * sz
 | [],_=>by simp [flatV]
 | e::es,h=>by
   have h1:=flatV_length (es:=es) fun x hx=>h x (by simp [hx])
   simp only [flatV,List.flatMap_cons,List.length_append,List.length_cons] at h1 ⊢
   rw [h1,h e (by simp),Nat.add_mul];omega
theorem flatV_get {sz:Nat}:∀ {es:List V},(∀ e∈es,e.cells.length=sz) → ∀ i e,es[i]?=some e→((flatV es).drop (i * sz)).take sz=e.cells
 | [],_,i,e,he=>by simp at he
 | u::es,h,i,e,he=>by
   have hu:=h u (by simp)
   simp only [flatV,List.flatMap_cons]
   cases i with
   | zero=>simp at he;subst he;simp [← hu]
   | succ i =>
     have:=flatV_get (es:=es) (fun x hx=>h x (by simp [hx])) i e (by simpa using he)
     rw [show (i + 1) * sz=u.cells.length + i * sz by rw [hu,Nat.add_mul];omega,← List.drop_drop,List.drop_left]
     exact this
theorem takeN_eq:∀ {n:Nat} {cs ds:List V},takeN n cs=some ds→ds=cs.take n∧n≤cs.length
 | 0,cs,ds,h=>by simp [takeN] at h;subst h;simp
 | n + 1,[],ds,h=>by simp [takeN] at h
 | n + 1,c::cs,ds,h=>by
   simp only [takeN,Option.map_eq_some_iff] at h
   obtain ⟨es,h1,rfl⟩:=h
   obtain ⟨h2,h3⟩:=takeN_eq h1
   exact ⟨by simp [h2],by simpa using h3⟩
theorem tdOf_some {P:Program} {t:TypeId} {d:TD} (h:tdOf P t=some d):∃ i ds z,P.info? t=some i∧P.underlying t=some ds∧i.zero=some z∧z.cells.toList.all Value.oneCell'=true∧d=⟨i.size,aggOf P t,shOf P ds,z.cells.toList.map ofCell,flatOf P t⟩:=by
 unfold tdOf at h
 split at h
 ·rename_i i ds h1 h2
  split at h
  ·rename_i z hz
   split at h
   ·rename_i hc;injection h with h;exact ⟨i,ds,z,h1,h2,hz,hc,h.symm⟩
   ·cases h
  ·cases h
 ·cases h
variable {P:Program}
theorem run_loadVar {t:TypeId} {d:TD} (ht:tdOf P t=some d) {E:Env} {w:World} {b o:Nat} {cs:List V} {xs:List Value} (hr:RepL E cs xs)
 (hx:∀ j x,xs[j]?=some x→w.cell? ⟨b,o + j,none⟩=some x) {v:V} (hv:partV d.isAgg d.size cs=some v) :
 ∃ x,(loadVar t ⟨b,o,none⟩).run P w=.ok x w∧Rep E v x:=by
 obtain ⟨i,ds,z,h1,h2,h3,_,rfl⟩:=tdOf_some ht
 simp only [partV] at hv
 by_cases hg:aggOf P t=true
 ·simp only [hg,if_true,Option.map_eq_some_iff] at hv
  obtain ⟨ds',hd,rfl⟩:=hv
  obtain ⟨rfl,hl⟩:=takeN_eq hd
  have hlx:i.size≤xs.length:=by rw [hr.length];exact hl
  refine ⟨.agg (xs.take i.size).toArray,?_,?_⟩
  ·have hrow:ds.isRow=true:=by
    unfold aggOf at hg;rw [h2] at hg
    cases ds<;>simp_all [TypeDesc.isRow]
   exact run_loadVar_mid w b o t (xs.take i.size) ds (fun j u hu=>hx j u (by
    rw [List.getElem?_take] at hu;split at hu
    ·exact hu
    ·cases hu)) h2 hrow (by simp [h1,Nat.min_eq_left hlx])
  ·simp only [Rep];exact ⟨_,rfl,hr.take _⟩
 ·simp only [hg,if_false] at hv
  cases cs with
  | nil=>simp at hv
  | cons c cs =>
    simp at hv;subst hv
    simp only [RepL] at hr
    obtain ⟨y,ys,rfl,k1,k2⟩:=hr
    refine ⟨y,?_,k1⟩
    have hc:=hx 0 y (by simp)
    simp only [Nat.add_zero] at hc
    have hag:(isAgg t).run P w=.ok false w:=by
     unfold isAgg;rw [Sem.run_bind,run_underlying h2 w]
     unfold aggOf at hg;rw [h2] at hg
     cases ds<;>simp_all
    simp [loadVar,hag,hc]
end Go.Ab
