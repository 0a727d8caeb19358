import Derived.Test.YtaebkmmjjabnaaaGreatDoorW8
set_option maxRecDepth 100000
set_option maxHeartbeats 4000000
set_option linter.unusedSimpArgs false
set_option linter.unusedVariables false
namespace Go.Ab
open Go Go.RowKit
def getV:List V→Nat→V
 | [],_=>undefV
 | a::_,0=>a
 | _::l,n + 1=>getV l n
theorem getV_eq:∀ (l:List V) (n:Nat),l.getD n undefV=getV l n
 | [],n=>by simp [getV]
 | a::l,0=>by simp [getV]
 | a::l,n + 1=>by simpa [getV] using getV_eq l n
def getH:List AB→Nat→AB
 | [],_=>.dead
 | a::_,0=>a
 | _::l,n + 1=>getH l n
theorem getH_cases (l:List AB) (n:Nat):l[n]?=some (getH l n)∨(l[n]?=none∧getH l n=.dead):=by
 induction l generalizing n with
 | nil=>exact .inr ⟨by simp,rfl⟩
 | cons a l ih =>
   cases n with
   | zero=>exact .inl (by simp [getH])
   | succ n=>simpa [getH] using ih n
theorem getH_D:∀ (l:List AB) (n:Nat),l.getD n .dead=getH l n
 | [],n=>by simp [getH]
 | a::l,0=>by simp [getH]
 | a::l,n + 1=>by simpa [getH] using getH_D l n
def ixO (kk esz:Nat) (ea:Bool) (cs:List V):Option Nat→Option V
 | some j=>if j < kk then partV ea esz (cs.drop (j * esz)) else none
 | none=>none
def globV:Option (List V)→V
 | some cs=>.cp cs
 | none=>.any
def loadC (a:Bool) (s off:Nat):AB→Option V
 | .var cs=>partV a s (cs.drop off)
 | _=>none
def loadR (a:Bool) (s ver idx sz off:Nat):AB→Option V
 | .row sz' es v _=>if ver=v∧sz=sz' then (es[idx]?).bind fun e=>partV a s (e.cells.drop off) else none
 | _=>none
def sets1 (i:Nat):Option (List V)→Option (List (Nat×AB))
 | some cs=>some [(i,.var cs)]
 | none=>none
def storeC (s:Nat) (xs:List V) (i off:Nat):AB→Option (List (Nat×AB))
 | .var cs=>bif chk s xs then sets1 i (splice cs off xs) else none
 | _=>none
def faC (H:List AB):Option (Nat×Nat×Bool)→V→Option V
 | some (_,0,_),_=>none
 | some (off,sz + 1,ag),x=>fieldAddrV H (off,sz + 1,ag) x
 | none,_=>none
def faR (H:List AB) (off i ver idx sz o:Nat):AB→Option V
 | .row _ _ v _=>if ver=v then some (.ptrE i ver idx sz (o + off)) else none
 | _=>none
def fieldC:Option (Nat×Nat×Bool)→List V→Option V
 | some (off,sz,ag),cs=>partV ag sz (cs.drop off)
 | none,_=>none
def iaC (H:List AB) (sh:Sh):Option Nat→V→Option V
 | some n,x=>indexAddrV H sh n x
 | none,_=>none
def iaS (esz:Nat):Option V→Option V
 | some e=>if e.cells.length=esz then some (.cp e.cells) else none
 | none=>none
def iaR (esz n i ver:Nat):AB→Option V
 | .row sz es v _=>if ver=v∧sz=esz∧n < es.length then some (.ptrE i ver n sz 0) else none
 | _=>none
def appRow (esz:Nat) (xs:List V) (i ver:Nat):AB→Option (Bool×V×Upd)
 | .row sz es v imm=>if ver=v∧sz=esz then some (xs.all (okE esz) && decide (es.length + xs.length≤1099511627776),.row i (ver + 1),⟨[(i,.row esz (es++xs) (ver + 1) imm)],none⟩) else none
 | _=>none
def srcR (ver:Nat):AB→Option (List V)
 | .row _ es v _=>if ver=v then some es else none
 | _=>none
def slcRow (esz:Nat) (lo hi mx:Option Nat) (i ver:Nat):AB→Option (Bool×V×Upd)
 | .row sz es v imm=>if ver=v∧sz=esz then some (slcB es.length lo hi mx,.sl ((es.take (hi.getD es.length)).drop (lo.getD 0)) (slcM es.length hi mx),⟨[(i,.row sz es v true)],none⟩) else none
 | _=>none
def optV:V→Option (Option Nat)
 | .val (.int _ n)=>(idxN n).map some
 | _=>none
def shlI (k:IntKind) (x y:Int):Int:=k.wrap (x * 2 ^ (min y.toNat k.bits))
def shrI (k:IntKind) (x y:Int):Int:=x.fdiv (2 ^ (min y.toNat k.bits))
def andI (k:IntKind) (x y:Int):Int:=k.wrap (BitVec.ofInt k.bits x &&& BitVec.ofInt k.bits y).toNat
def orI (k:IntKind) (x y:Int):Int:=k.wrap (BitVec.ofInt k.bits x ||| BitVec.ofInt k.bits y).toNat
def storeW (i sz:Nat) (es:List V) (v idx:Nat):V→Option (List V)→Option (List (Nat×AB))
 | .agg _,some cs=>some [(i,.row sz (es.set idx (.agg cs)) v false)]
 | _,some [.agg _]=>none
 | _,some [c]=>some [(i,.row sz (es.set idx c) v false)]
 | _,_=>none
def storeQ (i sz:Nat) (es:List V) (v idx off:Nat):Option (List V)→Option V→Option (List (Nat×AB))
 | some xs,some e=>storeW i sz es v idx e (splice e.cells off xs)
 | _,_=>none
def storeR (s:Nat) (xc:List V) (fx:Option (List V)) (i ver idx sz off:Nat):AB→Option (List (Nat×AB))
 | .row sz2 es v false=>if ver=v∧sz=sz2 then (bif chk s xc then storeQ i sz2 es v idx off fx (es[idx]?) else none) else none
 | _=>none
def mkS (nid:Nat):Option KS→Option (Bool×V×Upd)
 | some sg=>some (true,.mp nid,⟨[],some (.map false sg noF)⟩)
 | none=>none
def insW (own:Bool) (x:V):Option V→Bool×V
 | some x'=>(own,x')
 | none=>(true,x)
def insQ (i:Nat) (sg:KS) (f:List Int→Option V):Option (List Int)→Bool×V→Option (List (Nat×AB))
 | some q,(own,x)=>some [(i,.map own sg (updF f q x))]
 | none,_=>none
def insM (s:Option KS) (i:Nat) (k x:V) (H:List AB):AB→Option (List (Nat×AB))
 | .map own sg f=>if s=some sg then insQ i sg f (keyI sg k) (insV H own x) else none
 | _=>none
def lkQ (ok:Bool) (f:List Int→Option V):Option V→Option (List Int)→Option V
 | some z,some q=>some (lookR ok z (f q))
 | _,_=>none
def lkM (s:Option KS) (ok:Bool) (k:V) (z:Option V):AB→Option V
 | .map _ sg f=>if s=some sg then lkQ ok f z (keyI sg k) else none
 | _=>none
def binB (d:Option TD) (op:BinOp) (a b:Bool):Option V:=match d with
 | some d=>match d.sh with
   | .bool=>match op with
     | .eql=>some (.bool (a==b))
     | .neq=>some (.bool (a != b))
     | _=>none
   | _=>none
 | none=>none
def binS (d:Option TD) (op:BinOp) (xs ys:List V):Option V:=match d with
 | some d=>if d.flat∧xs.length=d.size then match op with
    | .eql=>(eqCells xs ys).map .bool
    | .neq=>(eqCells xs ys).map fun b=>.bool (!b)
    | _=>none
   else none
 | none=>none
def buildC (fs:List (Nat×Nat×Bool)) (cs:List V) (v:V) (ps:List (Nat×V)):Option (Nat×Nat×Bool)→Option (List V)
 | some (off,sz,_)=>bif chk sz v.cells then (splice cs off v.cells).bind fun cs'=>buildV fs cs' ps else none
 | none=>none
def lenR (ver:Nat):AB→Option V
 | .row _ es v _=>if ver=v then some (.int .i64 es.length) else none
 | _=>none
def guardC (fr:List V) (w:Bool):Option Nat→Option Bool
 | none=>some false
 | some t=>match getV fr t with
   | .val (.bool b)=>some (b==w)
   | .tup _=>some false
   | _=>none
def guardD (w:Bool):V→Option Bool
 | .val (.bool b)=>some (b==w)
 | .tup _=>some false
 | _=>none
section
variable {P:Program} {G:Glob} {w0:World} {M0:Nat→Nat→Prop} {R:Value→World→Prop}
theorem R_E_tmp (G:Glob) (fr:List V) (t:Nat):evalO G fr (.tmp t)=getV fr t:=getV_eq fr t
theorem R_E_int (G:Glob) (fr:List V) (k:IntKind) (n:Int):evalO G fr (.const (.int k n))=.val (.int k n):=rfl
theorem R_E_bool (G:Glob) (fr:List V) (b:Bool):evalO G fr (.const (.bool b))=.val (.bool b):=rfl
theorem R_E_str (G:Glob) (fr:List V) (b:ByteArray):evalO G fr (.const (.string b))=.val (.string b):=rfl
theorem R_E_nil (G:Glob) (fr:List V):evalO G fr (.const (.slice none 0 0))=.sl [] .nil:=rfl
theorem R_E_ptr (G:Glob) (fr:List V):evalO G fr (.const (.pointer none))=.val (.pointer none):=rfl
theorem R_E_nilf (G:Glob) (fr:List V):evalO G fr (.const .nilFunc)=.val .nilFunc:=rfl
theorem R_E_nili (G:Glob) (fr:List V):evalO G fr (.const .nilIface)=.val .nilIface:=rfl
theorem R_E_map (G:Glob) (fr:List V):evalO G fr (.const (.map none))=.val (.map none):=rfl
theorem R_E_tup (G:Glob) (fr:List V):evalO G fr (.const (.tuple #[]))=.tup []:=rfl
theorem R_E_agg (G:Glob) (fr:List V) (cs:List Value):evalO G fr (.const (.agg cs.toArray))=bif cs.all Value.oneCell' then .agg (cs.map ofCell) else .any:=by
 simp only [evalO,ofConst];cases h:cs.all Value.oneCell'<;>simp_all
theorem R_E_func (G:Glob) (fr:List V) (f:Nat):evalO G fr (.func f)=.fn (.func f) [] []:=rfl
theorem R_E_glob (G:Glob) (fr:List V) (g:Nat):evalO G fr (.global g)=globV (G.lookup g):=by
 simp only [evalO,globV];cases G.lookup g<;>rfl
theorem R_globV_some (cs:List V):globV (some cs)=.cp cs:=rfl
theorem R_getV_nil (n:Nat):getV [] n=.tup []:=rfl
theorem R_getV_zero (a:V) (l:List V):getV (a::l) 0=a:=rfl
theorem R_getV_succ (a:V) (l:List V) (n:Nat):getV (a::l) (n + 1)=getV l n:=rfl
theorem R_getH_zero (a:AB) (l:List AB):getH (a::l) 0=a:=rfl
theorem R_getH_succ (a:AB) (l:List AB) (n:Nat):getH (a::l) (n + 1)=getH l n:=rfl
theorem R_putV_some (fr:List V) (t:Nat) (v:V):putV fr (some t) v=fr.set t v:=rfl
theorem R_putV_none (fr:List V) (v:V):putV fr none v=fr:=rfl
theorem R_set_zero (a:V) (l:List V) (v:V):(a::l).set 0 v=v::l:=rfl
theorem R_set_succ (a:V) (l:List V) (n:Nat) (v:V):(a::l).set (n + 1) v=a::l.set n v:=rfl
theorem R_setB_zero (a:AB) (l:List AB) (v:AB):(a::l).set 0 v=v::l:=rfl
theorem R_setB_succ (a:AB) (l:List AB) (n:Nat) (v:AB):(a::l).set (n + 1) v=a::l.set n v:=rfl
theorem R_undef_eq  : undefV=.tup []:=rfl
theorem R_OPV_some (v:V) (c:Cfg) (dst:Option Tmp) (all l:List Oper) (k:List It) (fr:List V) (st:List (List V)) (H:List AB):OPV P G w0 M0 R c (some v) dst all l k fr st H=RUNs P G w0 M0 R ⟨.ops all l::k,putV fr dst v,st,H⟩:=rfl
theorem R_OPN_some (b:AB) (c:Cfg) (dst:Option Tmp) (all l:List Oper) (k:List It) (fr:List V) (st:List (List V)) (H:List AB):OPN P G w0 M0 R c (some b) dst all l k fr st H=RUNs P G w0 M0 R ⟨.ops all l::k,putV fr dst (.ptr H.length 0),st,H++[b]⟩:=rfl
theorem R_OPU_some (u:List (Nat×AB)) (c:Cfg) (dst:Option Tmp) (all l:List Oper) (k:List It) (fr:List V) (st:List (List V)) (H:List AB):OPU P G w0 M0 R c (some u) dst all l k fr st H=RUNs P G w0 M0 R ⟨.ops all l::k,putV fr dst (.tup []),st,setH H u⟩:=rfl
theorem R_GRD_true (dst:Option Tmp) (op:Op) (t:TypeId) (p:String) (af:Array Edge) (g:Option (Nat×Bool)) (c:Cfg) (all l:List Oper) (k:List It) (fr:List V) (st:List (List V)) (H:List AB):GRD P G w0 M0 R c (some true) ⟨dst,op,t,p,af,g⟩ all l k fr st H=RUNs P G w0 M0 R ⟨.ops all (⟨dst,op,t,p,af,none⟩::l)::k,fr,st,H⟩:=rfl
theorem R_GRD_false (dst:Option Tmp) (op:Op) (t:TypeId) (p:String) (af:Array Edge) (g:Option (Nat×Bool)) (c:Cfg) (all l:List Oper) (k:List It) (fr:List V) (st:List (List V)) (H:List AB):GRD P G w0 M0 R c (some false) ⟨dst,op,t,p,af,g⟩ all l k fr st H=RUNs P G w0 M0 R ⟨.ops all l::k,putV fr dst (.tup []),st,H⟩:=rfl
theorem R_OPC_true (v:V) (u:Upd) (c:Cfg) (dst:Option Tmp) (all l:List Oper) (k:List It) (fr:List V) (st:List (List V)) (H:List AB):OPC P G w0 M0 R c (some (true,v,u)) dst all l k fr st H=RUNs P G w0 M0 R ⟨.ops all l::k,putV fr dst v,st,applyU H u⟩:=rfl
theorem R_applyU_new (H:List AB) (b:AB):applyU H ⟨[],some b⟩=H++[b]:=rfl
theorem R_applyU_set (H:List AB) (u:List (Nat×AB)):applyU H ⟨u,none⟩=setH H u:=rfl
theorem R_applyU_no (H:List AB):applyU H .no=H:=rfl
theorem R_appE_eq (esz:Nat) (xs:List V) (H:List AB) (nid:Nat) (v:V):appE (some esz) (some xs) H nid v=appR H nid esz xs v:=rfl
theorem R_appR_nil0 (H:List AB) (nid esz:Nat) (xs:List V):appR H nid esz xs (.sl [] .nil)=some (xs.all (okE esz) && decide (xs.length≤1099511627776),.row nid 0,⟨[],some (.row esz xs 0 false)⟩):=by simp [appR]
theorem R_appR_tight0 (H:List AB) (nid esz:Nat) (xs:List V):appR H nid esz xs (.sl [] .tight)=some (xs.all (okE esz) && decide (xs.length≤1099511627776),.row nid 0,⟨[],some (.row esz xs 0 false)⟩):=by simp [appR]
theorem R_appR_tight (H:List AB) (nid esz:Nat) (es:List V) (x:V) (xs:List V):appR H nid esz (x::xs) (.sl es .tight)=some ((es++x::xs).all (okE esz) && decide (es.length + (xs.length + 1)≤1099511627776),.row nid 0,⟨[],some (.row esz (es++x::xs) 0 false)⟩):=by simp [appR]
theorem R_appR_row (H:List AB) (nid esz:Nat) (xs:List V) (i ver:Nat):appR H nid esz xs (.row i ver)=appRow esz xs i ver (getH H i):=by
 simp only [appR]
 rcases getH_cases H i with h|⟨h,h2⟩
 ·rw [h];cases getH H i<;>rfl
 ·rw [h,h2];rfl
theorem R_appRow_eq (esz:Nat) (xs:List V) (i ver sz:Nat) (es:List V) (v:Nat) (imm:Bool):appRow esz xs i ver (.row sz es v imm)=if ver=v∧sz=esz then some (xs.all (okE esz) && decide (es.length + xs.length≤1099511627776),.row i (ver + 1),⟨[(i,.row esz (es++xs) (ver + 1) imm)],none⟩) else none:=rfl
theorem R_src_sl (H:List AB) (es:List V) (m:Mk):srcV H (.sl es m)=some es:=rfl
theorem R_src_row (H:List AB) (j ver:Nat):srcV H (.row j ver)=srcR ver (getH H j):=by
 simp only [srcV]
 rcases getH_cases H j with h|⟨h,h2⟩
 ·rw [h];cases getH H j<;>rfl
 ·rw [h,h2];rfl
theorem R_srcR_eq (ver sz:Nat) (es:List V) (v:Nat) (imm:Bool):srcR ver (.row sz es v imm)=if ver=v then some es else none:=rfl
theorem R_slcE_eq (esz:Nat) (lo hi mx:Option Nat) (H:List AB) (v:V):slcE (some esz) (some lo) (some hi) (some mx) H v=slcR H esz lo hi mx v:=rfl
theorem R_slcR_sl (H:List AB) (esz:Nat) (lo hi mx:Option Nat) (es:List V) (m:Mk):slcR H esz lo hi mx (.sl es m)=some (slcB es.length lo hi mx && es.all (lenE' esz),.sl ((es.take (hi.getD es.length)).drop (lo.getD 0)) (slcM es.length hi mx),.no):=rfl
theorem R_slcR_row (H:List AB) (esz:Nat) (lo hi mx:Option Nat) (i ver:Nat):slcR H esz lo hi mx (.row i ver)=slcRow esz lo hi mx i ver (getH H i):=by
 simp only [slcR]
 rcases getH_cases H i with h|⟨h,h2⟩
 ·rw [h];cases getH H i<;>rfl
 ·rw [h,h2];rfl
theorem R_slcRow_eq (esz:Nat) (lo hi mx:Option Nat) (i ver sz:Nat) (es:List V) (v:Nat) (imm:Bool):slcRow esz lo hi mx i ver (.row sz es v imm)=if ver=v∧sz=esz then some (slcB es.length lo hi mx,.sl ((es.take (hi.getD es.length)).drop (lo.getD 0)) (slcM es.length hi mx),⟨[(i,.row sz es v true)],none⟩) else none:=rfl
theorem R_optN_none (G:Glob) (fr:List V):optN G fr none=some none:=rfl
theorem R_optN_some (G:Glob) (fr:List V) (o:Operand):optN G fr (some o)=optV (evalO G fr o):=by
 simp only [optN];cases evalO G fr o<;>first|rfl|(rename_i w;cases w<;>rfl)
theorem R_optV_int (k:IntKind) (n:Int):optV (.val (.int k n))=(idxN n).map some:=rfl
theorem R_getD_none (n:Nat):(none:Option Nat).getD n=n:=rfl
theorem R_getD_some (m n:Nat):(some m).getD n=m:=rfl
theorem R_map_idx (n:Nat):(some n).map some=some (some n):=rfl
theorem R_slcM_none (n:Nat) (hi:Option Nat):slcM n hi none=.plain:=rfl
theorem R_slcM_self (n h:Nat):slcM n (some h) (some h)=.tight:=by simp [slcM]
theorem R_ifc_val (t:TypeId) (w:Value):ifc t (.val w)=some (.iface t (.val w)):=rfl
theorem R_ifc_ptr (t:TypeId) (i o:Nat):ifc t (.ptr i o)=some (.iface t (.ptr i o)):=rfl
theorem R_ifc_ptrE (t:TypeId) (i v x s o:Nat):ifc t (.ptrE i v x s o)=some (.iface t (.ptrE i v x s o)):=rfl
theorem R_ifc_cp (t:TypeId) (cs:List V):ifc t (.cp cs)=some (.iface t (.cp cs)):=rfl
theorem R_ifc_sl (t:TypeId) (es:List V) (m:Mk):ifc t (.sl es m)=some (.iface t (.sl es m)):=rfl
theorem R_ifc_row (t:TypeId) (i v:Nat):ifc t (.row i v)=some (.iface t (.row i v)):=rfl
theorem R_ifc_vs (t:TypeId) (i o n s:Nat):ifc t (.vs i o n s)=some (.iface t (.vs i o n s)):=rfl
theorem R_ifc_fn (t:TypeId) (f:Fn) (a b:List V):ifc t (.fn f a b)=some (.iface t (.fn f a b)):=rfl
theorem R_ifc_iface (t:TypeId) (t2:TypeId) (v:V):ifc t (.iface t2 v)=some (.iface t (.iface t2 v)):=rfl
theorem R_ifc_mp (t:TypeId) (i:Nat):ifc t (.mp i)=some (.iface t (.mp i)):=rfl
theorem R_ifc_agg (t:TypeId) (cs:List V):ifc t (.agg cs)=some (.iface t (.agg cs)):=rfl
theorem R_bif_true (x y:Option V):(bif true then x else y)=x:=rfl
theorem R_bif_false (x y:Option V):(bif false then x else y)=y:=rfl
theorem R_bifL_true (x y:Option (List V)):(bif true then x else y)=x:=rfl
theorem R_bifV_true (x y:V):(bif true then x else y)=x:=rfl
theorem R_bifV_false (x y:V):(bif false then x else y)=y:=rfl
theorem R_okE_eq (sz:Nat) (e:V):okE sz e=chk sz e.cells:=rfl
theorem R_setH_nil (H:List AB):setH H []=H:=rfl
theorem R_setH_cons (H:List AB) (i:Nat) (b:AB) (u:List (Nat×AB)):setH H ((i,b)::u)=setH (H.set i b) u:=rfl
theorem R_pick_eq (t:Bool) (x y:V):pickE (.val (.bool t)) x y=some (bif t then x else y):=rfl
theorem R_alloc_eq (s:Nat) (a:Bool) (sh:Sh) (z:List V) (f:Bool):allocE (some ⟨s,a,sh,z,f⟩)=some (.var z):=rfl
theorem R_box_val (w:Value):boxE (.val w)=some (.var [.val w]):=rfl
theorem R_cells_val (w:Value):V.cells (.val w)=[.val w]:=rfl
theorem R_one_val (w:Value):oneV (.val w)=true:=rfl
theorem R_box_ptr (i o:Nat):boxE (.ptr i o)=some (.var [.ptr i o]):=rfl
theorem R_cells_ptr (i o:Nat):V.cells (.ptr i o)=[.ptr i o]:=rfl
theorem R_one_ptr (i o:Nat):oneV (.ptr i o)=true:=rfl
theorem R_box_ptrE (i v x s o:Nat):boxE (.ptrE i v x s o)=some (.var [.ptrE i v x s o]):=rfl
theorem R_cells_ptrE (i v x s o:Nat):V.cells (.ptrE i v x s o)=[.ptrE i v x s o]:=rfl
theorem R_one_ptrE (i v x s o:Nat):oneV (.ptrE i v x s o)=true:=rfl
theorem R_box_cp (cs:List V):boxE (.cp cs)=some (.var [.cp cs]):=rfl
theorem R_cells_cp (cs:List V):V.cells (.cp cs)=[.cp cs]:=rfl
theorem R_one_cp (cs:List V):oneV (.cp cs)=true:=rfl
theorem R_box_sl (es:List V) (m:Mk):boxE (.sl es m)=some (.var [.sl es m]):=rfl
theorem R_cells_sl (es:List V) (m:Mk):V.cells (.sl es m)=[.sl es m]:=rfl
theorem R_one_sl (es:List V) (m:Mk):oneV (.sl es m)=true:=rfl
theorem R_box_row (i v:Nat):boxE (.row i v)=some (.var [.row i v]):=rfl
theorem R_cells_row (i v:Nat):V.cells (.row i v)=[.row i v]:=rfl
theorem R_one_row (i v:Nat):oneV (.row i v)=true:=rfl
theorem R_box_vs (i o n s:Nat):boxE (.vs i o n s)=some (.var [.vs i o n s]):=rfl
theorem R_cells_vs (i o n s:Nat):V.cells (.vs i o n s)=[.vs i o n s]:=rfl
theorem R_one_vs (i o n s:Nat):oneV (.vs i o n s)=true:=rfl
theorem R_box_fn (f:Fn) (a b:List V):boxE (.fn f a b)=some (.var [.fn f a b]):=rfl
theorem R_cells_fn (f:Fn) (a b:List V):V.cells (.fn f a b)=[.fn f a b]:=rfl
theorem R_one_fn (f:Fn) (a b:List V):oneV (.fn f a b)=true:=rfl
theorem R_box_iface (t:TypeId) (v:V):boxE (.iface t v)=some (.var [.iface t v]):=rfl
theorem R_cells_iface (t:TypeId) (v:V):V.cells (.iface t v)=[.iface t v]:=rfl
theorem R_one_iface (t:TypeId) (v:V):oneV (.iface t v)=true:=rfl
theorem R_box_mp (i:Nat):boxE (.mp i)=some (.var [.mp i]):=rfl
theorem R_cells_mp (i:Nat):V.cells (.mp i)=[.mp i]:=rfl
theorem R_one_mp (i:Nat):oneV (.mp i)=true:=rfl
theorem R_box_agg (cs:List V):boxE (.agg cs)=some (.var cs):=rfl
theorem R_cells_agg (cs:List V):V.cells (.agg cs)=cs:=rfl
theorem R_load_ptr (s:Nat) (a:Bool) (sh:Sh) (z:List V) (f:Bool) (H:List AB) (i off:Nat):loadE (some ⟨s,a,sh,z,f⟩) H (.ptr i off)=loadC a s off (getH H i):=by
 simp only [loadE,loadV]
 rcases getH_cases H i with h|⟨h,h2⟩
 ·rw [h];cases getH H i<;>rfl
 ·rw [h,h2];rfl
theorem R_load_cp (s:Nat) (a:Bool) (sh:Sh) (z:List V) (f:Bool) (H:List AB) (cs:List V):loadE (some ⟨s,a,sh,z,f⟩) H (.cp cs)=partV a s cs:=rfl
theorem R_load_ptrE (s:Nat) (a:Bool) (sh:Sh) (z:List V) (f:Bool) (H:List AB) (i ver idx sz off:Nat):loadE (some ⟨s,a,sh,z,f⟩) H (.ptrE i ver idx sz off)=loadR a s ver idx sz off (getH H i):=by
 simp only [loadE,loadV]
 rcases getH_cases H i with h|⟨h,h2⟩
 ·rw [h];cases getH H i<;>rfl
 ·rw [h,h2];rfl
theorem R_loadC_var (a:Bool) (s off:Nat) (cs:List V):loadC a s off (.var cs)=partV a s (cs.drop off):=rfl
theorem R_loadR_row (a:Bool) (s ver idx sz off sz2:Nat) (es:List V) (v:Nat) (m:Bool):loadR a s ver idx sz off (.row sz2 es v m)=if ver=v∧sz=sz2 then (es[idx]?).bind fun e=>partV a s (e.cells.drop off) else none:=rfl
theorem R_part_true (n:Nat) (cs:List V):partV true n cs=(takeN n cs).map .agg:=rfl
theorem R_part_false (n:Nat) (c:V) (cs:List V):partV false n (c::cs)=some c:=rfl
theorem R_takeN_zero (cs:List V):takeN 0 cs=some []:=rfl
theorem R_takeN_succ (n:Nat) (c:V) (cs:List V):takeN (n + 1) (c::cs)=(takeN n cs).map (c :: ·):=rfl
theorem R_store_ptr (s:Nat) (a:Bool) (sh:Sh) (z:List V) (f:Bool) (H:List AB) (x:V) (i off:Nat):storeE (some ⟨s,a,sh,z,f⟩) H x (.ptr i off)=storeC s x.cells i off (getH H i):=by
 simp only [storeE]
 by_cases hc:chk s x.cells=true
 ·rw [if_pos ((chk_eq _ _).2 hc)]
  simp only [storeV]
  rcases getH_cases H i with h|⟨h,h2⟩
  ·rw [h];cases getH H i<;>simp only [storeC,hc,cond_true]<;>first|rfl|(cases splice _ off x.cells<;>rfl)
  ·rw [h,h2];rfl
 ·rw [if_neg (fun h=>hc ((chk_eq _ _).1 h))]
  cases getH H i<;>simp only [storeC]<;>(try rfl)
  rw [Bool.not_eq_true] at hc;rw [hc];rfl
theorem R_store_ptrE (s:Nat) (a:Bool) (sh:Sh) (z:List V) (f:Bool) (H:List AB) (x:V) (i ver idx sz off:Nat):storeE (some ⟨s,a,sh,z,f⟩) H x (.ptrE i ver idx sz off)=storeR s x.cells (fzL H x.cells) i ver idx sz off (getH H i):=by
 simp only [storeE]
 by_cases hc:chk s x.cells=true
 ·rw [if_pos ((chk_eq _ _).2 hc)]
  simp only [storeV]
  rcases getH_cases H i with h|⟨h,h2⟩
  ·rw [h]
   cases getH H i with
   | row sz2 es v m =>
     cases m
     ·simp only [storeR,hc,cond_true]
      split
      ·cases fzL H x.cells with
       | none=>rfl
       | some xs =>
         cases es[idx]? with
         | none=>rfl
         | some e =>
           simp only [Option.bind_some,storeQ]
           cases splice e.cells off xs with
           | none=>cases e<;>rfl
           | some cs =>
             simp only [Option.bind_some]
             cases e<;>first|rfl|(cases cs with
              | nil=>rfl
              | cons c cs=>cases cs<;>cases c<;>rfl)
      ·rfl
     ·rfl
   | _=>rfl
  ·rw [h,h2];rfl
 ·rw [if_neg (fun h=>hc ((chk_eq _ _).1 h))]
  rw [Bool.not_eq_true] at hc
  cases getH H i<;>simp only [storeR]<;>(try rfl)
  rename_i m;cases m<;>simp [storeR,hc]
theorem R_storeR_row (s:Nat) (xc:List V) (fx:Option (List V)) (i ver idx sz off sz2:Nat) (es:List V) (v:Nat):storeR s xc fx i ver idx sz off (.row sz2 es v false)=if ver=v∧sz=sz2 then (bif chk s xc then storeQ i sz2 es v idx off fx (es[idx]?) else none) else none:=rfl
theorem R_storeQ_eq (i sz:Nat) (es:List V) (v idx off:Nat) (xs:List V) (e:V):storeQ i sz es v idx off (some xs) (some e)=storeW i sz es v idx e (splice e.cells off xs):=rfl
theorem R_storeW_agg (i sz:Nat) (es:List V) (v idx:Nat) (c0 cs:List V):storeW i sz es v idx (.agg c0) (some cs)=some [(i,.row sz (es.set idx (.agg cs)) v false)]:=rfl
theorem R_storeW_sl (i sz:Nat) (es:List V) (v idx:Nat) (l0 l:List V) (m0 m:Mk):storeW i sz es v idx (.sl l0 m0) (some [.sl l m])=some [(i,.row sz (es.set idx (.sl l m)) v false)]:=rfl
theorem R_storeW_val (i sz:Nat) (es:List V) (v idx:Nat) (u w:Value):storeW i sz es v idx (.val u) (some [.val w])=some [(i,.row sz (es.set idx (.val w)) v false)]:=rfl
theorem R_bif_upd (x y:Option (List (Nat×AB))):(bif true then x else y)=x:=rfl
theorem R_storeC_var (s:Nat) (xs:List V) (i off:Nat) (cs:List V):storeC s xs i off (.var cs)=bif chk s xs then sets1 i (splice cs off xs) else none:=rfl
theorem R_sets1_some (i:Nat) (cs:List V):sets1 i (some cs)=some [(i,.var cs)]:=rfl
theorem R_chk_zero  : chk 0 []=true:=rfl
theorem R_chk_succ (n:Nat) (x:V) (xs:List V):chk (n + 1) (x::xs)=(oneV x && chk n xs):=rfl
theorem R_splice_zero (cs xs:List V):splice cs 0 xs=over cs xs:=by cases cs<;>rfl
theorem R_splice_succ (c:V) (cs:List V) (n:Nat) (xs:List V):splice (c::cs) (n + 1) xs=(splice cs n xs).map (c :: ·):=rfl
theorem R_over_nil (cs:List V):over cs []=some cs:=by cases cs<;>rfl
theorem R_over_cons (c:V) (cs:List V) (x:V) (xs:List V):over (c::cs) (x::xs)=(over cs xs).map (x :: ·):=rfl
theorem R_nc_ptr (i o:Nat):nilCheckE (.ptr i o)=some (.ptr i o):=rfl
theorem R_nc_cp (cs:List V):nilCheckE (.cp cs)=some (.cp cs):=rfl
theorem R_nc_iface (t:TypeId) (v:V):nilCheckE (.iface t v)=some (.iface t v):=rfl
theorem R_nc_fn (f:Nat) (a b:List V):nilCheckE (.fn (.func f) a b)=some (.fn (.func f) a b):=rfl
theorem R_fa_eq (s:Nat) (a:Bool) (fs:List (Nat×Nat×Bool)) (z:List V) (fl:Bool) (H:List AB) (f:Nat) (x:V):faE (some ⟨s,a,.struct fs,z,fl⟩) H f x=faC H (fs[f]?) x:=by
 simp only [faE]
 cases h:fs[f]? with
 | none=>rfl
 | some fd =>
   obtain ⟨off,sz,ag⟩:=fd
   cases sz with
   | zero=>rfl
   | succ n=>simp [faC]
theorem R_faC_ptr (H:List AB) (off sz:Nat) (ag:Bool) (i o:Nat):faC H (some (off,sz + 1,ag)) (.ptr i o)=some (.ptr i (o + off)):=rfl
theorem R_faC_cp (H:List AB) (off sz:Nat) (ag:Bool) (cs:List V):faC H (some (off,sz + 1,ag)) (.cp cs)=some (.cp (cs.drop off)):=rfl
theorem R_faC_ptrE (H:List AB) (off sz:Nat) (ag:Bool) (i ver idx s2 o:Nat):faC H (some (off,sz + 1,ag)) (.ptrE i ver idx s2 o)=faR H off i ver idx s2 o (getH H i):=by
 simp only [faC,fieldAddrV]
 rcases getH_cases H i with h|⟨h,h2⟩
 ·rw [h];cases getH H i<;>rfl
 ·rw [h,h2];rfl
theorem R_faR_row (H:List AB) (off i ver idx s2 o sz:Nat) (es:List V) (v:Nat) (m:Bool):faR H off i ver idx s2 o (.row sz es v m)=if ver=v then some (.ptrE i ver idx s2 (o + off)) else none:=rfl
theorem R_field_eq (s:Nat) (a:Bool) (fs:List (Nat×Nat×Bool)) (z:List V) (fl:Bool) (f:Nat) (cs:List V):fieldE (some ⟨s,a,.struct fs,z,fl⟩) f (.agg cs)=fieldC (fs[f]?) cs:=by
 simp only [fieldE];cases fs[f]?<;>rfl
theorem R_fieldC_eq (off sz:Nat) (ag:Bool) (cs:List V):fieldC (some (off,sz,ag)) cs=partV ag sz (cs.drop off):=rfl
theorem R_ia_eq (s:Nat) (a:Bool) (sh:Sh) (z:List V) (f:Bool) (H:List AB) (x:V) (kk:IntKind) (n:Int):iaE (some ⟨s,a,sh,z,f⟩) H x (.val (.int kk n))=iaC H sh (idxN n) x:=by
 simp only [iaE];cases idxN n<;>rfl
theorem R_iaC_sl (H:List AB) (e esz b n:Nat) (es:List V) (m:Mk):iaC H (.slice e esz b) (some n) (.sl es m)=iaS esz (es[n]?):=by
 simp only [iaC,indexAddrV];cases es[n]?<;>rfl
theorem R_iaS_some (esz:Nat) (e:V):iaS esz (some e)=if e.cells.length=esz then some (.cp e.cells) else none:=rfl
theorem R_iaC_row (H:List AB) (e esz b n i ver:Nat):iaC H (.slice e esz b) (some n) (.row i ver)=iaR esz n i ver (getH H i):=by
 simp only [iaC,indexAddrV]
 rcases getH_cases H i with h|⟨h,h2⟩
 ·rw [h];cases getH H i<;>rfl
 ·rw [h,h2];rfl
theorem R_iaR_row (esz n i ver sz:Nat) (es:List V) (v:Nat) (m:Bool):iaR esz n i ver (.row sz es v m)=if ver=v∧sz=esz∧n < es.length then some (.ptrE i ver n sz 0) else none:=rfl
theorem R_iaC_vs (H:List AB) (e esz b n i off kk sz:Nat):iaC H (.slice e esz b) (some n) (.vs i off kk sz)=if sz=esz∧n < kk then some (.ptr i (off + n * sz)) else none:=rfl
theorem R_iaC_ptr (H:List AB) (kk esz:Nat) (ea:Bool) (n i o:Nat):iaC H (.array kk esz ea) (some n) (.ptr i o)=if n < kk then some (.ptr i (o + n * esz)) else none:=rfl
theorem R_iaC_cp (H:List AB) (kk esz:Nat) (ea:Bool) (n:Nat) (cs:List V):iaC H (.array kk esz ea) (some n) (.cp cs)=if n < kk then some (.cp (cs.drop (n * esz))) else none:=rfl
theorem R_idxN_0  : idxN 0=some 0:=rfl
theorem R_idxN_1  : idxN 1=some 1:=rfl
theorem R_idxN_2  : idxN 2=some 2:=rfl
theorem R_idxN_3  : idxN 3=some 3:=rfl
theorem R_idxN_4  : idxN 4=some 4:=rfl
theorem R_idxN_5  : idxN 5=some 5:=rfl
theorem R_idxN_6  : idxN 6=some 6:=rfl
theorem R_idxN_7  : idxN 7=some 7:=rfl
theorem R_idxN_8  : idxN 8=some 8:=rfl
theorem R_idxN_9  : idxN 9=some 9:=rfl
theorem R_idxN_10  : idxN 10=some 10:=rfl
theorem R_idxN_11  : idxN 11=some 11:=rfl
theorem R_idxN_12  : idxN 12=some 12:=rfl
theorem R_idxN_13  : idxN 13=some 13:=rfl
theorem R_idxN_14  : idxN 14=some 14:=rfl
theorem R_idxN_15  : idxN 15=some 15:=rfl
theorem R_idxN_16  : idxN 16=some 16:=rfl
theorem R_idxN_17  : idxN 17=some 17:=rfl
theorem R_idxN_18  : idxN 18=some 18:=rfl
theorem R_idxN_19  : idxN 19=some 19:=rfl
theorem R_idxN_20  : idxN 20=some 20:=rfl
theorem R_idxN_21  : idxN 21=some 21:=rfl
theorem R_idxN_22  : idxN 22=some 22:=rfl
theorem R_idxN_23  : idxN 23=some 23:=rfl
theorem R_idxN_24  : idxN 24=some 24:=rfl
theorem R_idxN_25  : idxN 25=some 25:=rfl
theorem R_idxN_26  : idxN 26=some 26:=rfl
theorem R_idxN_27  : idxN 27=some 27:=rfl
theorem R_idxN_28  : idxN 28=some 28:=rfl
theorem R_idxN_29  : idxN 29=some 29:=rfl
theorem R_idxN_30  : idxN 30=some 30:=rfl
theorem R_idxN_31  : idxN 31=some 31:=rfl
theorem R_idxN_32  : idxN 32=some 32:=rfl
theorem R_idxN_33  : idxN 33=some 33:=rfl
theorem R_idxN_34  : idxN 34=some 34:=rfl
theorem R_idxN_35  : idxN 35=some 35:=rfl
theorem R_idxN_36  : idxN 36=some 36:=rfl
theorem R_idxN_37  : idxN 37=some 37:=rfl
theorem R_idxN_38  : idxN 38=some 38:=rfl
theorem R_idxN_39  : idxN 39=some 39:=rfl
theorem R_idxN_40  : idxN 40=some 40:=rfl
theorem R_idxN_41  : idxN 41=some 41:=rfl
theorem R_idxN_42  : idxN 42=some 42:=rfl
theorem R_idxN_43  : idxN 43=some 43:=rfl
theorem R_idxN_44  : idxN 44=some 44:=rfl
theorem R_idxN_45  : idxN 45=some 45:=rfl
theorem R_idxN_46  : idxN 46=some 46:=rfl
theorem R_idxN_47  : idxN 47=some 47:=rfl
theorem R_idxN_48  : idxN 48=some 48:=rfl
theorem R_idxN_49  : idxN 49=some 49:=rfl
theorem R_idxN_50  : idxN 50=some 50:=rfl
theorem R_idxN_51  : idxN 51=some 51:=rfl
theorem R_idxN_52  : idxN 52=some 52:=rfl
theorem R_idxN_53  : idxN 53=some 53:=rfl
theorem R_idxN_54  : idxN 54=some 54:=rfl
theorem R_idxN_55  : idxN 55=some 55:=rfl
theorem R_idxN_56  : idxN 56=some 56:=rfl
theorem R_idxN_57  : idxN 57=some 57:=rfl
theorem R_idxN_58  : idxN 58=some 58:=rfl
theorem R_idxN_59  : idxN 59=some 59:=rfl
theorem R_idxN_60  : idxN 60=some 60:=rfl
theorem R_idxN_61  : idxN 61=some 61:=rfl
theorem R_idxN_62  : idxN 62=some 62:=rfl
theorem R_idxN_63  : idxN 63=some 63:=rfl
theorem R_idxN_64  : idxN 64=some 64:=rfl
theorem R_idxN_cast (k:Nat):idxN (k:Int)=some k:=by simp [idxN]
theorem R_index_eq (s:Nat) (a:Bool) (kk esz:Nat) (ea:Bool) (z:List V) (f:Bool) (cs:List V) (ki:IntKind) (n:Int):indexE (some ⟨s,a,.array kk esz ea,z,f⟩) (.agg cs) (.val (.int ki n))=ixO kk esz ea cs (idxN n):=by simp only [indexE];cases idxN n<;>rfl
theorem R_index_str (s:Nat) (a:Bool) (z:List V) (f:Bool) (b:ByteArray) (ki:IntKind) (n:Int):indexE (some ⟨s,a,.str,z,f⟩) (.val (.string b)) (.val (.int ki n))=(idxN n).bind fun n=>strAt b n:=rfl
theorem R_ixO_some (kk esz:Nat) (ea:Bool) (cs:List V) (j:Nat):ixO kk esz ea cs (some j)=if j < kk then partV ea esz (cs.drop (j * esz)) else none:=rfl
theorem R_bin_add (t:TypeId) (k:IntKind) (x y:Int):binV P .add t (.val (.int k x)) (.val (.int k y))=some (.val (.int k (k.wrap (x + y)))):=by simp [binV,binI,cmpI,bne,andI,orI]
theorem R_bin_sub (t:TypeId) (k:IntKind) (x y:Int):binV P .sub t (.val (.int k x)) (.val (.int k y))=some (.val (.int k (k.wrap (x - y)))):=by simp [binV,binI,cmpI,bne,andI,orI]
theorem R_bin_mul (t:TypeId) (k:IntKind) (x y:Int):binV P .mul t (.val (.int k x)) (.val (.int k y))=some (.val (.int k (k.wrap (x * y)))):=by simp [binV,binI,cmpI,bne,andI,orI]
theorem R_bin_eql (t:TypeId) (k:IntKind) (x y:Int):binV P .eql t (.val (.int k x)) (.val (.int k y))=some (.val (.bool (x==y))):=by simp [binV,binI,cmpI,bne,andI,orI]
theorem R_bin_neq (t:TypeId) (k:IntKind) (x y:Int):binV P .neq t (.val (.int k x)) (.val (.int k y))=some (.val (.bool (!(x==y)))):=by simp [binV,binI,cmpI,bne,andI,orI]
theorem R_bin_lss (t:TypeId) (k:IntKind) (x y:Int):binV P .lss t (.val (.int k x)) (.val (.int k y))=some (.val (.bool (decide (x < y)))):=by simp [binV,binI,cmpI,bne,andI,orI]
theorem R_bin_leq (t:TypeId) (k:IntKind) (x y:Int):binV P .leq t (.val (.int k x)) (.val (.int k y))=some (.val (.bool (decide (x≤y)))):=by simp [binV,binI,cmpI,bne,andI,orI]
theorem R_bin_gtr (t:TypeId) (k:IntKind) (x y:Int):binV P .gtr t (.val (.int k x)) (.val (.int k y))=some (.val (.bool (decide (x > y)))):=by simp [binV,binI,cmpI,bne,andI,orI]
theorem R_bin_geq (t:TypeId) (k:IntKind) (x y:Int):binV P .geq t (.val (.int k x)) (.val (.int k y))=some (.val (.bool (decide (x≥y)))):=by simp [binV,binI,cmpI,bne,andI,orI]
theorem R_bin_and (t:TypeId) (k:IntKind) (x y:Int):binV P .and t (.val (.int k x)) (.val (.int k y))=some (.val (.int k (andI k x y))):=by simp [binV,binI,cmpI,bne,andI,orI]
theorem R_bin_or (t:TypeId) (k:IntKind) (x y:Int):binV P .or t (.val (.int k x)) (.val (.int k y))=some (.val (.int k (orI k x y))):=by simp [binV,binI,cmpI,bne,andI,orI]
theorem R_bin_rem (t:TypeId) (k:IntKind) (x y:Int):binV P .rem t (.val (.int k x)) (.val (.int k y))=if y=0 then none else some (.val (.int k (x.tmod y))):=by simp [binV,binI]
theorem R_bin_quo (t:TypeId) (k:IntKind) (x y:Int):binV P .quo t (.val (.int k x)) (.val (.int k y))=if y=0 then none else some (.val (.int k (k.wrap (x.tdiv y)))):=by simp [binV,binI]
theorem R_bin_bool (op:BinOp) (t:TypeId) (x y:Bool):binV P op t (.val (.bool x)) (.val (.bool y))=binB (tdOf P t) op x y:=by
 simp only [binV,binB];cases tdOf P t<;>rfl
theorem R_binB_eql (s:Nat) (a:Bool) (z:List V) (f:Bool) (x y:Bool):binB (some ⟨s,a,.bool,z,f⟩) .eql x y=some (.val (.bool (x==y))):=rfl
theorem R_binB_neq (s:Nat) (a:Bool) (z:List V) (f:Bool) (x y:Bool):binB (some ⟨s,a,.bool,z,f⟩) .neq x y=some (.val (.bool (!(x==y)))):=rfl
theorem R_bin_agg (op:BinOp) (t:TypeId) (xs ys:List V):binV P op t (.agg xs) (.agg ys)=binS (tdOf P t) op xs ys:=by
 simp only [binV,binS];cases tdOf P t<;>rfl
theorem R_binS_eql (s:Nat) (a:Bool) (sh:Sh) (z:List V) (xs ys:List V):binS (some ⟨s,a,sh,z,true⟩) .eql xs ys=if xs.length=s then (eqCells xs ys).map .bool else none:=by simp [binS]
theorem R_binS_neq (s:Nat) (a:Bool) (sh:Sh) (z:List V) (xs ys:List V):binS (some ⟨s,a,sh,z,true⟩) .neq xs ys=if xs.length=s then (eqCells xs ys).map fun b=>.bool (!b) else none:=by simp [binS]
theorem R_eqC_nil  : eqCells [] []=some true:=rfl
theorem R_eqC_cons (k:IntKind) (x y:Int) (xs ys:List V):eqCells (.val (.int k x)::xs) (.val (.int k y)::ys)=(eqCells xs ys).map ((x==y) && ·):=by simp [eqCells]
theorem R_un_not (b:Bool):unE .not (.val (.bool b))=some (.val (.bool (!b))):=rfl
theorem R_un_neg (k:IntKind) (n:Int):unE .neg (.val (.int k n))=some (.val (.int k (k.wrap (0 - n)))):=rfl
theorem R_conv_eq (s s2:Nat) (a a2:Bool) (j k kk:IntKind) (z z2:List V) (f f2:Bool) (n:Int):convE (some ⟨s,a,.int j,z,f⟩) (some ⟨s2,a2,.int k,z2,f2⟩) (.val (.int kk n))=some (.val (.int k (k.wrap n))):=rfl
theorem R_ext_eq (vs:List V) (i:Nat):extractE (.tup vs) i=vs[i]?:=rfl
theorem R_build_eq (s:Nat) (a:Bool) (fs:List (Nat×Nat×Bool)) (z:List V) (fl:Bool) (ps:List (Nat×V)):buildE (some ⟨s,a,.struct fs,z,fl⟩) ps=(buildV fs z ps).map .agg:=rfl
theorem R_build_arr (s:Nat) (a:Bool) (k esz:Nat) (ea:Bool) (z:List V) (fl:Bool) (ps:List (Nat×V)):buildE (some ⟨s,a,.array k esz ea,z,fl⟩) ps=(buildV (arrFs k 0 esz ea) z ps).map .agg:=rfl
theorem R_arrFs_zero (off esz:Nat) (ea:Bool):arrFs 0 off esz ea=[]:=rfl
theorem R_arrFs_succ (n off esz:Nat) (ea:Bool):arrFs (n + 1) off esz ea=(off,esz,ea)::arrFs n (off + esz) esz ea:=rfl
theorem R_buildV_nil (fs:List (Nat×Nat×Bool)) (cs:List V):buildV fs cs []=some cs:=by cases cs<;>rfl
theorem R_buildV_cons (fs:List (Nat×Nat×Bool)) (cs:List V) (i:Nat) (v:V) (ps:List (Nat×V)):buildV fs cs ((i,v)::ps)=buildC fs cs v ps (fs[i]?):=by
 simp only [buildV]
 cases fs[i]? with
 | none=>rfl
 | some fd =>
   obtain ⟨off,sz,ag⟩:=fd
   simp only [buildC]
   by_cases hc:chk sz v.cells=true
   ·rw [if_pos ((chk_eq _ _).2 hc),hc];rfl
   ·rw [if_neg (fun h=>hc ((chk_eq _ _).1 h))]
    rw [Bool.not_eq_true] at hc;rw [hc];rfl
theorem R_buildC_some (fs:List (Nat×Nat×Bool)) (cs:List V) (v:V) (ps:List (Nat×V)) (off sz:Nat) (ag:Bool):buildC fs cs v ps (some (off,sz,ag))=bif chk sz v.cells then (splice cs off v.cells).bind fun cs2=>buildV fs cs2 ps else none:=rfl
theorem R_bs_eq (H:List AB) (nid s:Nat) (a:Bool) (e esz b:Nat) (z:List V) (f:Bool) (n:Nat) (ps:List (Nat×V)):buildSliceE P H nid (some ⟨s,a,.slice e esz b,z,f⟩) n ps=(inOrder 0 ps).bind fun vs=>bsR H nid esz n (tdOf P e).isSome vs (fzL (immL H (rowsInL vs)) vs):=rfl
theorem R_bsR_some (H:List AB) (nid esz n:Nat) (z:Bool) (vs es:List V):bsR H nid esz n z vs (some es)=some (decide (es.length=n) && es.all (fun e=>decide (e.cells.length=esz)) && decide (0 < esz) && decide (n * esz≤16777216) && z,.sl es .tight,⟨immS H (rowsInL vs),none⟩):=rfl
theorem R_bsR_none (H:List AB) (nid esz n:Nat) (z:Bool) (vs:List V):bsR H nid esz n z vs none=some (decide (vs.length=n) && vs.all (fun e=>chk esz e.cells) && decide (0 < esz) && decide (n * esz≤16777216) && z,.vs nid 0 n esz,⟨[],some (.var (vs.flatMap V.cells))⟩):=rfl
theorem R_fmC_nil  : ([]:List V).flatMap V.cells=[]:=rfl
theorem R_fmC_cons (v:V) (vs:List V):(v::vs).flatMap V.cells=v.cells++vs.flatMap V.cells:=by simp
theorem R_bindFN_none (f:List V→V):(none:Option (List V)).map f=none:=rfl
theorem R_bin_shl (t:TypeId) (k j:IntKind) (x y:Int):binV P .shl t (.val (.int k x)) (.val (.int j y))=if y < 0 then none else some (.val (.int k (shlI k x y))):=by simp [binV,binI,shlI,isSh]
theorem R_bin_shr (t:TypeId) (k j:IntKind) (x y:Int):binV P .shr t (.val (.int k x)) (.val (.int j y))=if y < 0 then none else some (.val (.int k (shrI k x y))):=by simp [binV,binI,shrI,isSh]
theorem R_immS_nil (H:List AB):immS H []=[]:=rfl
theorem R_immS_cons (H:List AB) (i:Nat) (is:List Nat):immS H (i::is)=(i,immB (getH H i))::immS (immAt H i) is:=by simp only [immS];rw [getH_D]
theorem R_immB_row (sz:Nat) (es:List V) (v:Nat) (m:Bool):immB (.row sz es v m)=.row sz es v true:=rfl
theorem R_bindBS_some (f:List V→Option (Bool×V×Upd)) (x:List V):(some x).bind f=f x:=rfl
theorem R_mapBS_some (f:List V→Bool×V×Upd) (x:List V):(some x).map f=some (f x):=rfl
theorem R_applyU_nil (H:List AB):applyU H ⟨[],none⟩=H:=rfl
theorem R_io_nil (i:Nat):inOrder i []=some []:=rfl
theorem R_io_cons (i j:Nat) (v:V) (ps:List (Nat×V)):inOrder i ((j,v)::ps)=if j=i then (inOrder (i + 1) ps).map (v :: ·) else none:=rfl
theorem R_len_sl (s:Nat) (a:Bool) (e esz b:Nat) (z:List V) (f:Bool) (H:List AB) (es:List V) (m:Mk):lenE (some ⟨s,a,.slice e esz b,z,f⟩) H (.sl es m)=some (.val (.int .i64 es.length)):=rfl
theorem R_len_vs (s:Nat) (a:Bool) (e esz b:Nat) (z:List V) (f:Bool) (H:List AB) (i o n q:Nat):lenE (some ⟨s,a,.slice e esz b,z,f⟩) H (.vs i o n q)=some (.val (.int .i64 n)):=rfl
theorem R_len_str (s:Nat) (a:Bool) (z:List V) (f:Bool) (H:List AB) (b:ByteArray):lenE (some ⟨s,a,.str,z,f⟩) H (.val (.string b))=some (.val (.int .i64 b.size)):=rfl
theorem R_len_row (s:Nat) (a:Bool) (e esz b:Nat) (z:List V) (f:Bool) (H:List AB) (i ver:Nat):lenE (some ⟨s,a,.slice e esz b,z,f⟩) H (.row i ver)=lenR ver (getH H i):=by
 simp only [lenE,lenV]
 rcases getH_cases H i with h|⟨h,h2⟩
 ·rw [h]
  cases getH H i<;>simp only [lenR]<;>(try rfl)
  split<;>rfl
 ·rw [h,h2];rfl
theorem R_lenR_row (ver sz:Nat) (es:List V) (v:Nat) (m:Bool):lenR ver (.row sz es v m)=if ver=v then some (.val (.int .i64 es.length)) else none:=rfl
theorem R_guard_eq (all:List Oper) (fr:List V) (dst:Option Tmp) (op:Op) (t:TypeId) (p:String) (af:Array Edge) (j:Nat) (w:Bool):guardV all fr ⟨dst,op,t,p,af,some (j,w)⟩=guardC fr w ((all[j]?).bind (·.dst)):=by
 simp only [guardV]
 cases (all[j]?).bind (·.dst) with
 | none=>rfl
 | some t=>simp only [guardC,getV_eq];cases getV fr t<;>rfl
theorem R_guardC_some (fr:List V) (w:Bool) (t:Nat):guardC fr w (some t)=guardD w (getV fr t):=by
 simp only [guardC,guardD]
theorem R_guardD_t (b:Bool):guardD true (.val (.bool b))=some b:=by cases b<;>rfl
theorem R_guardD_f (b:Bool):guardD false (.val (.bool b))=some (!b):=by cases b<;>rfl
theorem R_not_t  : (!true)=false:=rfl
theorem R_not_f  : (!false)=true:=rfl
theorem R_guardD_tup (w:Bool) (vs:List V):guardD w (.tup vs)=some false:=rfl
theorem R_toRet_code (c:Code) (k:List It):toRet (.code c::k)=toRet k:=rfl
theorem R_toRet_ops (a l:List Oper) (k:List It):toRet (.ops a l::k)=toRet k:=rfl
theorem R_toRet_blk (i:Nat) (k:List It):toRet (.blk i::k)=toRet k:=rfl
theorem R_toRet_inv (J:List Act→Act→World→Prop) (k:List It):toRet (.inv J::k)=toRet k:=rfl
theorem R_toRet_ret (rs:List ResultVar) (d:Option Tmp) (k:List It):toRet (.ret rs d::k)=.ret rs d::k:=rfl
theorem R_toRet_fin (rs:List ResultVar) (k:List It):toRet (.fin rs::k)=.fin rs::k:=rfl
theorem R_toBlk_code (i:Nat) (c:Code) (k:List It):toBlk i (.code c::k)=toBlk i k:=rfl
theorem R_toBlk_ops (i:Nat) (a l:List Oper) (k:List It):toBlk i (.ops a l::k)=toBlk i k:=rfl
theorem R_toBlk_inv (i:Nat) (J:List Act→Act→World→Prop) (k:List It):toBlk i (.inv J::k)=toBlk i k:=rfl
theorem R_toBlk_blk (i j:Nat) (k:List It):toBlk i (.blk j::k)=if j=i then some k else toBlk i k:=rfl
theorem R_resL_nil (fr:List V) (H:List AB):resL P fr H []=some []:=rfl
theorem R_resL_tmp (fr:List V) (H:List AB) (t:Nat) (rs:List ResultVar):resL P fr H (.tmp t::rs)=(resL P fr H rs).map (getV fr t :: ·):=by simp only [resL,resOne,getV_eq,Option.bind_some]
theorem R_resL_cell (fr:List V) (H:List AB) (x:Nat) (t:TypeId) (rs:List ResultVar):resL P fr H (.cell x t::rs)=(loadE (tdOf P t) H (getV fr x)).bind fun v=>(resL P fr H rs).map (v :: ·):=by
 simp only [resL,resOne,getV_eq,loadE];cases tdOf P t<;>rfl
theorem R_resV_one (v:V):resV [v]=v:=rfl
theorem R_resV_two (v w:V) (vs:List V):resV (v::w::vs)=.tup (v::w::vs):=rfl
theorem R_fz_val (H:List AB) (w:Value):fz H (.val w)=some (.val w):=by simp only [fz]
theorem R_fz_sl (H:List AB) (es:List V) (m:Mk):fz H (.sl es m)=some (.sl es .plain):=by simp only [fz]
theorem R_fz_cp (H:List AB) (cs:List V):fz H (.cp cs)=some (.cp cs):=by simp only [fz]
theorem R_fz_row (H:List AB) (i ver:Nat):fz H (.row i ver)=fzRow H i ver:=by simp only [fz]
theorem R_fz_agg (H:List AB) (cs:List V):fz H (.agg cs)=(fzL H cs).map .agg:=by simp only [fz]
theorem R_fz_tup (H:List AB) (cs:List V):fz H (.tup cs)=(fzL H cs).map .tup:=by simp only [fz]
theorem R_fz_fn (H:List AB) (f:Fn) (a b:List V):fz H (.fn f a b)=(fzL H a).bind fun a2=>(fzL H b).map fun b2=>.fn f a2 b2:=by simp only [fz]
theorem R_fz_iface (H:List AB) (t:TypeId) (v:V):fz H (.iface t v)=(fz H v).map (.iface t):=by simp only [fz]
theorem R_fzL_nil (H:List AB):fzL H []=some []:=by simp only [fzL]
theorem R_fzL_cons (H:List AB) (v:V) (vs:List V):fzL H (v::vs)=(fz H v).bind fun v2=>(fzL H vs).map (v2 :: ·):=by simp only [fzL]
theorem R_ri_val (w:Value):rowsIn (.val w)=[]:=by simp only [rowsIn]
theorem R_ri_ptr (i o:Nat):rowsIn (.ptr i o)=[]:=by simp only [rowsIn]
theorem R_ri_ptrE (i v x s o:Nat):rowsIn (.ptrE i v x s o)=[]:=by simp only [rowsIn]
theorem R_ri_cp (cs:List V):rowsIn (.cp cs)=[]:=by simp only [rowsIn]
theorem R_ri_sl (es:List V) (m:Mk):rowsIn (.sl es m)=[]:=by simp only [rowsIn]
theorem R_ri_vs (i o n s:Nat):rowsIn (.vs i o n s)=[]:=by simp only [rowsIn]
theorem R_ri_mp (i:Nat):rowsIn (.mp i)=[]:=by simp only [rowsIn]
theorem R_ri_row (i v:Nat):rowsIn (.row i v)=[i]:=by simp only [rowsIn]
theorem R_ri_agg (cs:List V):rowsIn (.agg cs)=rowsInL cs:=by simp only [rowsIn]
theorem R_ri_tup (cs:List V):rowsIn (.tup cs)=rowsInL cs:=by simp only [rowsIn]
theorem R_ri_fn (f:Fn) (a b:List V):rowsIn (.fn f a b)=rowsInL a++rowsInL b:=by simp only [rowsIn]
theorem R_ri_iface (t:TypeId) (v:V):rowsIn (.iface t v)=rowsIn v:=by simp only [rowsIn]
theorem R_riL_nil  : rowsInL []=[]:=by simp only [rowsInL]
theorem R_riL_cons (v:V) (vs:List V):rowsInL (v::vs)=rowsIn v++rowsInL vs:=by simp only [rowsInL]
theorem R_imm_nil (H:List AB):immL H []=H:=rfl
theorem R_imm_cons (H:List AB) (i:Nat) (is:List Nat):immL H (i::is)=immL (immAt H i) is:=rfl
theorem R_immAt_succ (h:AB) (H:List AB) (n:Nat):immAt (h::H) (n + 1)=h::immAt H n:=by cases h<;>rfl
theorem R_immAt_row (sz:Nat) (es:List V) (v:Nat) (m:Bool) (H:List AB):immAt (.row sz es v m::H) 0=.row sz es v true::H:=rfl
theorem R_fzRow_eq (H:List AB) (i ver:Nat):fzRow H i ver=(match getH H i with|.row _ es v true=>if ver=v then some (.sl es .plain) else none|_=>none):=by
 simp only [fzRow]
 rcases getH_cases H i with h|⟨h,h2⟩
 ·rw [h];cases getH H i<;>first|rfl|(rename_i m;cases m<;>rfl)
 ·rw [h,h2]
theorem R_app_nil (l:List AB):[]++l=l:=rfl
theorem R_app_cons (a:AB) (l m:List AB):(a::l)++m=a::(l++m):=rfl
theorem R_appV_nil (l:List V):[]++l=l:=rfl
theorem R_appV_cons (a:V) (l m:List V):(a::l)++m=a::(l++m):=rfl
theorem R_appN_nil (l:List Nat):[]++l=l:=rfl
theorem R_appN_cons (a:Nat) (l m:List Nat):(a::l)++m=a::(l++m):=rfl
theorem R_map_some (f:List V→List V) (x:List V):(some x).map f=some (f x):=rfl
theorem R_mapV_some (f:List V→V) (x:List V):(some x).map f=some (f x):=rfl
theorem R_mapVV_some (f:V→V) (x:V):(some x).map f=some (f x):=rfl
theorem R_mapB_some (f:Bool→V) (x:Bool):(some x).map f=some (f x):=rfl
theorem R_mapBB_some (f:Bool→Bool) (x:Bool):(some x).map f=some (f x):=rfl
theorem R_bindL_some (f:List V→Option (List V)) (x:List V):(some x).bind f=f x:=rfl
theorem R_bindLV_some (f:List V→Option V) (x:List V):(some x).bind f=f x:=rfl
theorem R_bindV_some (f:V→Option (List V)) (x:V):(some x).bind f=f x:=rfl
theorem R_bindVV_some (f:V→Option V) (x:V):(some x).bind f=f x:=rfl
theorem R_bindO_some (f:Oper→Option Nat) (x:Oper):(some x).bind f=f x:=rfl
theorem R_dropV_zero (l:List V):l.drop 0=l:=rfl
theorem R_dropV_succ (a:V) (l:List V) (n:Nat):(a::l).drop (n + 1)=l.drop n:=rfl
theorem R_getV0 (a:V) (l:List (V)):(a::l)[0]?=some a:=by simp
theorem R_getV1 (a:V) (l:List (V)) (n:Nat):(a::l)[n + 1]?=l[n]?:=by simp
theorem R_getO0 (a:Oper) (l:List (Oper)):(a::l)[0]?=some a:=by simp
theorem R_getO1 (a:Oper) (l:List (Oper)) (n:Nat):(a::l)[n + 1]?=l[n]?:=by simp
theorem R_getF0 (a:Nat×Nat×Bool) (l:List (Nat×Nat×Bool)):(a::l)[0]?=some a:=by simp
theorem R_getF1 (a:Nat×Nat×Bool) (l:List (Nat×Nat×Bool)) (n:Nat):(a::l)[n + 1]?=l[n]?:=by simp
theorem R_toLP (l:List (Operand)):l.toArray.toList=l:=by simp
theorem R_toLQ (l:List (Nat×Operand)):l.toArray.toList=l:=by simp
theorem R_toLR (l:List (Oper)):l.toArray.toList=l:=by simp
theorem R_toLS (l:List (ResultVar)):l.toArray.toList=l:=by simp
theorem R_toLT (l:List (TypeId)):l.toArray.toList=l:=by simp
theorem R_mapQ_nil (f:Nat×Operand→Nat×V):[].map f=[]:=rfl
theorem R_mapQ_cons (f:Nat×Operand→Nat×V) (a:Nat×Operand) (l:List (Nat×Operand)):(a::l).map f=f a::l.map f:=rfl
theorem R_mapP_nil (f:Operand→V):[].map f=[]:=rfl
theorem R_mapP_cons (f:Operand→V) (a:Operand) (l:List Operand):(a::l).map f=f a::l.map f:=rfl
theorem R_lenB_nil  : ([]:List AB).length=0:=rfl
theorem R_lenB_cons (a:AB) (l:List AB):(a::l).length=l.length + 1:=rfl
theorem R_lenV_nil  : ([]:List V).length=0:=rfl
theorem R_lenV_cons (a:V) (l:List V):(a::l).length=l.length + 1:=rfl
theorem R_lapp_nil (m:List Oper):List.append [] m=m:=rfl
theorem R_lapp_cons (a:Oper) (l m:List Oper):List.append (a::l) m=a::List.append l m:=rfl
theorem R_insE_eq (kt et:TypeId) (H:List AB) (m k x:V):insE P (some (kt,et)) H m k x=insR P H kt m k x:=rfl
theorem R_lkE_eq (kt et:TypeId) (H:List AB) (ok:Bool) (m k:V):lkE P (some (kt,et)) H ok m k=lkR P H kt et ok m k:=rfl
theorem R_mkE_eq (kt et:TypeId) (nid:Nat):mkE P (some (kt,et)) nid=mkS nid (sgT P kt):=by
 cases h:sgT P kt<;>simp [mkE,mkS,h]
theorem R_mkSl_eq (s:Nat) (a:Bool) (e esz b:Nat) (z:List V) (f:Bool) (nid:Nat) (x y:V):mkSlE P (some ⟨s,a,.slice e esz b,z,f⟩) nid x y=mkSl2 (tdOf P e) esz b nid x y:=rfl
theorem R_mkSl2_eq (s:Nat) (a:Bool) (sh:Sh) (f:Bool) (b nid:Nat) (k k2:IntKind) (n m:Int):mkSl2 (some ⟨s,a,sh,[.sl [] .nil],f⟩) 1 b nid (.val (.int k n)) (.val (.int k2 m))=some (decide (b≤128) && (decide (n=m) && (decide (0≤n) && decide (n≤1000000))),.row nid 0,⟨[],some (.row 1 (List.replicate n.toNat (.sl [] .plain)) 0 false)⟩):=rfl
theorem R_mkS_eq (nid:Nat) (sg:KS):mkS nid (some sg)=some (true,.mp nid,⟨[],some (.map false sg noF)⟩):=rfl
theorem R_insR_mp (H:List AB) (kt:TypeId) (i:Nat) (k x:V):insR P H kt (.mp i) k x=insM (sgT P kt) i k x H (getH H i):=by
 simp only [insR]
 rcases getH_cases H i with h|⟨h,h2⟩
 ·rw [h];cases getH H i<;>first|rfl|(simp only [insM];split<;>first|rfl|(cases keyI _ k<;>rfl))
 ·rw [h,h2];rfl
theorem R_insM_eq (s:KS) (i:Nat) (k x:V) (H:List AB) (own:Bool) (sg:KS) (f:List Int→Option V):insM (some s) i k x H (.map own sg f)=if s=sg then insQ i sg f (keyI sg k) (insV H own x) else none:=by simp only [insM,Option.some.injEq]
theorem R_insQ_eq (i:Nat) (sg:KS) (f:List Int→Option V) (q:List Int) (own:Bool) (x:V):insQ i sg f (some q) (own,x)=some [(i,.map own sg (updF f q x))]:=rfl
theorem R_insV_eq (H:List AB) (own:Bool) (x:V):insV H own x=insW own x (fz H x):=by simp only [insV];cases fz H x<;>rfl
theorem R_insW_some (own:Bool) (x y:V):insW own x (some y)=(own,y):=rfl
theorem R_insW_none (own:Bool) (x:V):insW own x none=(true,x):=rfl
theorem R_lkR_mp (H:List AB) (kt et:TypeId) (ok:Bool) (i:Nat) (k:V):lkR P H kt et ok (.mp i) k=lkM (sgT P kt) ok k (zeroT P et) (getH H i):=by
 simp only [lkR]
 rcases getH_cases H i with h|⟨h,h2⟩
 ·rw [h];cases getH H i<;>first|rfl|(simp only [lkM];split<;>first|rfl|(cases keyI _ k<;>cases zeroT P et<;>rfl))
 ·rw [h,h2];rfl
theorem R_lkM_eq (s:KS) (ok:Bool) (k:V) (z:Option V) (own:Bool) (sg:KS) (f:List Int→Option V):lkM (some s) ok k z (.map own sg f)=if s=sg then lkQ ok f z (keyI sg k) else none:=by simp only [lkM,Option.some.injEq]
theorem R_lkQ_eq (ok:Bool) (f:List Int→Option V) (z:V) (q:List Int):lkQ ok f (some z) (some q)=some (lookR ok z (f q)):=rfl
theorem R_keyI_agg (ks:List IntKind) (xs:List V):keyI (true,ks) (.agg xs)=intsOf ks xs:=rfl
theorem R_keyI_val (ks:List IntKind) (w:Value):keyI (false,ks) (.val w)=intsOf ks [.val w]:=rfl
theorem R_intsOf_nil  : intsOf [] []=some []:=rfl
theorem R_intsOf_cons (k j:IntKind) (n:Int) (ks:List IntKind) (xs:List V):intsOf (k::ks) (.val (.int j n)::xs)=if j=k then (intsOf ks xs).map (n :: ·) else none:=rfl
theorem R_mapI_some (f:List Int→List Int) (x:List Int):(some x).map f=some (f x):=rfl
theorem R_noF_eq (q:List Int):noF q=none:=rfl
theorem R_updF_eq (f:List Int→Option V) (k:List Int) (x:V) (q:List Int):updF f k x q=bif eqIs q k then some x else f q:=rfl
theorem R_eqIs_nil  : eqIs [] []=true:=rfl
theorem R_eqIs_cons (a b:Int) (a_s bs:List Int):eqIs (a::a_s) (b::bs)=((a==b) && eqIs a_s bs):=rfl
theorem R_fz_ptr (H:List AB) (i o:Nat):fz H (.ptr i o)=none:=by simp only [fz]
theorem R_fz_ptrE (H:List AB) (i v x s o:Nat):fz H (.ptrE i v x s o)=none:=by simp only [fz]
theorem R_fz_vs (H:List AB) (i o n s:Nat):fz H (.vs i o n s)=none:=by simp only [fz]
theorem R_fz_mp (H:List AB) (i:Nat):fz H (.mp i)=none:=by simp only [fz]
theorem R_bindV_none (f:V→Option (List V)):(none:Option V).bind f=none:=rfl
theorem R_mapLL_none (f:List V→List V):(none:Option (List V)).map f=none:=rfl
theorem R_mapLV_none (f:List V→V):(none:Option (List V)).map f=none:=rfl
theorem R_mapVV_none (f:V→V):(none:Option V).map f=none:=rfl
theorem R_bindLV_none (f:List V→Option V):(none:Option (List V)).bind f=none:=rfl
theorem R_lookR_some (z v:V):lookR true z (some v)=.tup [v,.bool true]:=rfl
theorem R_lookR_f (z v:V):lookR false z (some v)=v:=rfl
theorem R_lookR_fn (z:V):lookR false z none=z:=rfl
theorem R_lookR_none (z:V):lookR true z none=.tup [z,.bool false]:=rfl
theorem R_appM_nil (l:List (V×V)):[]++l=l:=rfl
theorem R_appM_cons (a:V×V) (l m:List (V×V)):(a::l)++m=a::(l++m):=rfl
theorem R_mapLk_some (f:Option (Nat×V)→V) (x:Option (Nat×V)):(some x).map f=some (f x):=rfl
theorem R_repl_zero (v:V):List.replicate 0 v=[]:=rfl
theorem R_repl_succ (n:Nat) (v:V):List.replicate (n + 1) v=v::List.replicate n v:=rfl
theorem R_allV_nil (f:V→Bool):[].all f=true:=rfl
theorem R_allV_cons (f:V→Bool) (a:V) (l:List V):(a::l).all f=(f a && l.all f):=rfl
end
attribute [irreducible] andI orI
end Go.Ab
