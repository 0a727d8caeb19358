import Derived.Test.YtaebkmmjjabnaaaGreatDoorW5
set_option maxRecDepth 100000
set_option maxHeartbeats 4000000
set_option linter.unusedSimpArgs false
set_option linter.unusedVariables false
namespace Go.Ab
open Go Go.RowKit
inductive Reach (P:Program) (G:Glob):Cfg→Cfg→Prop where
 | refl (c:Cfg) (h:step P G c=none):Reach P G c c
 | head {c c' c'':Cfg} (h:step P G c=some c') (hr:Reach P G c' c''):Reach P G c c''
theorem Reach.iff {P:Program} {G:Glob} {c c' d:Cfg} (h:step P G c=some c'):Reach P G c d↔Reach P G c' d:=by
 constructor
 ·intro hr
  cases hr with
  | refl _ hn=>rw [h] at hn;cases hn
  | head h1 hr=>rw [h] at h1;injection h1 with h1;subst h1;exact hr
 ·exact .head h
def RUNs (P:Program) (G:Glob) (w0:World) (M0:Nat→Nat→Prop) (R:Value→World→Prop) (c:Cfg):Prop := ∃ d,Reach P G c d∧RUN ⟨P,G,w0,M0,R⟩ d
section
variable {P:Program} {G:Glob} {w0:World} {M0:Nat→Nat→Prop} {R:Value→World→Prop}
theorem RUN_of_RUNs {c:Cfg} (h:RUNs P G w0 M0 R c):RUN ⟨P,G,w0,M0,R⟩ c:=by
 obtain ⟨d,hr,h⟩:=h
 induction hr with
 | refl=>exact h
 | head h1 hr ih=>exact step_sound (X:=⟨P,G,w0,M0,R⟩) h1 (ih h)
theorem RUNs_eq {c c':Cfg} (h:step P G c=some c'):RUNs P G w0 M0 R c=RUNs P G w0 M0 R c':=by
 unfold RUNs
 exact propext ⟨fun ⟨d,h1,h2⟩=>⟨d,(Reach.iff h).1 h1,h2⟩,fun ⟨d,h1,h2⟩=>⟨d,(Reach.iff h).2 h1,h2⟩⟩
theorem RUNs_stop {c:Cfg} (hn:step P G c=none) (h:RUN ⟨P,G,w0,M0,R⟩ c):RUNs P G w0 M0 R c:=⟨c,.refl c hn,h⟩
def OPS (P:Program) (G:Glob) (w0:World) (M0:Nat→Nat→Prop) (R:Value→World→Prop) (c:Cfg) (r:Option (V×Upd)) (dst:Option Tmp) (all l:List Oper) (k:List It) (fr:List V) (st:List (List V)) (H:List AB):Prop :=
 match r with
 | some r=>RUNs P G w0 M0 R ⟨.ops all l::k,putV fr dst r.1,st,applyU H r.2⟩
 | none=>RUNs P G w0 M0 R c
theorem S_op {op:Op} {dst:Option Tmp} {t:TypeId} {p:String} {af:Array Edge} {all l:List Oper} {k:List It} {fr:List V} {st:List (List V)} {H:List AB} :
 RUNs P G w0 M0 R ⟨.ops all (⟨dst,op,t,p,af,none⟩::l)::k,fr,st,H⟩=OPS P G w0 M0 R ⟨.ops all (⟨dst,op,t,p,af,none⟩::l)::k,fr,st,H⟩ (eff P G fr H H.length op) dst all l k fr st H:=by
 unfold OPS
 cases h:eff P G fr H H.length op with
 | none=>rfl
 | some r=>exact RUNs_eq (by simp only [step,opStep,h,Option.map_some])
def GRD (P:Program) (G:Glob) (w0:World) (M0:Nat→Nat→Prop) (R:Value→World→Prop) (c:Cfg) (g:Option Bool) (o:Oper) (all l:List Oper) (k:List It) (fr:List V) (st:List (List V)) (H:List AB):Prop :=
 match g with
 | some true=>RUNs P G w0 M0 R ⟨.ops all ({ o with guard:=none }::l)::k,fr,st,H⟩
 | some false=>RUNs P G w0 M0 R ⟨.ops all l::k,putV fr o.dst undefV,st,H⟩
 | none=>RUNs P G w0 M0 R c
def CONDS (P:Program) (G:Glob) (w0:World) (M0:Nat→Nat→Prop) (R:Value→World→Prop) (c:Cfg) (v:V) (x y:Code) (k:List It) (fr:List V) (st:List (List V)) (H:List AB):Prop :=
 match v with
 | .val (.bool true)=>RUNs P G w0 M0 R ⟨.code x::k,fr,st,H⟩
 | .val (.bool false)=>RUNs P G w0 M0 R ⟨.code y::k,fr,st,H⟩
 | _=>RUNs P G w0 M0 R c
theorem GRD_split {c:Cfg} {b:Bool} {dst:Option Tmp} {op:Op} {t:TypeId} {p:String} {af:Array Edge} {g:Option (Nat×Bool)} {all l:List Oper} {k:List It} {fr:List V} {st:List (List V)} {H:List AB}
 (h1:b=true→RUNs P G w0 M0 R ⟨.ops all (⟨dst,op,t,p,af,none⟩::l)::k,fr,st,H⟩) (h2:b=false→RUNs P G w0 M0 R ⟨.ops all l::k,putV fr dst undefV,st,H⟩):GRD P G w0 M0 R c (some b) ⟨dst,op,t,p,af,g⟩ all l k fr st H:=by
 cases b
 ·exact h2 rfl
 ·exact h1 rfl
def GRDN (P:Program) (G:Glob) (w0:World) (M0:Nat→Nat→Prop) (R:Value→World→Prop) (b:Bool) (o:Oper) (all l:List Oper) (k:List It) (fr:List V) (st:List (List V)) (H:List AB):Prop :=
 match b with
 | false=>RUNs P G w0 M0 R ⟨.ops all ({ o with guard:=none }::l)::k,fr,st,H⟩
 | true=>RUNs P G w0 M0 R ⟨.ops all l::k,putV fr o.dst undefV,st,H⟩
theorem GRD_not {c:Cfg} {b:Bool} {o:Oper} {all l:List Oper} {k:List It} {fr:List V} {st:List (List V)} {H:List AB}:GRD P G w0 M0 R c (some (!b)) o all l k fr st H=GRDN P G w0 M0 R b o all l k fr st H:=by cases b<;>rfl
theorem CONDS_not {c:Cfg} {t:Bool} {x y:Code} {k:List It} {fr:List V} {st:List (List V)} {H:List AB}:CONDS P G w0 M0 R c (.val (.bool (!t))) x y k fr st H=CONDS P G w0 M0 R c (.val (.bool t)) y x k fr st H:=by cases t<;>rfl
theorem GRDN_split {b:Bool} {dst:Option Tmp} {op:Op} {t:TypeId} {p:String} {af:Array Edge} {g:Option (Nat×Bool)} {all l:List Oper} {k:List It} {fr:List V} {st:List (List V)} {H:List AB}
 (h1:b=false→RUNs P G w0 M0 R ⟨.ops all (⟨dst,op,t,p,af,none⟩::l)::k,fr,st,H⟩) (h2:b=true→RUNs P G w0 M0 R ⟨.ops all l::k,putV fr dst undefV,st,H⟩):GRDN P G w0 M0 R b ⟨dst,op,t,p,af,g⟩ all l k fr st H:=by
 cases b
 ·exact h1 rfl
 ·exact h2 rfl
theorem S_seq {a b:Code} {k:List It} {fr:List V} {st:List (List V)} {H:List AB}:RUNs P G w0 M0 R ⟨.code (.seq a b)::k,fr,st,H⟩=RUNs P G w0 M0 R ⟨.code a::.code b::k,fr,st,H⟩:=RUNs_eq rfl
theorem S_skip {k:List It} {fr:List V} {st:List (List V)} {H:List AB}:RUNs P G w0 M0 R ⟨.code .skip::k,fr,st,H⟩=RUNs P G w0 M0 R ⟨k,fr,st,H⟩:=RUNs_eq rfl
theorem S_block {id:Nat} {b:Code} {k:List It} {fr:List V} {st:List (List V)} {H:List AB}:RUNs P G w0 M0 R ⟨.code (.block id b)::k,fr,st,H⟩=RUNs P G w0 M0 R ⟨.code b::.blk id::k,fr,st,H⟩:=RUNs_eq rfl
theorem S_label {l:Nat} {k:List It} {fr:List V} {st:List (List V)} {H:List AB}:RUNs P G w0 M0 R ⟨.code (.label l)::k,fr,st,H⟩=RUNs P G w0 M0 R ⟨k,fr,st,H⟩:=RUNs_eq rfl
theorem S_scope {b:Code} {k:List It} {fr:List V} {st:List (List V)} {H:List AB}:RUNs P G w0 M0 R ⟨.code (.scope b)::k,fr,st,H⟩=RUNs P G w0 M0 R ⟨.code b::k,fr,st,H⟩:=RUNs_eq rfl
theorem S_blk {id:Nat} {k:List It} {fr:List V} {st:List (List V)} {H:List AB}:RUNs P G w0 M0 R ⟨.blk id::k,fr,st,H⟩=RUNs P G w0 M0 R ⟨k,fr,st,H⟩:=RUNs_eq rfl
theorem S_region {id:Nat} {ops:List Oper} {k:List It} {fr:List V} {st:List (List V)} {H:List AB}:RUNs P G w0 M0 R ⟨.code (.region id ops.toArray false)::k,fr,st,H⟩=RUNs P G w0 M0 R ⟨.ops ops ops::k,fr,st,H⟩:=RUNs_eq rfl
theorem S_end {all:List Oper} {k:List It} {fr:List V} {st:List (List V)} {H:List AB}:RUNs P G w0 M0 R ⟨.ops all []::k,fr,st,H⟩=RUNs P G w0 M0 R ⟨k,fr,st,H⟩:=RUNs_eq rfl
theorem S_cond {c:Operand} {x y:Code} {k:List It} {fr:List V} {st:List (List V)} {H:List AB}:RUNs P G w0 M0 R ⟨.code (.cond c x y)::k,fr,st,H⟩=CONDS P G w0 M0 R ⟨.code (.cond c x y)::k,fr,st,H⟩ (evalO G fr c) x y k fr st H:=by
 unfold CONDS
 split
 ·rename_i h;exact RUNs_eq (by simp only [step,h];rfl)
 ·rename_i h;exact RUNs_eq (by simp only [step,h];rfl)
 ·rfl
theorem CONDS_true {c:Cfg} {x y:Code} {k:List It} {fr:List V} {st:List (List V)} {H:List AB}:CONDS P G w0 M0 R c (.val (.bool true)) x y k fr st H=RUNs P G w0 M0 R ⟨.code x::k,fr,st,H⟩:=rfl
theorem CONDS_false {c:Cfg} {x y:Code} {k:List It} {fr:List V} {st:List (List V)} {H:List AB}:CONDS P G w0 M0 R c (.val (.bool false)) x y k fr st H=RUNs P G w0 M0 R ⟨.code y::k,fr,st,H⟩:=rfl
theorem CONDS_split {c:Cfg} {t:Bool} {x y:Code} {k:List It} {fr:List V} {st:List (List V)} {H:List AB} (h1:t=true→RUNs P G w0 M0 R ⟨.code x::k,fr,st,H⟩) (h2:t=false→RUNs P G w0 M0 R ⟨.code y::k,fr,st,H⟩) :
 CONDS P G w0 M0 R c (.val (.bool t)) x y k fr st H:=by
 cases t
 ·exact h2 rfl
 ·exact h1 rfl
def EXITS (P:Program) (G:Glob) (w0:World) (M0:Nat→Nat→Prop) (R:Value→World→Prop) (c:Cfg) (r:Option (List It)) (fr:List V) (st:List (List V)) (H:List AB):Prop :=
 match r with
 | some k=>RUNs P G w0 M0 R ⟨k,fr,st,H⟩
 | none=>RUNs P G w0 M0 R c
theorem S_exit {id:Nat} {k:List It} {fr:List V} {st:List (List V)} {H:List AB}:RUNs P G w0 M0 R ⟨.code (.exit id)::k,fr,st,H⟩=EXITS P G w0 M0 R ⟨.code (.exit id)::k,fr,st,H⟩ (toBlk id k) fr st H:=by
 unfold EXITS
 cases h:toBlk id k with
 | none=>rfl
 | some k'=>exact RUNs_eq (by simp only [step,h,Option.map_some])
theorem EXITS_some {c:Cfg} {k:List It} {fr:List V} {st:List (List V)} {H:List AB}:EXITS P G w0 M0 R c (some k) fr st H=RUNs P G w0 M0 R ⟨k,fr,st,H⟩:=rfl
def RETS (P:Program) (G:Glob) (w0:World) (M0:Nat→Nat→Prop) (R:Value→World→Prop) (c:Cfg) (r:Option (List V)) (dst:Option Tmp) (k:List It) (f:List V) (st:List (List V)) (H:List AB):Prop :=
 match r with
 | some vs=>RUNs P G w0 M0 R ⟨k,putV f dst (resV vs),st,H⟩
 | none=>RUNs P G w0 M0 R c
theorem S_retTo {rs:List ResultVar} {dst:Option Tmp} {k:List It} {fr f:List V} {st:List (List V)} {H:List AB}:RUNs P G w0 M0 R ⟨.ret rs dst::k,fr,f::st,H⟩=RETS P G w0 M0 R ⟨.ret rs dst::k,fr,f::st,H⟩ (resL P fr H rs) dst k f st H:=by
 unfold RETS
 cases h:resL P fr H rs with
 | none=>rfl
 | some vs=>exact RUNs_eq (by simp only [step,h,Option.map_some])
theorem RETS_some {c:Cfg} {vs:List V} {dst:Option Tmp} {k:List It} {f:List V} {st:List (List V)} {H:List AB}:RETS P G w0 M0 R c (some vs) dst k f st H=RUNs P G w0 M0 R ⟨k,putV f dst (resV vs),st,H⟩:=rfl
theorem S_ret {k:List It} {fr:List V} {st:List (List V)} {H:List AB}:RUNs P G w0 M0 R ⟨.code .ret::k,fr,st,H⟩=RUNs P G w0 M0 R ⟨toRet k,fr,st,H⟩:=RUNs_eq rfl
theorem S_guard {op:Op} {dst:Option Tmp} {t:TypeId} {p:String} {af:Array Edge} {jw:Nat×Bool} {all l:List Oper} {k:List It} {fr:List V} {st:List (List V)} {H:List AB} :
 RUNs P G w0 M0 R ⟨.ops all (⟨dst,op,t,p,af,some jw⟩::l)::k,fr,st,H⟩=GRD P G w0 M0 R ⟨.ops all (⟨dst,op,t,p,af,some jw⟩::l)::k,fr,st,H⟩ (guardV all fr ⟨dst,op,t,p,af,some jw⟩) ⟨dst,op,t,p,af,some jw⟩ all l k fr st H:=by
 unfold GRD
 split
 ·rename_i h;exact RUNs_eq (by simp only [step,opStep,h])
 ·rename_i h;exact RUNs_eq (by simp only [step,opStep,h])
 ·rfl
def OPV (P:Program) (G:Glob) (w0:World) (M0:Nat→Nat→Prop) (R:Value→World→Prop) (c:Cfg) (r:Option V) (dst:Option Tmp) (all l:List Oper) (k:List It) (fr:List V) (st:List (List V)) (H:List AB):Prop :=
 match r with
 | some v=>RUNs P G w0 M0 R ⟨.ops all l::k,putV fr dst v,st,H⟩
 | none=>RUNs P G w0 M0 R c
def OPN (P:Program) (G:Glob) (w0:World) (M0:Nat→Nat→Prop) (R:Value→World→Prop) (c:Cfg) (r:Option AB) (dst:Option Tmp) (all l:List Oper) (k:List It) (fr:List V) (st:List (List V)) (H:List AB):Prop :=
 match r with
 | some b=>RUNs P G w0 M0 R ⟨.ops all l::k,putV fr dst (.ptr H.length 0),st,H++[b]⟩
 | none=>RUNs P G w0 M0 R c
def OPU (P:Program) (G:Glob) (w0:World) (M0:Nat→Nat→Prop) (R:Value→World→Prop) (c:Cfg) (r:Option (List (Nat×AB))) (dst:Option Tmp) (all l:List Oper) (k:List It) (fr:List V) (st:List (List V)) (H:List AB):Prop :=
 match r with
 | some u=>RUNs P G w0 M0 R ⟨.ops all l::k,putV fr dst undefV,st,setH H u⟩
 | none=>RUNs P G w0 M0 R c
theorem OPS_val {c:Cfg} {r:Option V} {r':Option (V×Upd)} (h:r'=r.map fun v=>(v,Upd.no)) {dst:Option Tmp} {all l:List Oper} {k:List It} {fr:List V} {st:List (List V)} {H:List AB}:OPS P G w0 M0 R c r' dst all l k fr st H=OPV P G w0 M0 R c r dst all l k fr st H:=by
 subst h;cases r<;>rfl
theorem OPS_new {c:Cfg} {r:Option AB} {r':Option (V×Upd)} {dst:Option Tmp} {all l:List Oper} {k:List It} {fr:List V} {st:List (List V)} {H:List AB} (h:r'=r.map fun b=>(.ptr H.length 0,⟨[],some b⟩)):OPS P G w0 M0 R c r' dst all l k fr st H=OPN P G w0 M0 R c r dst all l k fr st H:=by
 subst h;cases r<;>rfl
theorem OPS_upd {c:Cfg} {r:Option (List (Nat×AB))} {r':Option (V×Upd)} {dst:Option Tmp} {all l:List Oper} {k:List It} {fr:List V} {st:List (List V)} {H:List AB} (h:r'=r.map fun u=>(undefV,⟨u,none⟩)):OPS P G w0 M0 R c r' dst all l k fr st H=OPU P G w0 M0 R c r dst all l k fr st H:=by
 subst h;cases r<;>rfl
def appE:Option Nat→Option (List V)→List AB→Nat→V→Option (Bool×V×Upd)
 | some esz,some xs,H,nid,v=>appR H nid esz xs v
 | _,_,_,_,_=>none
def slcE:Option Nat→Option (Option Nat)→Option (Option Nat)→Option (Option Nat)→List AB→V→Option (Bool×V×Upd)
 | some esz,some lo,some hi,some mx,H,v=>slcR H esz lo hi mx v
 | _,_,_,_,_,_=>none
def mkE (P:Program) (kt:Option (TypeId×TypeId)) (nid:Nat):Option (Bool×V×Upd):=match kt with
 | some kt=>match sgT P kt.1 with
   | some sg=>some (true,.mp nid,⟨[],some (.map false sg noF)⟩)
   | none=>none
 | none=>none
def insE (P:Program) (kt:Option (TypeId×TypeId)) (H:List AB) (m k x:V):Option (List (Nat×AB)):=match kt with
 | some kt=>insR P H kt.1 m k x
 | none=>none
def lkE (P:Program) (kt:Option (TypeId×TypeId)) (H:List AB) (ok:Bool) (m k:V):Option V:=match kt with
 | some kt=>lkR P H kt.1 kt.2 ok m k
 | none=>none
def OPC (P:Program) (G:Glob) (w0:World) (M0:Nat→Nat→Prop) (R:Value→World→Prop) (c:Cfg) (r:Option (Bool×V×Upd)) (dst:Option Tmp) (all l:List Oper) (k:List It) (fr:List V) (st:List (List V)) (H:List AB):Prop :=
 match r with
 | some (true,v,u)=>RUNs P G w0 M0 R ⟨.ops all l::k,putV fr dst v,st,applyU H u⟩
 | _=>RUNs P G w0 M0 R c
theorem OPS_cond {c:Cfg} {r:Option (Bool×V×Upd)} {r':Option (V×Upd)} {dst:Option Tmp} {all l:List Oper} {k:List It} {fr:List V} {st:List (List V)} {H:List AB} (h:r'=condR r):OPS P G w0 M0 R c r' dst all l k fr st H=OPC P G w0 M0 R c r dst all l k fr st H:=by
 subst h
 cases r with
 | none=>rfl
 | some q=>obtain ⟨b,v,u⟩:=q;cases b<;>rfl
theorem OPC_ok {c:Cfg} {p:Bool} {v:V} {u:Upd} {dst:Option Tmp} {all l:List Oper} {k:List It} {fr:List V} {st:List (List V)} {H:List AB} (hp:p=true) (h:RUNs P G w0 M0 R ⟨.ops all l::k,putV fr dst v,st,applyU H u⟩) :
 OPC P G w0 M0 R c (some (p,v,u)) dst all l k fr st H:=by subst hp;exact h
def pickE:V→V→V→Option V
 | .val (.bool t),x,y=>some (bif t then x else y)
 | _,_,_=>none
def allocE:Option TD→Option AB
 | some d=>some (.var d.zero)
 | none=>none
def boxE:V→Option AB
 | .any=>none
 | .tup _=>none
 | v=>some (.var v.cells)
def loadE (d:Option TD) (H:List AB) (v:V):Option V:=match d with
 | some d=>loadV H d v
 | none=>none
def storeE (d:Option TD) (H:List AB) (x a:V):Option (List (Nat×AB)):=match d with
 | some d=>if x.cells.length=d.size∧x.cells.all oneV then (storeV H x.cells a).map (·.sets) else none
 | none=>none
def nilCheckE:V→Option V
 | .ptr i o=>some (.ptr i o)
 | .cp cs=>some (.cp cs)
 | .iface t v=>some (.iface t v)
 | .fn (.func f) a b=>some (.fn (.func f) a b)
 | _=>none
def faE (d:Option TD) (H:List AB) (f:Nat) (x:V):Option V:=match d with
 | some d=>match d.sh with
   | .struct fs=>(fs[f]?).bind fun fd=>if fd.2.1=0 then none else fieldAddrV H fd x
   | _=>none
 | none=>none
def fieldE (d:Option TD) (f:Nat) (x:V):Option V:=match d with
 | some d=>match d.sh,x with
   | .struct fs,.agg cs=>(fs[f]?).bind fun fd=>partV fd.2.2 fd.2.1 (cs.drop fd.1)
   | _,_=>none
 | none=>none
def iaE (d:Option TD) (H:List AB) (x ix:V):Option V:=match d with
 | some d=>match ix with
   | .val (.int _ n)=>(idxN n).bind fun n=>indexAddrV H d.sh n x
   | _=>none
 | none=>none
def indexE (d:Option TD) (x ix:V):Option V:=match d with
 | some d=>match d.sh,x,ix with
   | .array k esz ea,.agg cs,.val (.int _ n)=>(idxN n).bind fun n=>if n < k then partV ea esz (cs.drop (n * esz)) else none
   | .str,.val (.string s),.val (.int _ n)=>(idxN n).bind fun n=>strAt s n
   | _,_,_=>none
 | none=>none
def unE (op:UnOp) (x:V):Option V:=match op,x with
 | .not,.val (.bool b)=>some (.bool (!b))
 | .neg,.val (.int k n)=>some (.int k (k.wrap (0 - n)))
 | _,_=>none
def convE (ds d:Option TD) (x:V):Option V:=match ds,d with
 | some ds,some d=>match ds.sh,d.sh,x with
   | .int _,.int k,.val (.int _ n)=>some (.int k (k.wrap n))
   | _,_,_=>none
 | _,_=>none
def extractE (x:V) (i:Nat):Option V:=match x with
 | .tup vs=>vs[i]?
 | _=>none
def buildE (d:Option TD) (ps:List (Nat×V)):Option V:=match d with
 | some d=>match d.sh with
   | .struct fs=>(buildV fs d.zero ps).map .agg
   | .array k esz ea=>(buildV (arrFs k 0 esz ea) d.zero ps).map .agg
   | _=>none
 | none=>none
def buildSliceE (P:Program) (H:List AB) (nid:Nat) (d:Option TD) (n:Nat) (ps:List (Nat×V)):Option (Bool×V×Upd):=match d with
 | some d=>match d.sh with
   | .slice e esz _=>(inOrder 0 ps).bind fun vs=>bsR H nid esz n (tdOf P e).isSome vs (fzL (immL H (rowsInL vs)) vs)
   | _=>none
 | none=>none
def lenE (d:Option TD) (H:List AB) (x:V):Option V:=match d with
 | some d=>(lenV H d.sh x).map (·.1)
 | none=>none
section
variable {dst:Option Tmp} {t ty:TypeId} {p:String} {af:Array Edge} {all l:List Oper} {k:List It} {fr:List V} {st:List (List V)} {H:List AB}
theorem S_move {x:Operand}:RUNs P G w0 M0 R ⟨.ops all (⟨dst,.move x,ty,p,af,none⟩::l)::k,fr,st,H⟩=RUNs P G w0 M0 R ⟨.ops all l::k,putV fr dst (evalO G fr x),st,H⟩:=RUNs_eq rfl
theorem S_assign {x:Operand}:RUNs P G w0 M0 R ⟨.ops all (⟨dst,.assign x,ty,p,af,none⟩::l)::k,fr,st,H⟩=RUNs P G w0 M0 R ⟨.ops all l::k,putV fr dst (evalO G fr x),st,H⟩:=RUNs_eq rfl
theorem E_pick {nid:Nat} {c x y:Operand}  : eff P G fr H nid (.pick c x y)=((pickE (evalO G fr c) (evalO G fr x) (evalO G fr y))).map fun v=>(v,Upd.no):=by
 simp only [eff];generalize evalO G fr c=v;cases v<;>first|rfl|(rename_i w;cases w<;>rfl)
theorem S_pick {c x y:Operand}  : RUNs P G w0 M0 R ⟨.ops all (⟨dst,.pick c x y,ty,p,af,none⟩::l)::k,fr,st,H⟩=OPV P G w0 M0 R ⟨.ops all (⟨dst,.pick c x y,ty,p,af,none⟩::l)::k,fr,st,H⟩ (pickE (evalO G fr c) (evalO G fr x) (evalO G fr y)) dst all l k fr st H:=by
 rw [S_op];exact OPS_val E_pick
theorem E_alloc {nid:Nat}  : eff P G fr H nid (.alloc t)=((allocE (tdOf P t))).map fun b=>(V.ptr nid 0,(⟨[],some b⟩:Upd)):=by
 cases h:tdOf P t<;>simp only [eff,allocE,h]<;>rfl
theorem S_alloc  : RUNs P G w0 M0 R ⟨.ops all (⟨dst,.alloc t,ty,p,af,none⟩::l)::k,fr,st,H⟩=OPN P G w0 M0 R ⟨.ops all (⟨dst,.alloc t,ty,p,af,none⟩::l)::k,fr,st,H⟩ (allocE (tdOf P t)) dst all l k fr st H:=by
 rw [S_op];exact OPS_new E_alloc
theorem E_box {nid:Nat} {x:Operand}  : eff P G fr H nid (.box t x)=((boxE (evalO G fr x))).map fun b=>(V.ptr nid 0,(⟨[],some b⟩:Upd)):=by
 simp only [eff];generalize evalO G fr x=v;cases v<;>rfl
theorem S_box {x:Operand}  : RUNs P G w0 M0 R ⟨.ops all (⟨dst,.box t x,ty,p,af,none⟩::l)::k,fr,st,H⟩=OPN P G w0 M0 R ⟨.ops all (⟨dst,.box t x,ty,p,af,none⟩::l)::k,fr,st,H⟩ (boxE (evalO G fr x)) dst all l k fr st H:=by
 rw [S_op];exact OPS_new E_box
theorem E_load {nid:Nat} {x:Operand}  : eff P G fr H nid (.load t x)=((loadE (tdOf P t) H (evalO G fr x))).map fun v=>(v,Upd.no):=by
 cases h:tdOf P t<;>simp only [eff,loadE,h]<;>rfl
theorem S_load {x:Operand}  : RUNs P G w0 M0 R ⟨.ops all (⟨dst,.load t x,ty,p,af,none⟩::l)::k,fr,st,H⟩=OPV P G w0 M0 R ⟨.ops all (⟨dst,.load t x,ty,p,af,none⟩::l)::k,fr,st,H⟩ (loadE (tdOf P t) H (evalO G fr x)) dst all l k fr st H:=by
 rw [S_op];exact OPS_val E_load
theorem E_store {nid:Nat} {a x:Operand}  : eff P G fr H nid (.store t a x)=((storeE (tdOf P t) H (evalO G fr x) (evalO G fr a))).map fun u=>(undefV,(⟨u,none⟩:Upd)):=by
 cases h:tdOf P t<;>simp only [eff,storeE,h,Option.bind_none,Option.bind_some,Option.map_none]
 split
 ·have hn:∀ {H:List AB} {xs:List V} {v:V} {u:Upd},storeV H xs v=some u→u.new=none:=by
   intro H xs v u hu
   cases v<;>simp only [storeV] at hu<;>try (cases hu;done)
   ·split at hu
    ·simp only [Option.map_eq_some_iff] at hu;obtain ⟨_,_,rfl⟩:=hu;rfl
    ·cases hu
   ·split at hu
    ·split at hu
     ·simp only [Option.bind_eq_some_iff] at hu
      obtain ⟨_,_,_,_,_,_,hu⟩:=hu
      split at hu<;>first|(injection hu with hu;subst hu;rfl)|(cases hu;done)
     ·cases hu
    ·cases hu
  cases hs:storeV H (evalO G fr x).cells (evalO G fr a) with
  | none=>rfl
  | some u=>have:=hn hs;obtain ⟨s,n⟩:=u;simp only at this;subst this;rfl
 ·rfl
theorem S_store {a x:Operand}  : RUNs P G w0 M0 R ⟨.ops all (⟨dst,.store t a x,ty,p,af,none⟩::l)::k,fr,st,H⟩=OPU P G w0 M0 R ⟨.ops all (⟨dst,.store t a x,ty,p,af,none⟩::l)::k,fr,st,H⟩ (storeE (tdOf P t) H (evalO G fr x) (evalO G fr a)) dst all l k fr st H:=by
 rw [S_op];exact OPS_upd E_store
theorem E_nilCheck {nid:Nat} {x:Operand}  : eff P G fr H nid (.nilCheck x)=((nilCheckE (evalO G fr x))).map fun v=>(v,Upd.no):=by
 simp only [eff];generalize evalO G fr x=v;cases v<;>first|rfl|(rename_i f _ _;cases f<;>rfl)
theorem S_nilCheck {x:Operand}  : RUNs P G w0 M0 R ⟨.ops all (⟨dst,.nilCheck x,ty,p,af,none⟩::l)::k,fr,st,H⟩=OPV P G w0 M0 R ⟨.ops all (⟨dst,.nilCheck x,ty,p,af,none⟩::l)::k,fr,st,H⟩ (nilCheckE (evalO G fr x)) dst all l k fr st H:=by
 rw [S_op];exact OPS_val E_nilCheck
theorem E_fieldAddr {nid:Nat} {x:Operand} {f:Nat}  : eff P G fr H nid (.fieldAddr t x f)=((faE (tdOf P t) H f (evalO G fr x))).map fun v=>(v,Upd.no):=by
 cases h:tdOf P t with
 | none=>simp only [eff,faE,h];rfl
 | some d =>
   simp only [eff,faE,h,Option.bind_some]
   cases d.sh with
   | struct fs =>
     simp only
     cases fs[f]? with
     | none=>rfl
     | some fd=>simp only [Option.bind_some];split<;>rfl
   | _=>rfl
theorem S_fieldAddr {x:Operand} {f:Nat}  : RUNs P G w0 M0 R ⟨.ops all (⟨dst,.fieldAddr t x f,ty,p,af,none⟩::l)::k,fr,st,H⟩=OPV P G w0 M0 R ⟨.ops all (⟨dst,.fieldAddr t x f,ty,p,af,none⟩::l)::k,fr,st,H⟩ (faE (tdOf P t) H f (evalO G fr x)) dst all l k fr st H:=by
 rw [S_op];exact OPS_val E_fieldAddr
theorem E_field {nid:Nat} {x:Operand} {f:Nat}  : eff P G fr H nid (.field t x f)=((fieldE (tdOf P t) f (evalO G fr x))).map fun v=>(v,Upd.no):=by
 cases h:tdOf P t with
 | none=>simp only [eff,fieldE,h];rfl
 | some d =>
   simp only [eff,fieldE,h,Option.bind_some]
   generalize evalO G fr x=v
   cases d.sh with
   | struct fs =>
     cases v with
     | agg cs =>
       simp only
       cases fs[f]?<;>rfl
     | _=>rfl
   | _=>cases v<;>rfl
theorem S_field {x:Operand} {f:Nat}  : RUNs P G w0 M0 R ⟨.ops all (⟨dst,.field t x f,ty,p,af,none⟩::l)::k,fr,st,H⟩=OPV P G w0 M0 R ⟨.ops all (⟨dst,.field t x f,ty,p,af,none⟩::l)::k,fr,st,H⟩ (fieldE (tdOf P t) f (evalO G fr x)) dst all l k fr st H:=by
 rw [S_op];exact OPS_val E_field
theorem E_indexAddr {nid:Nat} {x ix:Operand}  : eff P G fr H nid (.indexAddr t x ix)=((iaE (tdOf P t) H (evalO G fr x) (evalO G fr ix))).map fun v=>(v,Upd.no):=by
 cases h:tdOf P t with
 | none=>simp only [eff,iaE,h];rfl
 | some d =>
   simp only [eff,iaE,h,Option.bind_some]
   generalize evalO G fr ix=v
   cases v with
   | val w =>
     cases w with
     | int kk n=>simp only;cases idxN n<;>rfl
     | _=>rfl
   | _=>rfl
theorem S_indexAddr {x ix:Operand}  : RUNs P G w0 M0 R ⟨.ops all (⟨dst,.indexAddr t x ix,ty,p,af,none⟩::l)::k,fr,st,H⟩=OPV P G w0 M0 R ⟨.ops all (⟨dst,.indexAddr t x ix,ty,p,af,none⟩::l)::k,fr,st,H⟩ (iaE (tdOf P t) H (evalO G fr x) (evalO G fr ix)) dst all l k fr st H:=by
 rw [S_op];exact OPS_val E_indexAddr
theorem E_index {nid:Nat} {x ix:Operand}  : eff P G fr H nid (.index t x ix)=((indexE (tdOf P t) (evalO G fr x) (evalO G fr ix))).map fun v=>(v,Upd.no):=by
 cases h:tdOf P t with
 | none=>simp only [eff,indexE,h];rfl
 | some d =>
   simp only [eff,indexE,h,Option.bind_some]
   generalize evalO G fr ix=v
   generalize evalO G fr x=u
   cases d.sh with
   | array kk esz ea =>
     cases u with
     | agg cs =>
       cases v with
       | val w =>
         cases w with
         | int kk n =>
           simp only
           cases idxN n with
           | none=>rfl
           | some j=>simp only [Option.bind_some];split<;>rfl
         | _=>rfl
       | _=>rfl
     | _=>rfl
   | str =>
     cases u with
     | val q =>
       cases q with
       | string s =>
         cases v with
         | val w =>
           cases w with
           | int kk n =>
             simp only
             cases idxN n with
             | none=>rfl
             | some j=>simp only [Option.bind_some]
           | _=>rfl
         | _=>rfl
       | _=>rfl
     | _=>rfl
   | _=>rfl
theorem S_index {x ix:Operand}  : RUNs P G w0 M0 R ⟨.ops all (⟨dst,.index t x ix,ty,p,af,none⟩::l)::k,fr,st,H⟩=OPV P G w0 M0 R ⟨.ops all (⟨dst,.index t x ix,ty,p,af,none⟩::l)::k,fr,st,H⟩ (indexE (tdOf P t) (evalO G fr x) (evalO G fr ix)) dst all l k fr st H:=by
 rw [S_op];exact OPS_val E_index
theorem E_binOp {nid:Nat} {op:BinOp} {x y:Operand} {t2:TypeId}  : eff P G fr H nid (.binOp op t x y t2)=((binV P op t (evalO G fr x) (evalO G fr y))).map fun v=>(v,Upd.no):=by
 rfl
theorem S_binOp {op:BinOp} {x y:Operand} {t2:TypeId}  : RUNs P G w0 M0 R ⟨.ops all (⟨dst,.binOp op t x y t2,ty,p,af,none⟩::l)::k,fr,st,H⟩=OPV P G w0 M0 R ⟨.ops all (⟨dst,.binOp op t x y t2,ty,p,af,none⟩::l)::k,fr,st,H⟩ (binV P op t (evalO G fr x) (evalO G fr y)) dst all l k fr st H:=by
 rw [S_op];exact OPS_val E_binOp
theorem E_unOp {nid:Nat} {op:UnOp} {x:Operand}  : eff P G fr H nid (.unOp op t x)=((unE op (evalO G fr x))).map fun v=>(v,Upd.no):=by
 simp only [eff];generalize evalO G fr x=v;cases op<;>cases v<;>first|rfl|(rename_i w;cases w<;>rfl)
theorem S_unOp {op:UnOp} {x:Operand}  : RUNs P G w0 M0 R ⟨.ops all (⟨dst,.unOp op t x,ty,p,af,none⟩::l)::k,fr,st,H⟩=OPV P G w0 M0 R ⟨.ops all (⟨dst,.unOp op t x,ty,p,af,none⟩::l)::k,fr,st,H⟩ (unE op (evalO G fr x)) dst all l k fr st H:=by
 rw [S_op];exact OPS_val E_unOp
theorem E_convert {nid:Nat} {s:TypeId} {x:Operand}  : eff P G fr H nid (.convert s t x)=((convE (tdOf P s) (tdOf P t) (evalO G fr x))).map fun v=>(v,Upd.no):=by
 cases h:tdOf P s with
 | none=>simp only [eff,convE,h];rfl
 | some ds =>
   cases h2:tdOf P t with
   | none=>simp only [eff,convE,h,h2];rfl
   | some d =>
     simp only [eff,convE,h,h2,Option.bind_some]
     generalize evalO G fr x=v
     cases ds.sh<;>cases d.sh<;>cases v<;>first|rfl|(rename_i w;cases w<;>rfl)
theorem S_convert {s:TypeId} {x:Operand}  : RUNs P G w0 M0 R ⟨.ops all (⟨dst,.convert s t x,ty,p,af,none⟩::l)::k,fr,st,H⟩=OPV P G w0 M0 R ⟨.ops all (⟨dst,.convert s t x,ty,p,af,none⟩::l)::k,fr,st,H⟩ (convE (tdOf P s) (tdOf P t) (evalO G fr x)) dst all l k fr st H:=by
 rw [S_op];exact OPS_val E_convert
theorem E_makeFunc {nid:Nat} {f:Fn} {a b:Array Operand}  : eff P G fr H nid (.makeFunc f a b)=((some (.fn f (a.toList.map (evalO G fr)) (b.toList.map (evalO G fr))))).map fun v=>(v,Upd.no):=by
 rfl
theorem S_makeFunc {f:Fn} {a b:Array Operand}  : RUNs P G w0 M0 R ⟨.ops all (⟨dst,.makeFunc f a b,ty,p,af,none⟩::l)::k,fr,st,H⟩=OPV P G w0 M0 R ⟨.ops all (⟨dst,.makeFunc f a b,ty,p,af,none⟩::l)::k,fr,st,H⟩ (some (.fn f (a.toList.map (evalO G fr)) (b.toList.map (evalO G fr)))) dst all l k fr st H:=by
 rw [S_op];exact OPS_val E_makeFunc
theorem E_extract {nid:Nat} {x:Operand} {i:Nat}  : eff P G fr H nid (.extract x i)=((extractE (evalO G fr x) i)).map fun v=>(v,Upd.no):=by
 simp only [eff];generalize evalO G fr x=v;cases v<;>rfl
theorem S_extract {x:Operand} {i:Nat}  : RUNs P G w0 M0 R ⟨.ops all (⟨dst,.extract x i,ty,p,af,none⟩::l)::k,fr,st,H⟩=OPV P G w0 M0 R ⟨.ops all (⟨dst,.extract x i,ty,p,af,none⟩::l)::k,fr,st,H⟩ (extractE (evalO G fr x) i) dst all l k fr st H:=by
 rw [S_op];exact OPS_val E_extract
theorem E_build {nid:Nat} {ps:Array (Nat×Operand)}  : eff P G fr H nid (.build t ps)=((buildE (tdOf P t) (ps.toList.map fun p=>(p.1,evalO G fr p.2)))).map fun v=>(v,Upd.no):=by
 cases h:tdOf P t with
 | none=>simp only [eff,buildE,h];rfl
 | some d =>
   simp only [eff,buildE,h,Option.bind_some]
   cases d.sh with
   | struct fs=>simp only;cases buildV fs d.zero (ps.toList.map fun p=>(p.1,evalO G fr p.2))<;>rfl
   | array k esz ea=>simp only;cases buildV (arrFs k 0 esz ea) d.zero (ps.toList.map fun p=>(p.1,evalO G fr p.2))<;>rfl
   | _=>rfl
theorem S_build {ps:Array (Nat×Operand)}  : RUNs P G w0 M0 R ⟨.ops all (⟨dst,.build t ps,ty,p,af,none⟩::l)::k,fr,st,H⟩=OPV P G w0 M0 R ⟨.ops all (⟨dst,.build t ps,ty,p,af,none⟩::l)::k,fr,st,H⟩ (buildE (tdOf P t) (ps.toList.map fun p=>(p.1,evalO G fr p.2))) dst all l k fr st H:=by
 rw [S_op];exact OPS_val E_build
theorem E_buildSlice {nid:Nat} {n:Nat} {ps:Array (Nat×Operand)}:eff P G fr H nid (.buildSlice t n ps)=condR (buildSliceE P H nid (tdOf P t) n (ps.toList.map fun p=>(p.1,evalO G fr p.2))):=by
 cases h:tdOf P t with
 | none=>simp only [eff,buildSliceE,h];rfl
 | some d =>
   simp only [eff,buildSliceE,h,Option.bind_some]
   cases d.sh with
   | slice e esz by_ =>
     simp only
     cases inOrder 0 (ps.toList.map fun p=>(p.1,evalO G fr p.2))<;>rfl
   | _=>rfl
theorem S_buildSlice {n:Nat} {ps:Array (Nat×Operand)}:RUNs P G w0 M0 R ⟨.ops all (⟨dst,.buildSlice t n ps,ty,p,af,none⟩::l)::k,fr,st,H⟩=OPC P G w0 M0 R ⟨.ops all (⟨dst,.buildSlice t n ps,ty,p,af,none⟩::l)::k,fr,st,H⟩ (buildSliceE P H H.length (tdOf P t) n (ps.toList.map fun p=>(p.1,evalO G fr p.2))) dst all l k fr st H:=by
 rw [S_op];exact OPS_cond E_buildSlice
theorem E_len {nid:Nat} {x:Operand}  : eff P G fr H nid (.call ⟨.builtin .len,#[x],#[t]⟩)=((lenE (tdOf P t) H (evalO G fr x))).map fun v=>(v,Upd.no):=by
 have hn:∀ {H:List AB} {sh:Sh} {v:V} {r:V×Upd},lenV H sh v=some r→r.2=.no:=by
  intro H sh v r hu
  cases v<;>simp only [lenV] at hu<;>try (cases hu;done)
  ·rename_i w;cases w<;>simp only [lenV] at hu<;>try (cases hu;done)
   split at hu<;>first|(injection hu with hu;subst hu;rfl)|(cases hu;done)
  ·split at hu<;>first|(injection hu with hu;subst hu;rfl)|(cases hu;done)
  ·split at hu
   ·split at hu<;>first|(injection hu with hu;subst hu;rfl)|(cases hu;done)
   ·cases hu
  ·split at hu<;>first|(injection hu with hu;subst hu;rfl)|(cases hu;done)
 simp only [eff,lenE]
 cases tdOf P t with
 | none=>rfl
 | some d =>
   simp only
   cases hs:lenV H d.sh (evalO G fr x) with
   | none=>rfl
   | some r=>have:=hn hs;obtain ⟨v,u⟩:=r;simp only at this;subst this;rfl
theorem S_len {x:Operand}  : RUNs P G w0 M0 R ⟨.ops all (⟨dst,.call ⟨.builtin .len,#[x],#[t]⟩,ty,p,af,none⟩::l)::k,fr,st,H⟩=OPV P G w0 M0 R ⟨.ops all (⟨dst,.call ⟨.builtin .len,#[x],#[t]⟩,ty,p,af,none⟩::l)::k,fr,st,H⟩ (lenE (tdOf P t) H (evalO G fr x)) dst all l k fr st H:=by
 rw [S_op];exact OPS_val E_len
theorem E_append {nid:Nat} {x y:Operand} {tx:TypeId}  : eff P G fr H nid (.call ⟨.builtin .append,#[x,y],#[t,tx]⟩)=condR ((appE (appT P t tx) (srcV H (evalO G fr y)) H nid (evalO G fr x))):=by
 simp only [eff,appE]
 cases appT P t tx<;>cases srcV H (evalO G fr y)<;>rfl
theorem S_append {x y:Operand} {tx:TypeId}  : RUNs P G w0 M0 R ⟨.ops all (⟨dst,.call ⟨.builtin .append,#[x,y],#[t,tx]⟩,ty,p,af,none⟩::l)::k,fr,st,H⟩=OPC P G w0 M0 R ⟨.ops all (⟨dst,.call ⟨.builtin .append,#[x,y],#[t,tx]⟩,ty,p,af,none⟩::l)::k,fr,st,H⟩ (appE (appT P t tx) (srcV H (evalO G fr y)) H H.length (evalO G fr x)) dst all l k fr st H:=by
 rw [S_op];exact OPS_cond E_append
theorem E_slice {nid:Nat} {x:Operand} {lo hi mx:Option Operand}  : eff P G fr H nid (.slice t x lo hi mx)=condR ((slcE (slcT P t) (optN G fr lo) (optN G fr hi) (optN G fr mx) H (evalO G fr x))):=by
 simp only [eff,slcE]
 cases slcT P t<;>cases optN G fr lo<;>cases optN G fr hi<;>cases optN G fr mx<;>rfl
theorem S_slice {x:Operand} {lo hi mx:Option Operand}  : RUNs P G w0 M0 R ⟨.ops all (⟨dst,.slice t x lo hi mx,ty,p,af,none⟩::l)::k,fr,st,H⟩=OPC P G w0 M0 R ⟨.ops all (⟨dst,.slice t x lo hi mx,ty,p,af,none⟩::l)::k,fr,st,H⟩ (slcE (slcT P t) (optN G fr lo) (optN G fr hi) (optN G fr mx) H (evalO G fr x)) dst all l k fr st H:=by
 rw [S_op];exact OPS_cond E_slice
theorem E_makeInterface {nid:Nat} {x:Operand}  : eff P G fr H nid (.makeInterface t x)=((bif ifcT P t then ifc t (evalO G fr x) else none)).map fun v=>(v,Upd.no):=by
 simp only [eff];cases ifcT P t<;>rfl
theorem S_makeInterface {x:Operand}  : RUNs P G w0 M0 R ⟨.ops all (⟨dst,.makeInterface t x,ty,p,af,none⟩::l)::k,fr,st,H⟩=OPV P G w0 M0 R ⟨.ops all (⟨dst,.makeInterface t x,ty,p,af,none⟩::l)::k,fr,st,H⟩ (bif ifcT P t then ifc t (evalO G fr x) else none) dst all l k fr st H:=by
 rw [S_op];exact OPS_val E_makeInterface
theorem E_makeSlice {nid:Nat} {x y:Operand}  : eff P G fr H nid (.makeSlice t x y)=condR (mkSlE P (tdOf P t) nid (evalO G fr x) (evalO G fr y)):=rfl
theorem S_makeSlice {x y:Operand}  : RUNs P G w0 M0 R ⟨.ops all (⟨dst,.makeSlice t x y,ty,p,af,none⟩::l)::k,fr,st,H⟩=OPC P G w0 M0 R ⟨.ops all (⟨dst,.makeSlice t x y,ty,p,af,none⟩::l)::k,fr,st,H⟩ (mkSlE P (tdOf P t) H.length (evalO G fr x) (evalO G fr y)) dst all l k fr st H:=by
 rw [S_op];exact OPS_cond E_makeSlice
theorem E_makeMap {nid:Nat}  : eff P G fr H nid (.makeMap t none)=condR (mkE P (mapT P t) nid):=by
 simp only [eff,mkE]
 cases mapT P t with
 | none=>rfl
 | some kt=>simp only [Option.bind_some];cases sgT P kt.1<;>rfl
theorem S_makeMap  : RUNs P G w0 M0 R ⟨.ops all (⟨dst,.makeMap t none,ty,p,af,none⟩::l)::k,fr,st,H⟩=OPC P G w0 M0 R ⟨.ops all (⟨dst,.makeMap t none,ty,p,af,none⟩::l)::k,fr,st,H⟩ (mkE P (mapT P t) H.length) dst all l k fr st H:=by
 rw [S_op];exact OPS_cond E_makeMap
theorem E_insert {nid:Nat} {m k2 x:Operand}  : eff P G fr H nid (.insert t m k2 x)=((insE P (mapT P t) H (evalO G fr m) (evalO G fr k2) (evalO G fr x))).map fun u=>(undefV,(⟨u,none⟩:Upd)):=by
 simp only [eff,insE];cases mapT P t<;>rfl
theorem S_insert {m k2 x:Operand}  : RUNs P G w0 M0 R ⟨.ops all (⟨dst,.insert t m k2 x,ty,p,af,none⟩::l)::k,fr,st,H⟩=OPU P G w0 M0 R ⟨.ops all (⟨dst,.insert t m k2 x,ty,p,af,none⟩::l)::k,fr,st,H⟩ (insE P (mapT P t) H (evalO G fr m) (evalO G fr k2) (evalO G fr x)) dst all l k fr st H:=by
 rw [S_op];exact OPS_upd E_insert
theorem E_mapUpdate {nid:Nat} {m k2 x:Operand}  : eff P G fr H nid (.mapUpdate t m k2 x)=((insE P (mapT P t) H (evalO G fr m) (evalO G fr k2) (evalO G fr x))).map fun u=>(undefV,(⟨u,none⟩:Upd)):=by
 simp only [eff,insE];cases mapT P t<;>rfl
theorem S_mapUpdate {m k2 x:Operand}  : RUNs P G w0 M0 R ⟨.ops all (⟨dst,.mapUpdate t m k2 x,ty,p,af,none⟩::l)::k,fr,st,H⟩=OPU P G w0 M0 R ⟨.ops all (⟨dst,.mapUpdate t m k2 x,ty,p,af,none⟩::l)::k,fr,st,H⟩ (insE P (mapT P t) H (evalO G fr m) (evalO G fr k2) (evalO G fr x)) dst all l k fr st H:=by
 rw [S_op];exact OPS_upd E_mapUpdate
theorem E_lookup {nid:Nat} {m k2:Operand} {ok:Bool}  : eff P G fr H nid (.lookup t m k2 ok)=((lkE P (mapT P t) H ok (evalO G fr m) (evalO G fr k2))).map fun v=>(v,Upd.no):=by
 simp only [eff,lkE];cases mapT P t<;>rfl
theorem S_lookup {m k2:Operand} {ok:Bool}  : RUNs P G w0 M0 R ⟨.ops all (⟨dst,.lookup t m k2 ok,ty,p,af,none⟩::l)::k,fr,st,H⟩=OPV P G w0 M0 R ⟨.ops all (⟨dst,.lookup t m k2 ok,ty,p,af,none⟩::l)::k,fr,st,H⟩ (lkE P (mapT P t) H ok (evalO G fr m) (evalO G fr k2)) dst all l k fr st H:=by
 rw [S_op];exact OPS_val E_lookup
end
end
end Go.Ab
