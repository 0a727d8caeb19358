/- The abstract machine: the rules by which 'simp' runs it. -/
import Derived.Test.YtmgphjfpccddiaaGreatDoorW3
set_option linter.unusedVariables false
set_option linter.unusedSimpArgs false
namespace Go.Ab
open Go Go.RowKit

inductive Reach (P : Program) (G : Glob) : Cfg → Cfg → Prop where
  | refl (c : Cfg) (h : step P G c = none) : Reach P G c c
  | head {c c' c'' : Cfg} (h : step P G c = some c') (hr : Reach P G c' c'') : Reach P G c c''
theorem Reach.iff {P : Program} {G : Glob} {c c' d : Cfg} (h : step P G c = some c') : Reach P G c d ↔ Reach P G c' d := by
  constructor
  · intro hr
    cases hr with
    | refl _ hn => rw [h] at hn; cases hn
    | head h1 hr => rw [h] at h1; injection h1 with h1; subst h1; exact hr
  · exact .head h
/-- It runs on, and where it stops all is well. -/
def RUNs (P : Program) (G : Glob) (w0 : World) (M0 : Nat → Nat → Prop) (R : Value → World → Prop) (c : Cfg) : Prop := ∃ d, Reach P G c d ∧ RUN ⟨P, G, w0, M0, R⟩ d

section
variable {P : Program} {G : Glob} {w0 : World} {M0 : Nat → Nat → Prop} {R : Value → World → Prop}
theorem RUN_of_RUNs {c : Cfg} (h : RUNs P G w0 M0 R c) : RUN ⟨P, G, w0, M0, R⟩ c := by
  obtain ⟨d, hr, h⟩ := h
  induction hr with
  | refl => exact h
  | head h1 hr ih => exact step_sound (X := ⟨P, G, w0, M0, R⟩) h1 (ih h)
theorem RUNs_eq {c c' : Cfg} (h : step P G c = some c') : RUNs P G w0 M0 R c = RUNs P G w0 M0 R c' := by
  unfold RUNs
  exact propext ⟨fun ⟨d, h1, h2⟩ => ⟨d, (Reach.iff h).1 h1, h2⟩, fun ⟨d, h1, h2⟩ => ⟨d, (Reach.iff h).2 h1, h2⟩⟩
theorem RUNs_stop {c : Cfg} (hn : step P G c = none) (h : RUN ⟨P, G, w0, M0, R⟩ c) : RUNs P G w0 M0 R c := ⟨c, .refl c hn, h⟩

/-- The operation at hand yields that. -/
def OPS (P : Program) (G : Glob) (w0 : World) (M0 : Nat → Nat → Prop) (R : Value → World → Prop) (c : Cfg) (r : Option (V × Upd)) (dst : Option Tmp) (all l : List Oper) (k : List It) (fr : List V) (st : List (List V)) (H : List AB) : Prop :=
  match r with
  | some r => RUNs P G w0 M0 R ⟨.ops all l :: k, putV fr dst r.1, st, applyU H r.2⟩
  | none => RUNs P G w0 M0 R c
theorem S_op {op : Op} {dst : Option Tmp} {t : TypeId} {p : String} {af : Array Edge} {all l : List Oper} {k : List It} {fr : List V} {st : List (List V)} {H : List AB} :
    RUNs P G w0 M0 R ⟨.ops all (⟨dst, op, t, p, af, none⟩ :: l) :: k, fr, st, H⟩ = OPS P G w0 M0 R ⟨.ops all (⟨dst, op, t, p, af, none⟩ :: l) :: k, fr, st, H⟩ (eff P G fr H H.length op) dst all l k fr st H := by
  unfold OPS
  cases h : eff P G fr H H.length op with
  | none => rfl
  | some r => exact RUNs_eq (by simp only [step, opStep, h, Option.map_some])
def GRD (P : Program) (G : Glob) (w0 : World) (M0 : Nat → Nat → Prop) (R : Value → World → Prop) (c : Cfg) (g : Option Bool) (o : Oper) (all l : List Oper) (k : List It) (fr : List V) (st : List (List V)) (H : List AB) : Prop :=
  match g with
  | some true => RUNs P G w0 M0 R ⟨.ops all ({ o with guard := none } :: l) :: k, fr, st, H⟩
  | some false => RUNs P G w0 M0 R ⟨.ops all l :: k, putV fr o.dst undefV, st, H⟩
  | none => RUNs P G w0 M0 R c
def CONDS (P : Program) (G : Glob) (w0 : World) (M0 : Nat → Nat → Prop) (R : Value → World → Prop) (c : Cfg) (v : V) (x y : Code) (k : List It) (fr : List V) (st : List (List V)) (H : List AB) : Prop :=
  match v with
  | .val (.bool true) => RUNs P G w0 M0 R ⟨.code x :: k, fr, st, H⟩
  | .val (.bool false) => RUNs P G w0 M0 R ⟨.code y :: k, fr, st, H⟩
  | _ => RUNs P G w0 M0 R c

theorem GRD_split {c : Cfg} {b : Bool} {dst : Option Tmp} {op : Op} {t : TypeId} {p : String} {af : Array Edge} {g : Option (Nat × Bool)} {all l : List Oper} {k : List It} {fr : List V} {st : List (List V)} {H : List AB}
    (h1 : b = true → RUNs P G w0 M0 R ⟨.ops all (⟨dst, op, t, p, af, none⟩ :: l) :: k, fr, st, H⟩) (h2 : b = false → RUNs P G w0 M0 R ⟨.ops all l :: k, putV fr dst undefV, st, H⟩) : GRD P G w0 M0 R c (some b) ⟨dst, op, t, p, af, g⟩ all l k fr st H := by
  cases b
  · exact h2 rfl
  · exact h1 rfl
theorem GRD_splitN {c : Cfg} {b : Bool} {dst : Option Tmp} {op : Op} {t : TypeId} {p : String} {af : Array Edge} {g : Option (Nat × Bool)} {all l : List Oper} {k : List It} {fr : List V} {st : List (List V)} {H : List AB}
    (h1 : b = false → RUNs P G w0 M0 R ⟨.ops all (⟨dst, op, t, p, af, none⟩ :: l) :: k, fr, st, H⟩) (h2 : b = true → RUNs P G w0 M0 R ⟨.ops all l :: k, putV fr dst undefV, st, H⟩) : GRD P G w0 M0 R c (some (!b)) ⟨dst, op, t, p, af, g⟩ all l k fr st H := by
  cases b
  · exact h1 rfl
  · exact h2 rfl
theorem CONDS_splitN {c : Cfg} {t : Bool} {x y : Code} {k : List It} {fr : List V} {st : List (List V)} {H : List AB} (h1 : t = false → RUNs P G w0 M0 R ⟨.code x :: k, fr, st, H⟩) (h2 : t = true → RUNs P G w0 M0 R ⟨.code y :: k, fr, st, H⟩) :
    CONDS P G w0 M0 R c (.val (.bool (!t))) x y k fr st H := by
  cases t
  · exact h1 rfl
  · exact h2 rfl
def GRDN (P : Program) (G : Glob) (w0 : World) (M0 : Nat → Nat → Prop) (R : Value → World → Prop) (b : Bool) (o : Oper) (all l : List Oper) (k : List It) (fr : List V) (st : List (List V)) (H : List AB) : Prop :=
  match b with
  | false => RUNs P G w0 M0 R ⟨.ops all ({ o with guard := none } :: l) :: k, fr, st, H⟩
  | true => RUNs P G w0 M0 R ⟨.ops all l :: k, putV fr o.dst undefV, st, H⟩
theorem GRD_not {c : Cfg} {b : Bool} {o : Oper} {all l : List Oper} {k : List It} {fr : List V} {st : List (List V)} {H : List AB} : GRD P G w0 M0 R c (some (!b)) o all l k fr st H = GRDN P G w0 M0 R b o all l k fr st H := by cases b <;> rfl
theorem CONDS_not {c : Cfg} {t : Bool} {x y : Code} {k : List It} {fr : List V} {st : List (List V)} {H : List AB} : CONDS P G w0 M0 R c (.val (.bool (!t))) x y k fr st H = CONDS P G w0 M0 R c (.val (.bool t)) y x k fr st H := by cases t <;> rfl
theorem GRDN_split {b : Bool} {dst : Option Tmp} {op : Op} {t : TypeId} {p : String} {af : Array Edge} {g : Option (Nat × Bool)} {all l : List Oper} {k : List It} {fr : List V} {st : List (List V)} {H : List AB}
    (h1 : b = false → RUNs P G w0 M0 R ⟨.ops all (⟨dst, op, t, p, af, none⟩ :: l) :: k, fr, st, H⟩) (h2 : b = true → RUNs P G w0 M0 R ⟨.ops all l :: k, putV fr dst undefV, st, H⟩) : GRDN P G w0 M0 R b ⟨dst, op, t, p, af, g⟩ all l k fr st H := by
  cases b
  · exact h1 rfl
  · exact h2 rfl
theorem S_seq {a b : Code} {k : List It} {fr : List V} {st : List (List V)} {H : List AB} : RUNs P G w0 M0 R ⟨.code (.seq a b) :: k, fr, st, H⟩ = RUNs P G w0 M0 R ⟨.code a :: .code b :: k, fr, st, H⟩ := RUNs_eq rfl
theorem S_skip {k : List It} {fr : List V} {st : List (List V)} {H : List AB} : RUNs P G w0 M0 R ⟨.code .skip :: k, fr, st, H⟩ = RUNs P G w0 M0 R ⟨k, fr, st, H⟩ := RUNs_eq rfl
theorem S_block {id : Nat} {b : Code} {k : List It} {fr : List V} {st : List (List V)} {H : List AB} : RUNs P G w0 M0 R ⟨.code (.block id b) :: k, fr, st, H⟩ = RUNs P G w0 M0 R ⟨.code b :: .blk id :: k, fr, st, H⟩ := RUNs_eq rfl
theorem S_label {l : Nat} {k : List It} {fr : List V} {st : List (List V)} {H : List AB} : RUNs P G w0 M0 R ⟨.code (.label l) :: k, fr, st, H⟩ = RUNs P G w0 M0 R ⟨k, fr, st, H⟩ := RUNs_eq rfl
theorem S_scope {b : Code} {k : List It} {fr : List V} {st : List (List V)} {H : List AB} : RUNs P G w0 M0 R ⟨.code (.scope b) :: k, fr, st, H⟩ = RUNs P G w0 M0 R ⟨.code b :: k, fr, st, H⟩ := RUNs_eq rfl
theorem S_blk {id : Nat} {k : List It} {fr : List V} {st : List (List V)} {H : List AB} : RUNs P G w0 M0 R ⟨.blk id :: k, fr, st, H⟩ = RUNs P G w0 M0 R ⟨k, fr, st, H⟩ := RUNs_eq rfl
theorem S_region {id : Nat} {ops : List Oper} {k : List It} {fr : List V} {st : List (List V)} {H : List AB} : RUNs P G w0 M0 R ⟨.code (.region id ops.toArray false) :: k, fr, st, H⟩ = RUNs P G w0 M0 R ⟨.ops ops ops :: k, fr, st, H⟩ := RUNs_eq rfl
theorem S_end {all : List Oper} {k : List It} {fr : List V} {st : List (List V)} {H : List AB} : RUNs P G w0 M0 R ⟨.ops all [] :: k, fr, st, H⟩ = RUNs P G w0 M0 R ⟨k, fr, st, H⟩ := RUNs_eq rfl
theorem S_cond {c : Operand} {x y : Code} {k : List It} {fr : List V} {st : List (List V)} {H : List AB} : RUNs P G w0 M0 R ⟨.code (.cond c x y) :: k, fr, st, H⟩ = CONDS P G w0 M0 R ⟨.code (.cond c x y) :: k, fr, st, H⟩ (evalO G fr c) x y k fr st H := by
  unfold CONDS
  split
  · rename_i h; exact RUNs_eq (by simp only [step, h]; rfl)
  · rename_i h; exact RUNs_eq (by simp only [step, h]; rfl)
  · rfl
theorem CONDS_true {c : Cfg} {x y : Code} {k : List It} {fr : List V} {st : List (List V)} {H : List AB} : CONDS P G w0 M0 R c (.val (.bool true)) x y k fr st H = RUNs P G w0 M0 R ⟨.code x :: k, fr, st, H⟩ := rfl
theorem CONDS_false {c : Cfg} {x y : Code} {k : List It} {fr : List V} {st : List (List V)} {H : List AB} : CONDS P G w0 M0 R c (.val (.bool false)) x y k fr st H = RUNs P G w0 M0 R ⟨.code y :: k, fr, st, H⟩ := rfl
theorem CONDS_split {c : Cfg} {t : Bool} {x y : Code} {k : List It} {fr : List V} {st : List (List V)} {H : List AB} (h1 : t = true → RUNs P G w0 M0 R ⟨.code x :: k, fr, st, H⟩) (h2 : t = false → RUNs P G w0 M0 R ⟨.code y :: k, fr, st, H⟩) :
    CONDS P G w0 M0 R c (.val (.bool t)) x y k fr st H := by
  cases t
  · exact h2 rfl
  · exact h1 rfl
def EXITS (P : Program) (G : Glob) (w0 : World) (M0 : Nat → Nat → Prop) (R : Value → World → Prop) (c : Cfg) (r : Option (List It)) (fr : List V) (st : List (List V)) (H : List AB) : Prop :=
  match r with
  | some k => RUNs P G w0 M0 R ⟨k, fr, st, H⟩
  | none => RUNs P G w0 M0 R c
theorem S_exit {id : Nat} {k : List It} {fr : List V} {st : List (List V)} {H : List AB} : RUNs P G w0 M0 R ⟨.code (.exit id) :: k, fr, st, H⟩ = EXITS P G w0 M0 R ⟨.code (.exit id) :: k, fr, st, H⟩ (toBlk id k) fr st H := by
  unfold EXITS
  cases h : toBlk id k with
  | none => rfl
  | some k' => exact RUNs_eq (by simp only [step, h, Option.map_some])
theorem EXITS_some {c : Cfg} {k : List It} {fr : List V} {st : List (List V)} {H : List AB} : EXITS P G w0 M0 R c (some k) fr st H = RUNs P G w0 M0 R ⟨k, fr, st, H⟩ := rfl
def RETS (P : Program) (G : Glob) (w0 : World) (M0 : Nat → Nat → Prop) (R : Value → World → Prop) (c : Cfg) (r : Option (List V)) (dst : Option Tmp) (k : List It) (f : List V) (st : List (List V)) (H : List AB) : Prop :=
  match r with
  | some vs => RUNs P G w0 M0 R ⟨k, putV f dst (resV vs), st, H⟩
  | none => RUNs P G w0 M0 R c
theorem S_retTo {rs : List ResultVar} {dst : Option Tmp} {k : List It} {fr f : List V} {st : List (List V)} {H : List AB} : RUNs P G w0 M0 R ⟨.ret rs dst :: k, fr, f :: st, H⟩ = RETS P G w0 M0 R ⟨.ret rs dst :: k, fr, f :: st, H⟩ (resL P fr H rs) dst k f st H := by
  unfold RETS
  cases h : resL P fr H rs with
  | none => rfl
  | some vs => exact RUNs_eq (by simp only [step, h, Option.map_some])
theorem RETS_some {c : Cfg} {vs : List V} {dst : Option Tmp} {k : List It} {f : List V} {st : List (List V)} {H : List AB} : RETS P G w0 M0 R c (some vs) dst k f st H = RUNs P G w0 M0 R ⟨k, putV f dst (resV vs), st, H⟩ := rfl
theorem S_ret {k : List It} {fr : List V} {st : List (List V)} {H : List AB} : RUNs P G w0 M0 R ⟨.code .ret :: k, fr, st, H⟩ = RUNs P G w0 M0 R ⟨toRet k, fr, st, H⟩ := RUNs_eq rfl
theorem S_guard {op : Op} {dst : Option Tmp} {t : TypeId} {p : String} {af : Array Edge} {jw : Nat × Bool} {all l : List Oper} {k : List It} {fr : List V} {st : List (List V)} {H : List AB} :
    RUNs P G w0 M0 R ⟨.ops all (⟨dst, op, t, p, af, some jw⟩ :: l) :: k, fr, st, H⟩ = GRD P G w0 M0 R ⟨.ops all (⟨dst, op, t, p, af, some jw⟩ :: l) :: k, fr, st, H⟩ (guardV all fr ⟨dst, op, t, p, af, some jw⟩) ⟨dst, op, t, p, af, some jw⟩ all l k fr st H := by
  unfold GRD
  split
  · rename_i h; exact RUNs_eq (by simp only [step, opStep, h])
  · rename_i h; exact RUNs_eq (by simp only [step, opStep, h])
  · rfl

def OPV (P : Program) (G : Glob) (w0 : World) (M0 : Nat → Nat → Prop) (R : Value → World → Prop) (c : Cfg) (r : Option V) (dst : Option Tmp) (all l : List Oper) (k : List It) (fr : List V) (st : List (List V)) (H : List AB) : Prop :=
  match r with
  | some v => RUNs P G w0 M0 R ⟨.ops all l :: k, putV fr dst v, st, H⟩
  | none => RUNs P G w0 M0 R c
def OPN (P : Program) (G : Glob) (w0 : World) (M0 : Nat → Nat → Prop) (R : Value → World → Prop) (c : Cfg) (r : Option AB) (dst : Option Tmp) (all l : List Oper) (k : List It) (fr : List V) (st : List (List V)) (H : List AB) : Prop :=
  match r with
  | some b => RUNs P G w0 M0 R ⟨.ops all l :: k, putV fr dst (.ptr H.length 0), st, H ++ [b]⟩
  | none => RUNs P G w0 M0 R c
def OPU (P : Program) (G : Glob) (w0 : World) (M0 : Nat → Nat → Prop) (R : Value → World → Prop) (c : Cfg) (r : Option (List (Nat × AB))) (dst : Option Tmp) (all l : List Oper) (k : List It) (fr : List V) (st : List (List V)) (H : List AB) : Prop :=
  match r with
  | some u => RUNs P G w0 M0 R ⟨.ops all l :: k, putV fr dst undefV, st, setH H u⟩
  | none => RUNs P G w0 M0 R c
theorem OPS_val {c : Cfg} {r : Option V} {r' : Option (V × Upd)} (h : r' = r.map fun v => (v, Upd.no)) {dst : Option Tmp} {all l : List Oper} {k : List It} {fr : List V} {st : List (List V)} {H : List AB} : OPS P G w0 M0 R c r' dst all l k fr st H = OPV P G w0 M0 R c r dst all l k fr st H := by
  subst h; cases r <;> rfl
theorem OPS_new {c : Cfg} {r : Option AB} {r' : Option (V × Upd)} {dst : Option Tmp} {all l : List Oper} {k : List It} {fr : List V} {st : List (List V)} {H : List AB} (h : r' = r.map fun b => (.ptr H.length 0, ⟨[], some b⟩)) : OPS P G w0 M0 R c r' dst all l k fr st H = OPN P G w0 M0 R c r dst all l k fr st H := by
  subst h; cases r <;> rfl
theorem OPS_upd {c : Cfg} {r : Option (List (Nat × AB))} {r' : Option (V × Upd)} {dst : Option Tmp} {all l : List Oper} {k : List It} {fr : List V} {st : List (List V)} {H : List AB} (h : r' = r.map fun u => (undefV, ⟨u, none⟩)) : OPS P G w0 M0 R c r' dst all l k fr st H = OPU P G w0 M0 R c r dst all l k fr st H := by
  subst h; cases r <;> rfl

def appE : Option Nat → Option (List V) → List AB → Nat → V → Option (Bool × V × Upd)
  | some esz, some xs, H, nid, v => appR H nid esz xs v
  | _, _, _, _, _ => none
def slcE : Option Nat → Option (Option Nat) → Option (Option Nat) → Option (Option Nat) → List AB → V → Option (Bool × V × Upd)
  | some esz, some lo, some hi, some mx, H, v => slcR H esz lo hi mx v
  | _, _, _, _, _, _ => none
def mkE (P : Program) (kt : Option (TypeId × TypeId)) (nid : Nat) : Option (Bool × V × Upd) := match kt with
  | some kt => match sgT P kt.1 with
    | some sg => some (true, .mp nid, ⟨[], some (.map false sg noF)⟩)
    | none => none
  | none => none
def insE (P : Program) (kt : Option (TypeId × TypeId)) (H : List AB) (m k x : V) : Option (List (Nat × AB)) := match kt with
  | some kt => insR P H kt.1 m k x
  | none => none
def lkE (P : Program) (kt : Option (TypeId × TypeId)) (H : List AB) (ok : Bool) (m k : V) : Option V := match kt with
  | some kt => lkR P H kt.1 kt.2 ok m k
  | none => none
def OPC (P : Program) (G : Glob) (w0 : World) (M0 : Nat → Nat → Prop) (R : Value → World → Prop) (c : Cfg) (r : Option (Bool × V × Upd)) (dst : Option Tmp) (all l : List Oper) (k : List It) (fr : List V) (st : List (List V)) (H : List AB) : Prop :=
  match r with
  | some (true, v, u) => RUNs P G w0 M0 R ⟨.ops all l :: k, putV fr dst v, st, applyU H u⟩
  | _ => RUNs P G w0 M0 R c
theorem OPS_cond {c : Cfg} {r : Option (Bool × V × Upd)} {r' : Option (V × Upd)} {dst : Option Tmp} {all l : List Oper} {k : List It} {fr : List V} {st : List (List V)} {H : List AB} (h : r' = condR r) : OPS P G w0 M0 R c r' dst all l k fr st H = OPC P G w0 M0 R c r dst all l k fr st H := by
  subst h
  cases r with
  | none => rfl
  | some q => obtain ⟨b, v, u⟩ := q; cases b <;> rfl
theorem OPC_ok {c : Cfg} {p : Bool} {v : V} {u : Upd} {dst : Option Tmp} {all l : List Oper} {k : List It} {fr : List V} {st : List (List V)} {H : List AB} (hp : p = true) (h : RUNs P G w0 M0 R ⟨.ops all l :: k, putV fr dst v, st, applyU H u⟩) :
    OPC P G w0 M0 R c (some (p, v, u)) dst all l k fr st H := by subst hp; exact h

/-! What each operation yields, in a form that 'simp' reckons. -/
def pickE : V → V → V → Option V
  | .val (.bool t), x, y => some (bif t then x else y)
  | _, _, _ => none
def allocE : Option TD → Option AB
  | some d => some (.var d.zero)
  | none => none
def boxE : V → Option AB
  | .any => none
  | .tup _ => none
  | v => some (.var v.cells)
def loadE (d : Option TD) (H : List AB) (v : V) : Option V := match d with
  | some d => loadV H d v
  | none => none
def storeE (d : Option TD) (H : List AB) (x a : V) : Option (List (Nat × AB)) := match d with
  | some d => if x.cells.length = d.size ∧ x.cells.all oneV then (storeV H x.cells a).map (·.sets) else none
  | none => none
def nilCheckE : V → Option V
  | .ptr i o => some (.ptr i o)
  | .cp cs => some (.cp cs)
  | .iface t v => some (.iface t v)
  | .fn (.func f) a b => some (.fn (.func f) a b)
  | _ => none
def faE (d : Option TD) (H : List AB) (f : Nat) (x : V) : Option V := match d with
  | some d => match d.sh with
    | .struct fs => (fs[f]?).bind fun fd => if fd.2.1 = 0 then none else fieldAddrV H fd x
    | _ => none
  | none => none
def fieldE (d : Option TD) (f : Nat) (x : V) : Option V := match d with
  | some d => match d.sh, x with
    | .struct fs, .agg cs => (fs[f]?).bind fun fd => partV fd.2.2 fd.2.1 (cs.drop fd.1)
    | _, _ => none
  | none => none
def iaE (d : Option TD) (H : List AB) (x ix : V) : Option V := match d with
  | some d => match ix with
    | .val (.int _ n) => (idxN n).bind fun n => indexAddrV H d.sh n x
    | _ => none
  | none => none
def indexE (d : Option TD) (x ix : V) : Option V := match d with
  | some d => match d.sh, x, ix with
    | .array k esz ea, .agg cs, .val (.int _ n) => (idxN n).bind fun n => if n < k then partV ea esz (cs.drop (n * esz)) else none
    | _, _, _ => none
  | none => none
def unE (op : UnOp) (x : V) : Option V := match op, x with
  | .not, .val (.bool b) => some (.bool (!b))
  | .neg, .val (.int k n) => some (.int k (k.wrap (0 - n)))
  | _, _ => none
def convE (ds d : Option TD) (x : V) : Option V := match ds, d with
  | some ds, some d => match ds.sh, d.sh, x with
    | .int _, .int k, .val (.int _ n) => some (.int k (k.wrap n))
    | _, _, _ => none
  | _, _ => none
def extractE (x : V) (i : Nat) : Option V := match x with
  | .tup vs => vs[i]?
  | _ => none
def buildE (d : Option TD) (ps : List (Nat × V)) : Option V := match d with
  | some d => match d.sh with
    | .struct fs => (buildV fs d.zero ps).map .agg
    | .array k esz ea => (buildV (arrFs k 0 esz ea) d.zero ps).map .agg
    | _ => none
  | none => none
def buildSliceE (P : Program) (H : List AB) (nid : Nat) (d : Option TD) (n : Nat) (ps : List (Nat × V)) : Option (Bool × V × Upd) := match d with
  | some d => match d.sh with
    | .slice e esz _ => (inOrder 0 ps).bind fun vs => bsR H nid esz n (tdOf P e).isSome vs (fzL (immL H (rowsInL vs)) vs)
    | _ => none
  | none => none
def lenE (d : Option TD) (H : List AB) (x : V) : Option V := match d with
  | some d => (lenV H d.sh x).map (·.1)
  | none => none

section
variable {dst : Option Tmp} {t ty : TypeId} {p : String} {af : Array Edge} {all l : List Oper} {k : List It} {fr : List V} {st : List (List V)} {H : List AB}
theorem S_move {x : Operand} : RUNs P G w0 M0 R ⟨.ops all (⟨dst, .move x, ty, p, af, none⟩ :: l) :: k, fr, st, H⟩ = RUNs P G w0 M0 R ⟨.ops all l :: k, putV fr dst (evalO G fr x), st, H⟩ := RUNs_eq rfl
theorem S_assign {x : Operand} : RUNs P G w0 M0 R ⟨.ops all (⟨dst, .assign x, ty, p, af, none⟩ :: l) :: k, fr, st, H⟩ = RUNs P G w0 M0 R ⟨.ops all l :: k, putV fr dst (evalO G fr x), st, H⟩ := RUNs_eq rfl
theorem E_pick {nid : Nat} {c x y : Operand}  : eff P G fr H nid (.pick c x y) = ((pickE (evalO G fr c) (evalO G fr x) (evalO G fr y))).map fun v => (v, Upd.no) := by
  simp only [eff]; generalize evalO G fr c = v; cases v <;> first | rfl | (rename_i w; cases w <;> rfl)
theorem S_pick {c x y : Operand}  : RUNs P G w0 M0 R ⟨.ops all (⟨dst, .pick c x y, ty, p, af, none⟩ :: l) :: k, fr, st, H⟩ = OPV P G w0 M0 R ⟨.ops all (⟨dst, .pick c x y, ty, p, af, none⟩ :: l) :: k, fr, st, H⟩ (pickE (evalO G fr c) (evalO G fr x) (evalO G fr y)) dst all l k fr st H := by
  rw [S_op]; exact OPS_val E_pick
theorem E_alloc {nid : Nat}  : eff P G fr H nid (.alloc t) = ((allocE (tdOf P t))).map fun b => (V.ptr nid 0, (⟨[], some b⟩ : Upd)) := by
  cases h : tdOf P t <;> simp only [eff, allocE, h] <;> rfl
theorem S_alloc  : RUNs P G w0 M0 R ⟨.ops all (⟨dst, .alloc t, ty, p, af, none⟩ :: l) :: k, fr, st, H⟩ = OPN P G w0 M0 R ⟨.ops all (⟨dst, .alloc t, ty, p, af, none⟩ :: l) :: k, fr, st, H⟩ (allocE (tdOf P t)) dst all l k fr st H := by
  rw [S_op]; exact OPS_new E_alloc
theorem E_box {nid : Nat} {x : Operand}  : eff P G fr H nid (.box t x) = ((boxE (evalO G fr x))).map fun b => (V.ptr nid 0, (⟨[], some b⟩ : Upd)) := by
  simp only [eff]; generalize evalO G fr x = v; cases v <;> rfl
theorem S_box {x : Operand}  : RUNs P G w0 M0 R ⟨.ops all (⟨dst, .box t x, ty, p, af, none⟩ :: l) :: k, fr, st, H⟩ = OPN P G w0 M0 R ⟨.ops all (⟨dst, .box t x, ty, p, af, none⟩ :: l) :: k, fr, st, H⟩ (boxE (evalO G fr x)) dst all l k fr st H := by
  rw [S_op]; exact OPS_new E_box
theorem E_load {nid : Nat} {x : Operand}  : eff P G fr H nid (.load t x) = ((loadE (tdOf P t) H (evalO G fr x))).map fun v => (v, Upd.no) := by
  cases h : tdOf P t <;> simp only [eff, loadE, h] <;> rfl
theorem S_load {x : Operand}  : RUNs P G w0 M0 R ⟨.ops all (⟨dst, .load t x, ty, p, af, none⟩ :: l) :: k, fr, st, H⟩ = OPV P G w0 M0 R ⟨.ops all (⟨dst, .load t x, ty, p, af, none⟩ :: l) :: k, fr, st, H⟩ (loadE (tdOf P t) H (evalO G fr x)) dst all l k fr st H := by
  rw [S_op]; exact OPS_val E_load
theorem E_store {nid : Nat} {a x : Operand}  : eff P G fr H nid (.store t a x) = ((storeE (tdOf P t) H (evalO G fr x) (evalO G fr a))).map fun u => (undefV, (⟨u, none⟩ : Upd)) := by
  cases h : tdOf P t <;> simp only [eff, storeE, h, Option.bind_none, Option.bind_some, Option.map_none]
  split
  · have hn : ∀ {H : List AB} {xs : List V} {v : V} {u : Upd}, storeV H xs v = some u → u.new = none := by
      intro H xs v u hu
      cases v <;> simp only [storeV] at hu <;> try (cases hu; done)
      · split at hu
        · simp only [Option.map_eq_some_iff] at hu; obtain ⟨_, _, rfl⟩ := hu; rfl
        · cases hu
      · split at hu
        · split at hu
          · simp only [Option.bind_eq_some_iff] at hu
            obtain ⟨_, _, _, _, _, _, hu⟩ := hu
            split at hu <;> first | (injection hu with hu; subst hu; rfl) | (cases hu; done)
          · cases hu
        · cases hu
    cases hs : storeV H (evalO G fr x).cells (evalO G fr a) with
    | none => rfl
    | some u => have := hn hs; obtain ⟨s, n⟩ := u; simp only at this; subst this; rfl
  · rfl
theorem S_store {a x : Operand}  : RUNs P G w0 M0 R ⟨.ops all (⟨dst, .store t a x, ty, p, af, none⟩ :: l) :: k, fr, st, H⟩ = OPU P G w0 M0 R ⟨.ops all (⟨dst, .store t a x, ty, p, af, none⟩ :: l) :: k, fr, st, H⟩ (storeE (tdOf P t) H (evalO G fr x) (evalO G fr a)) dst all l k fr st H := by
  rw [S_op]; exact OPS_upd E_store
theorem E_nilCheck {nid : Nat} {x : Operand}  : eff P G fr H nid (.nilCheck x) = ((nilCheckE (evalO G fr x))).map fun v => (v, Upd.no) := by
  simp only [eff]; generalize evalO G fr x = v; cases v <;> first | rfl | (rename_i f _ _; cases f <;> rfl)
theorem S_nilCheck {x : Operand}  : RUNs P G w0 M0 R ⟨.ops all (⟨dst, .nilCheck x, ty, p, af, none⟩ :: l) :: k, fr, st, H⟩ = OPV P G w0 M0 R ⟨.ops all (⟨dst, .nilCheck x, ty, p, af, none⟩ :: l) :: k, fr, st, H⟩ (nilCheckE (evalO G fr x)) dst all l k fr st H := by
  rw [S_op]; exact OPS_val E_nilCheck
theorem E_fieldAddr {nid : Nat} {x : Operand} {f : Nat}  : eff P G fr H nid (.fieldAddr t x f) = ((faE (tdOf P t) H f (evalO G fr x))).map fun v => (v, Upd.no) := by
  cases h : tdOf P t with
  | none => simp only [eff, faE, h]; rfl
  | some d =>
    simp only [eff, faE, h, Option.bind_some]
    cases d.sh with
    | struct fs =>
      simp only
      cases fs[f]? with
      | none => rfl
      | some fd => simp only [Option.bind_some]; split <;> rfl
    | _ => rfl
theorem S_fieldAddr {x : Operand} {f : Nat}  : RUNs P G w0 M0 R ⟨.ops all (⟨dst, .fieldAddr t x f, ty, p, af, none⟩ :: l) :: k, fr, st, H⟩ = OPV P G w0 M0 R ⟨.ops all (⟨dst, .fieldAddr t x f, ty, p, af, none⟩ :: l) :: k, fr, st, H⟩ (faE (tdOf P t) H f (evalO G fr x)) dst all l k fr st H := by
  rw [S_op]; exact OPS_val E_fieldAddr
theorem E_field {nid : Nat} {x : Operand} {f : Nat}  : eff P G fr H nid (.field t x f) = ((fieldE (tdOf P t) f (evalO G fr x))).map fun v => (v, Upd.no) := by
  cases h : tdOf P t with
  | none => simp only [eff, fieldE, h]; rfl
  | some d =>
    simp only [eff, fieldE, h, Option.bind_some]
    generalize evalO G fr x = v
    cases d.sh with
    | struct fs =>
      cases v with
      | agg cs =>
        simp only
        cases fs[f]? <;> rfl
      | _ => rfl
    | _ => cases v <;> rfl
theorem S_field {x : Operand} {f : Nat}  : RUNs P G w0 M0 R ⟨.ops all (⟨dst, .field t x f, ty, p, af, none⟩ :: l) :: k, fr, st, H⟩ = OPV P G w0 M0 R ⟨.ops all (⟨dst, .field t x f, ty, p, af, none⟩ :: l) :: k, fr, st, H⟩ (fieldE (tdOf P t) f (evalO G fr x)) dst all l k fr st H := by
  rw [S_op]; exact OPS_val E_field
theorem E_indexAddr {nid : Nat} {x ix : Operand}  : eff P G fr H nid (.indexAddr t x ix) = ((iaE (tdOf P t) H (evalO G fr x) (evalO G fr ix))).map fun v => (v, Upd.no) := by
  cases h : tdOf P t with
  | none => simp only [eff, iaE, h]; rfl
  | some d =>
    simp only [eff, iaE, h, Option.bind_some]
    generalize evalO G fr ix = v
    cases v with
    | val w =>
      cases w with
      | int kk n => simp only; cases idxN n <;> rfl
      | _ => rfl
    | _ => rfl
theorem S_indexAddr {x ix : Operand}  : RUNs P G w0 M0 R ⟨.ops all (⟨dst, .indexAddr t x ix, ty, p, af, none⟩ :: l) :: k, fr, st, H⟩ = OPV P G w0 M0 R ⟨.ops all (⟨dst, .indexAddr t x ix, ty, p, af, none⟩ :: l) :: k, fr, st, H⟩ (iaE (tdOf P t) H (evalO G fr x) (evalO G fr ix)) dst all l k fr st H := by
  rw [S_op]; exact OPS_val E_indexAddr
theorem E_index {nid : Nat} {x ix : Operand}  : eff P G fr H nid (.index t x ix) = ((indexE (tdOf P t) (evalO G fr x) (evalO G fr ix))).map fun v => (v, Upd.no) := by
  cases h : tdOf P t with
  | none => simp only [eff, indexE, h]; rfl
  | some d =>
    simp only [eff, indexE, h, Option.bind_some]
    generalize evalO G fr ix = v
    generalize evalO G fr x = u
    cases d.sh with
    | array kk esz ea =>
      cases u with
      | agg cs =>
        cases v with
        | val w =>
          cases w with
          | int kk n =>
            simp only
            cases idxN n with
            | none => rfl
            | some j => simp only [Option.bind_some]; split <;> rfl
          | _ => rfl
        | _ => rfl
      | _ => rfl
    | _ => rfl
theorem S_index {x ix : Operand}  : RUNs P G w0 M0 R ⟨.ops all (⟨dst, .index t x ix, ty, p, af, none⟩ :: l) :: k, fr, st, H⟩ = OPV P G w0 M0 R ⟨.ops all (⟨dst, .index t x ix, ty, p, af, none⟩ :: l) :: k, fr, st, H⟩ (indexE (tdOf P t) (evalO G fr x) (evalO G fr ix)) dst all l k fr st H := by
  rw [S_op]; exact OPS_val E_index
theorem E_binOp {nid : Nat} {op : BinOp} {x y : Operand} {t2 : TypeId}  : eff P G fr H nid (.binOp op t x y t2) = ((binV P op t (evalO G fr x) (evalO G fr y))).map fun v => (v, Upd.no) := by
  rfl
theorem S_binOp {op : BinOp} {x y : Operand} {t2 : TypeId}  : RUNs P G w0 M0 R ⟨.ops all (⟨dst, .binOp op t x y t2, ty, p, af, none⟩ :: l) :: k, fr, st, H⟩ = OPV P G w0 M0 R ⟨.ops all (⟨dst, .binOp op t x y t2, ty, p, af, none⟩ :: l) :: k, fr, st, H⟩ (binV P op t (evalO G fr x) (evalO G fr y)) dst all l k fr st H := by
  rw [S_op]; exact OPS_val E_binOp
theorem E_unOp {nid : Nat} {op : UnOp} {x : Operand}  : eff P G fr H nid (.unOp op t x) = ((unE op (evalO G fr x))).map fun v => (v, Upd.no) := by
  simp only [eff]; generalize evalO G fr x = v; cases op <;> cases v <;> first | rfl | (rename_i w; cases w <;> rfl)
theorem S_unOp {op : UnOp} {x : Operand}  : RUNs P G w0 M0 R ⟨.ops all (⟨dst, .unOp op t x, ty, p, af, none⟩ :: l) :: k, fr, st, H⟩ = OPV P G w0 M0 R ⟨.ops all (⟨dst, .unOp op t x, ty, p, af, none⟩ :: l) :: k, fr, st, H⟩ (unE op (evalO G fr x)) dst all l k fr st H := by
  rw [S_op]; exact OPS_val E_unOp
theorem E_convert {nid : Nat} {s : TypeId} {x : Operand}  : eff P G fr H nid (.convert s t x) = ((convE (tdOf P s) (tdOf P t) (evalO G fr x))).map fun v => (v, Upd.no) := by
  cases h : tdOf P s with
  | none => simp only [eff, convE, h]; rfl
  | some ds =>
    cases h2 : tdOf P t with
    | none => simp only [eff, convE, h, h2]; rfl
    | some d =>
      simp only [eff, convE, h, h2, Option.bind_some]
      generalize evalO G fr x = v
      cases ds.sh <;> cases d.sh <;> cases v <;> first | rfl | (rename_i w; cases w <;> rfl)
theorem S_convert {s : TypeId} {x : Operand}  : RUNs P G w0 M0 R ⟨.ops all (⟨dst, .convert s t x, ty, p, af, none⟩ :: l) :: k, fr, st, H⟩ = OPV P G w0 M0 R ⟨.ops all (⟨dst, .convert s t x, ty, p, af, none⟩ :: l) :: k, fr, st, H⟩ (convE (tdOf P s) (tdOf P t) (evalO G fr x)) dst all l k fr st H := by
  rw [S_op]; exact OPS_val E_convert
theorem E_makeFunc {nid : Nat} {f : Fn} {a b : Array Operand}  : eff P G fr H nid (.makeFunc f a b) = ((some (.fn f (a.toList.map (evalO G fr)) (b.toList.map (evalO G fr))))).map fun v => (v, Upd.no) := by
  rfl
theorem S_makeFunc {f : Fn} {a b : Array Operand}  : RUNs P G w0 M0 R ⟨.ops all (⟨dst, .makeFunc f a b, ty, p, af, none⟩ :: l) :: k, fr, st, H⟩ = OPV P G w0 M0 R ⟨.ops all (⟨dst, .makeFunc f a b, ty, p, af, none⟩ :: l) :: k, fr, st, H⟩ (some (.fn f (a.toList.map (evalO G fr)) (b.toList.map (evalO G fr)))) dst all l k fr st H := by
  rw [S_op]; exact OPS_val E_makeFunc
theorem E_extract {nid : Nat} {x : Operand} {i : Nat}  : eff P G fr H nid (.extract x i) = ((extractE (evalO G fr x) i)).map fun v => (v, Upd.no) := by
  simp only [eff]; generalize evalO G fr x = v; cases v <;> rfl
theorem S_extract {x : Operand} {i : Nat}  : RUNs P G w0 M0 R ⟨.ops all (⟨dst, .extract x i, ty, p, af, none⟩ :: l) :: k, fr, st, H⟩ = OPV P G w0 M0 R ⟨.ops all (⟨dst, .extract x i, ty, p, af, none⟩ :: l) :: k, fr, st, H⟩ (extractE (evalO G fr x) i) dst all l k fr st H := by
  rw [S_op]; exact OPS_val E_extract
theorem E_build {nid : Nat} {ps : Array (Nat × Operand)}  : eff P G fr H nid (.build t ps) = ((buildE (tdOf P t) (ps.toList.map fun p => (p.1, evalO G fr p.2)))).map fun v => (v, Upd.no) := by
  cases h : tdOf P t with
  | none => simp only [eff, buildE, h]; rfl
  | some d =>
    simp only [eff, buildE, h, Option.bind_some]
    cases d.sh with
    | struct fs => simp only; cases buildV fs d.zero (ps.toList.map fun p => (p.1, evalO G fr p.2)) <;> rfl
    | array k esz ea => simp only; cases buildV (arrFs k 0 esz ea) d.zero (ps.toList.map fun p => (p.1, evalO G fr p.2)) <;> rfl
    | _ => rfl
theorem S_build {ps : Array (Nat × Operand)}  : RUNs P G w0 M0 R ⟨.ops all (⟨dst, .build t ps, ty, p, af, none⟩ :: l) :: k, fr, st, H⟩ = OPV P G w0 M0 R ⟨.ops all (⟨dst, .build t ps, ty, p, af, none⟩ :: l) :: k, fr, st, H⟩ (buildE (tdOf P t) (ps.toList.map fun p => (p.1, evalO G fr p.2))) dst all l k fr st H := by
  rw [S_op]; exact OPS_val E_build
theorem E_buildSlice {nid : Nat} {n : Nat} {ps : Array (Nat × Operand)} : eff P G fr H nid (.buildSlice t n ps) = condR (buildSliceE P H nid (tdOf P t) n (ps.toList.map fun p => (p.1, evalO G fr p.2))) := by
  cases h : tdOf P t with
  | none => simp only [eff, buildSliceE, h]; rfl
  | some d =>
    simp only [eff, buildSliceE, h, Option.bind_some]
    cases d.sh with
    | slice e esz by_ =>
      simp only
      cases inOrder 0 (ps.toList.map fun p => (p.1, evalO G fr p.2)) <;> rfl
    | _ => rfl
theorem S_buildSlice {n : Nat} {ps : Array (Nat × Operand)} : RUNs P G w0 M0 R ⟨.ops all (⟨dst, .buildSlice t n ps, ty, p, af, none⟩ :: l) :: k, fr, st, H⟩ = OPC P G w0 M0 R ⟨.ops all (⟨dst, .buildSlice t n ps, ty, p, af, none⟩ :: l) :: k, fr, st, H⟩ (buildSliceE P H H.length (tdOf P t) n (ps.toList.map fun p => (p.1, evalO G fr p.2))) dst all l k fr st H := by
  rw [S_op]; exact OPS_cond E_buildSlice
theorem E_len {nid : Nat} {x : Operand}  : eff P G fr H nid (.call ⟨.builtin .len, #[x], #[t]⟩) = ((lenE (tdOf P t) H (evalO G fr x))).map fun v => (v, Upd.no) := by
  have hn : ∀ {H : List AB} {sh : Sh} {v : V} {r : V × Upd}, lenV H sh v = some r → r.2 = .no := by
    intro H sh v r hu
    cases v <;> simp only [lenV] at hu <;> try (cases hu; done)
    · rename_i w; cases w <;> simp only [lenV] at hu <;> try (cases hu; done)
      split at hu <;> first | (injection hu with hu; subst hu; rfl) | (cases hu; done)
    · split at hu <;> first | (injection hu with hu; subst hu; rfl) | (cases hu; done)
    · split at hu
      · split at hu <;> first | (injection hu with hu; subst hu; rfl) | (cases hu; done)
      · cases hu
    · split at hu <;> first | (injection hu with hu; subst hu; rfl) | (cases hu; done)
  simp only [eff, lenE]
  cases tdOf P t with
  | none => rfl
  | some d =>
    simp only
    cases hs : lenV H d.sh (evalO G fr x) with
    | none => rfl
    | some r => have := hn hs; obtain ⟨v, u⟩ := r; simp only at this; subst this; rfl
theorem S_len {x : Operand}  : RUNs P G w0 M0 R ⟨.ops all (⟨dst, .call ⟨.builtin .len, #[x], #[t]⟩, ty, p, af, none⟩ :: l) :: k, fr, st, H⟩ = OPV P G w0 M0 R ⟨.ops all (⟨dst, .call ⟨.builtin .len, #[x], #[t]⟩, ty, p, af, none⟩ :: l) :: k, fr, st, H⟩ (lenE (tdOf P t) H (evalO G fr x)) dst all l k fr st H := by
  rw [S_op]; exact OPS_val E_len
theorem E_append {nid : Nat} {x y : Operand} {tx : TypeId}  : eff P G fr H nid (.call ⟨.builtin .append, #[x, y], #[t, tx]⟩) = condR ((appE (appT P t tx) (srcV H (evalO G fr y)) H nid (evalO G fr x))) := by
  simp only [eff, appE]
  cases appT P t tx <;> cases srcV H (evalO G fr y) <;> rfl
theorem S_append {x y : Operand} {tx : TypeId}  : RUNs P G w0 M0 R ⟨.ops all (⟨dst, .call ⟨.builtin .append, #[x, y], #[t, tx]⟩, ty, p, af, none⟩ :: l) :: k, fr, st, H⟩ = OPC P G w0 M0 R ⟨.ops all (⟨dst, .call ⟨.builtin .append, #[x, y], #[t, tx]⟩, ty, p, af, none⟩ :: l) :: k, fr, st, H⟩ (appE (appT P t tx) (srcV H (evalO G fr y)) H H.length (evalO G fr x)) dst all l k fr st H := by
  rw [S_op]; exact OPS_cond E_append
theorem E_slice {nid : Nat} {x : Operand} {lo hi mx : Option Operand}  : eff P G fr H nid (.slice t x lo hi mx) = condR ((slcE (slcT P t) (optN G fr lo) (optN G fr hi) (optN G fr mx) H (evalO G fr x))) := by
  simp only [eff, slcE]
  cases slcT P t <;> cases optN G fr lo <;> cases optN G fr hi <;> cases optN G fr mx <;> rfl
theorem S_slice {x : Operand} {lo hi mx : Option Operand}  : RUNs P G w0 M0 R ⟨.ops all (⟨dst, .slice t x lo hi mx, ty, p, af, none⟩ :: l) :: k, fr, st, H⟩ = OPC P G w0 M0 R ⟨.ops all (⟨dst, .slice t x lo hi mx, ty, p, af, none⟩ :: l) :: k, fr, st, H⟩ (slcE (slcT P t) (optN G fr lo) (optN G fr hi) (optN G fr mx) H (evalO G fr x)) dst all l k fr st H := by
  rw [S_op]; exact OPS_cond E_slice
theorem E_makeInterface {nid : Nat} {x : Operand}  : eff P G fr H nid (.makeInterface t x) = ((bif ifcT P t then ifc t (evalO G fr x) else none)).map fun v => (v, Upd.no) := by
  simp only [eff]; cases ifcT P t <;> rfl
theorem S_makeInterface {x : Operand}  : RUNs P G w0 M0 R ⟨.ops all (⟨dst, .makeInterface t x, ty, p, af, none⟩ :: l) :: k, fr, st, H⟩ = OPV P G w0 M0 R ⟨.ops all (⟨dst, .makeInterface t x, ty, p, af, none⟩ :: l) :: k, fr, st, H⟩ (bif ifcT P t then ifc t (evalO G fr x) else none) dst all l k fr st H := by
  rw [S_op]; exact OPS_val E_makeInterface
theorem E_makeMap {nid : Nat}  : eff P G fr H nid (.makeMap t none) = condR (mkE P (mapT P t) nid) := by
  simp only [eff, mkE]
  cases mapT P t with
  | none => rfl
  | some kt => simp only [Option.bind_some]; cases sgT P kt.1 <;> rfl
theorem S_makeMap  : RUNs P G w0 M0 R ⟨.ops all (⟨dst, .makeMap t none, ty, p, af, none⟩ :: l) :: k, fr, st, H⟩ = OPC P G w0 M0 R ⟨.ops all (⟨dst, .makeMap t none, ty, p, af, none⟩ :: l) :: k, fr, st, H⟩ (mkE P (mapT P t) H.length) dst all l k fr st H := by
  rw [S_op]; exact OPS_cond E_makeMap
theorem E_insert {nid : Nat} {m k2 x : Operand}  : eff P G fr H nid (.insert t m k2 x) = ((insE P (mapT P t) H (evalO G fr m) (evalO G fr k2) (evalO G fr x))).map fun u => (undefV, (⟨u, none⟩ : Upd)) := by
  simp only [eff, insE]; cases mapT P t <;> rfl
theorem S_insert {m k2 x : Operand}  : RUNs P G w0 M0 R ⟨.ops all (⟨dst, .insert t m k2 x, ty, p, af, none⟩ :: l) :: k, fr, st, H⟩ = OPU P G w0 M0 R ⟨.ops all (⟨dst, .insert t m k2 x, ty, p, af, none⟩ :: l) :: k, fr, st, H⟩ (insE P (mapT P t) H (evalO G fr m) (evalO G fr k2) (evalO G fr x)) dst all l k fr st H := by
  rw [S_op]; exact OPS_upd E_insert
theorem E_mapUpdate {nid : Nat} {m k2 x : Operand}  : eff P G fr H nid (.mapUpdate t m k2 x) = ((insE P (mapT P t) H (evalO G fr m) (evalO G fr k2) (evalO G fr x))).map fun u => (undefV, (⟨u, none⟩ : Upd)) := by
  simp only [eff, insE]; cases mapT P t <;> rfl
theorem S_mapUpdate {m k2 x : Operand}  : RUNs P G w0 M0 R ⟨.ops all (⟨dst, .mapUpdate t m k2 x, ty, p, af, none⟩ :: l) :: k, fr, st, H⟩ = OPU P G w0 M0 R ⟨.ops all (⟨dst, .mapUpdate t m k2 x, ty, p, af, none⟩ :: l) :: k, fr, st, H⟩ (insE P (mapT P t) H (evalO G fr m) (evalO G fr k2) (evalO G fr x)) dst all l k fr st H := by
  rw [S_op]; exact OPS_upd E_mapUpdate
theorem E_lookup {nid : Nat} {m k2 : Operand} {ok : Bool}  : eff P G fr H nid (.lookup t m k2 ok) = ((lkE P (mapT P t) H ok (evalO G fr m) (evalO G fr k2))).map fun v => (v, Upd.no) := by
  simp only [eff, lkE]; cases mapT P t <;> rfl
theorem S_lookup {m k2 : Operand} {ok : Bool}  : RUNs P G w0 M0 R ⟨.ops all (⟨dst, .lookup t m k2 ok, ty, p, af, none⟩ :: l) :: k, fr, st, H⟩ = OPV P G w0 M0 R ⟨.ops all (⟨dst, .lookup t m k2 ok, ty, p, af, none⟩ :: l) :: k, fr, st, H⟩ (lkE P (mapT P t) H ok (evalO G fr m) (evalO G fr k2)) dst all l k fr st H := by
  rw [S_op]; exact OPS_val E_lookup
end
end
end Go.Ab

/- The abstract machine: the equations by which 'simp' reckons. -/
set_option linter.unusedVariables false
set_option linter.unusedSimpArgs false
namespace Go.Ab
open Go Go.RowKit

def getV : List V → Nat → V
  | [], _ => undefV
  | a :: _, 0 => a
  | _ :: l, n + 1 => getV l n
theorem getV_eq : ∀ (l : List V) (n : Nat), l.getD n undefV = getV l n
  | [], n => by simp [getV]
  | a :: l, 0 => by simp [getV]
  | a :: l, n + 1 => by simpa [getV] using getV_eq l n
def getH : List AB → Nat → AB
  | [], _ => .dead
  | a :: _, 0 => a
  | _ :: l, n + 1 => getH l n
theorem getH_some : ∀ (l : List AB) (n : Nat) (b : AB), b ≠ .dead → (l[n]? = some b ↔ getH l n = b)
  | [], n, b, h => by simp [getH]; exact fun e => h e.symm
  | a :: l, 0, b, h => by simp [getH]
  | a :: l, n + 1, b, h => by simpa [getH] using getH_some l n b h
theorem getH_cases (l : List AB) (n : Nat) : l[n]? = some (getH l n) ∨ (l[n]? = none ∧ getH l n = .dead) := by
  induction l generalizing n with
  | nil => exact .inr ⟨by simp, rfl⟩
  | cons a l ih =>
    cases n with
    | zero => exact .inl (by simp [getH])
    | succ n => simpa [getH] using ih n
theorem getH_D : ∀ (l : List AB) (n : Nat), l.getD n .dead = getH l n
  | [], n => by simp [getH]
  | a :: l, 0 => by simp [getH]
  | a :: l, n + 1 => by simpa [getH] using getH_D l n
def ixO (kk esz : Nat) (ea : Bool) (cs : List V) : Option Nat → Option V
  | some j => if j < kk then partV ea esz (cs.drop (j * esz)) else none
  | none => none
def globV : Option (List V) → V
  | some cs => .cp cs
  | none => .any
def loadC (a : Bool) (s off : Nat) : AB → Option V
  | .var cs => partV a s (cs.drop off)
  | _ => none
def loadR (a : Bool) (s ver idx sz off : Nat) : AB → Option V
  | .row sz' es v _ => if ver = v ∧ sz = sz' then (es[idx]?).bind fun e => partV a s (e.cells.drop off) else none
  | _ => none
def sets1 (i : Nat) : Option (List V) → Option (List (Nat × AB))
  | some cs => some [(i, .var cs)]
  | none => none
def storeC (s : Nat) (xs : List V) (i off : Nat) : AB → Option (List (Nat × AB))
  | .var cs => bif chk s xs then sets1 i (splice cs off xs) else none
  | _ => none
def faC (H : List AB) : Option (Nat × Nat × Bool) → V → Option V
  | some (_, 0, _), _ => none
  | some (off, sz + 1, ag), x => fieldAddrV H (off, sz + 1, ag) x
  | none, _ => none
def faR (H : List AB) (off i ver idx sz o : Nat) : AB → Option V
  | .row _ _ v _ => if ver = v then some (.ptrE i ver idx sz (o + off)) else none
  | _ => none
def fieldC : Option (Nat × Nat × Bool) → List V → Option V
  | some (off, sz, ag), cs => partV ag sz (cs.drop off)
  | none, _ => none
def iaC (H : List AB) (sh : Sh) : Option Nat → V → Option V
  | some n, x => indexAddrV H sh n x
  | none, _ => none
def iaS (esz : Nat) : Option V → Option V
  | some e => if e.cells.length = esz then some (.cp e.cells) else none
  | none => none
def iaR (esz n i ver : Nat) : AB → Option V
  | .row sz es v _ => if ver = v ∧ sz = esz ∧ n < es.length then some (.ptrE i ver n sz 0) else none
  | _ => none
def appRow (esz : Nat) (xs : List V) (i ver : Nat) : AB → Option (Bool × V × Upd)
  | .row sz es v imm => if ver = v ∧ sz = esz then some (xs.all (okE esz) && decide (es.length + xs.length ≤ 1099511627776), .row i (ver + 1), ⟨[(i, .row esz (es ++ xs) (ver + 1) imm)], none⟩) else none
  | _ => none
def srcR (ver : Nat) : AB → Option (List V)
  | .row _ es v _ => if ver = v then some es else none
  | _ => none
def slcRow (esz : Nat) (lo hi mx : Option Nat) (i ver : Nat) : AB → Option (Bool × V × Upd)
  | .row sz es v imm => if ver = v ∧ sz = esz then some (slcB es.length lo hi mx, .sl ((es.take (hi.getD es.length)).drop (lo.getD 0)) (slcM es.length hi mx), ⟨[(i, .row sz es v true)], none⟩) else none
  | _ => none
def optV : V → Option (Option Nat)
  | .val (.int _ n) => (idxN n).map some
  | _ => none
def shlI (k : IntKind) (x y : Int) : Int := k.wrap (x * 2 ^ (min y.toNat k.bits))
def shrI (k : IntKind) (x y : Int) : Int := x.fdiv (2 ^ (min y.toNat k.bits))
def andI (k : IntKind) (x y : Int) : Int := k.wrap (BitVec.ofInt k.bits x &&& BitVec.ofInt k.bits y).toNat
def orI (k : IntKind) (x y : Int) : Int := k.wrap (BitVec.ofInt k.bits x ||| BitVec.ofInt k.bits y).toNat
def storeW (i sz : Nat) (es : List V) (v idx : Nat) : V → Option (List V) → Option (List (Nat × AB))
  | .agg _, some cs => some [(i, .row sz (es.set idx (.agg cs)) v false)]
  | _, some [.agg _] => none
  | _, some [c] => some [(i, .row sz (es.set idx c) v false)]
  | _, _ => none
def storeQ (i sz : Nat) (es : List V) (v idx off : Nat) : Option (List V) → Option V → Option (List (Nat × AB))
  | some xs, some e => storeW i sz es v idx e (splice e.cells off xs)
  | _, _ => none
def storeR (s : Nat) (xc : List V) (fx : Option (List V)) (i ver idx sz off : Nat) : AB → Option (List (Nat × AB))
  | .row sz2 es v false => if ver = v ∧ sz = sz2 then (bif chk s xc then storeQ i sz2 es v idx off fx (es[idx]?) else none) else none
  | _ => none
def mkS (nid : Nat) : Option KS → Option (Bool × V × Upd)
  | some sg => some (true, .mp nid, ⟨[], some (.map false sg noF)⟩)
  | none => none
def insW (own : Bool) (x : V) : Option V → Bool × V
  | some x' => (own, x')
  | none => (true, x)
def insQ (i : Nat) (sg : KS) (f : List Int → Option V) : Option (List Int) → Bool × V → Option (List (Nat × AB))
  | some q, (own, x) => some [(i, .map own sg (updF f q x))]
  | none, _ => none
def insM (s : Option KS) (i : Nat) (k x : V) (H : List AB) : AB → Option (List (Nat × AB))
  | .map own sg f => if s = some sg then insQ i sg f (keyI sg k) (insV H own x) else none
  | _ => none
def lkQ (ok : Bool) (f : List Int → Option V) : Option V → Option (List Int) → Option V
  | some z, some q => some (lookR ok z (f q))
  | _, _ => none
def lkM (s : Option KS) (ok : Bool) (k : V) (z : Option V) : AB → Option V
  | .map _ sg f => if s = some sg then lkQ ok f z (keyI sg k) else none
  | _ => none
def binB (d : Option TD) (op : BinOp) (a b : Bool) : Option V := match d with
  | some d => match d.sh with
    | .bool => match op with
      | .eql => some (.bool (a == b))
      | .neq => some (.bool (a != b))
      | _ => none
    | _ => none
  | none => none
def binS (d : Option TD) (op : BinOp) (xs ys : List V) : Option V := match d with
  | some d => if d.flat ∧ xs.length = d.size then match op with
      | .eql => (eqCells xs ys).map .bool
      | .neq => (eqCells xs ys).map fun b => .bool (!b)
      | _ => none
    else none
  | none => none
def buildC (fs : List (Nat × Nat × Bool)) (cs : List V) (v : V) (ps : List (Nat × V)) : Option (Nat × Nat × Bool) → Option (List V)
  | some (off, sz, _) => bif chk sz v.cells then (splice cs off v.cells).bind fun cs' => buildV fs cs' ps else none
  | none => none
def lenR (ver : Nat) : AB → Option V
  | .row _ es v _ => if ver = v then some (.int .i64 es.length) else none
  | _ => none
def guardC (fr : List V) (w : Bool) : Option Nat → Option Bool
  | none => some false
  | some t => match getV fr t with
    | .val (.bool b) => some (b == w)
    | .tup _ => some false
    | _ => none
def guardD (w : Bool) : V → Option Bool
  | .val (.bool b) => some (b == w)
  | .tup _ => some false
  | _ => none

section
variable {P : Program} {G : Glob} {w0 : World} {M0 : Nat → Nat → Prop} {R : Value → World → Prop}
theorem R_E_tmp (G : Glob) (fr : List V) (t : Nat) : evalO G fr (.tmp t) = getV fr t := getV_eq fr t
theorem R_E_int (G : Glob) (fr : List V) (k : IntKind) (n : Int) : evalO G fr (.const (.int k n)) = .val (.int k n) := rfl
theorem R_E_bool (G : Glob) (fr : List V) (b : Bool) : evalO G fr (.const (.bool b)) = .val (.bool b) := rfl
theorem R_E_str (G : Glob) (fr : List V) (b : ByteArray) : evalO G fr (.const (.string b)) = .val (.string b) := rfl
theorem R_E_nil (G : Glob) (fr : List V) : evalO G fr (.const (.slice none 0 0)) = .sl [] .nil := rfl
theorem R_E_ptr (G : Glob) (fr : List V) : evalO G fr (.const (.pointer none)) = .val (.pointer none) := rfl
theorem R_E_nilf (G : Glob) (fr : List V) : evalO G fr (.const .nilFunc) = .val .nilFunc := rfl
theorem R_E_nili (G : Glob) (fr : List V) : evalO G fr (.const .nilIface) = .val .nilIface := rfl
theorem R_E_map (G : Glob) (fr : List V) : evalO G fr (.const (.map none)) = .val (.map none) := rfl
theorem R_E_tup (G : Glob) (fr : List V) : evalO G fr (.const (.tuple #[])) = .tup [] := rfl
theorem R_E_agg (G : Glob) (fr : List V) (cs : List Value) : evalO G fr (.const (.agg cs.toArray)) = bif cs.all Value.oneCell' then .agg (cs.map ofCell) else .any := by
  simp only [evalO, ofConst]; cases h : cs.all Value.oneCell' <;> simp_all
theorem R_E_func (G : Glob) (fr : List V) (f : Nat) : evalO G fr (.func f) = .fn (.func f) [] [] := rfl
theorem R_E_glob (G : Glob) (fr : List V) (g : Nat) : evalO G fr (.global g) = globV (G.lookup g) := by
  simp only [evalO, globV]; cases G.lookup g <;> rfl
theorem R_globV_some (cs : List V) : globV (some cs) = .cp cs := rfl
theorem R_getV_nil (n : Nat) : getV [] n = .tup [] := rfl
theorem R_getV_zero (a : V) (l : List V) : getV (a :: l) 0 = a := rfl
theorem R_getV_succ (a : V) (l : List V) (n : Nat) : getV (a :: l) (n + 1) = getV l n := rfl
theorem R_getH_zero (a : AB) (l : List AB) : getH (a :: l) 0 = a := rfl
theorem R_getH_succ (a : AB) (l : List AB) (n : Nat) : getH (a :: l) (n + 1) = getH l n := rfl
theorem R_putV_some (fr : List V) (t : Nat) (v : V) : putV fr (some t) v = fr.set t v := rfl
theorem R_putV_none (fr : List V) (v : V) : putV fr none v = fr := rfl
theorem R_set_zero (a : V) (l : List V) (v : V) : (a :: l).set 0 v = v :: l := rfl
theorem R_set_succ (a : V) (l : List V) (n : Nat) (v : V) : (a :: l).set (n + 1) v = a :: l.set n v := rfl
theorem R_setB_zero (a : AB) (l : List AB) (v : AB) : (a :: l).set 0 v = v :: l := rfl
theorem R_setB_succ (a : AB) (l : List AB) (n : Nat) (v : AB) : (a :: l).set (n + 1) v = a :: l.set n v := rfl
theorem R_undef_eq  : undefV = .tup [] := rfl
theorem R_OPV_some (v : V) (c : Cfg) (dst : Option Tmp) (all l : List Oper) (k : List It) (fr : List V) (st : List (List V)) (H : List AB) : OPV P G w0 M0 R c (some v) dst all l k fr st H = RUNs P G w0 M0 R ⟨.ops all l :: k, putV fr dst v, st, H⟩ := rfl
theorem R_OPN_some (b : AB) (c : Cfg) (dst : Option Tmp) (all l : List Oper) (k : List It) (fr : List V) (st : List (List V)) (H : List AB) : OPN P G w0 M0 R c (some b) dst all l k fr st H = RUNs P G w0 M0 R ⟨.ops all l :: k, putV fr dst (.ptr H.length 0), st, H ++ [b]⟩ := rfl
theorem R_OPU_some (u : List (Nat × AB)) (c : Cfg) (dst : Option Tmp) (all l : List Oper) (k : List It) (fr : List V) (st : List (List V)) (H : List AB) : OPU P G w0 M0 R c (some u) dst all l k fr st H = RUNs P G w0 M0 R ⟨.ops all l :: k, putV fr dst (.tup []), st, setH H u⟩ := rfl
theorem R_GRD_true (dst : Option Tmp) (op : Op) (t : TypeId) (p : String) (af : Array Edge) (g : Option (Nat × Bool)) (c : Cfg) (all l : List Oper) (k : List It) (fr : List V) (st : List (List V)) (H : List AB) : GRD P G w0 M0 R c (some true) ⟨dst, op, t, p, af, g⟩ all l k fr st H = RUNs P G w0 M0 R ⟨.ops all (⟨dst, op, t, p, af, none⟩ :: l) :: k, fr, st, H⟩ := rfl
theorem R_GRD_false (dst : Option Tmp) (op : Op) (t : TypeId) (p : String) (af : Array Edge) (g : Option (Nat × Bool)) (c : Cfg) (all l : List Oper) (k : List It) (fr : List V) (st : List (List V)) (H : List AB) : GRD P G w0 M0 R c (some false) ⟨dst, op, t, p, af, g⟩ all l k fr st H = RUNs P G w0 M0 R ⟨.ops all l :: k, putV fr dst (.tup []), st, H⟩ := rfl
theorem R_OPC_true (v : V) (u : Upd) (c : Cfg) (dst : Option Tmp) (all l : List Oper) (k : List It) (fr : List V) (st : List (List V)) (H : List AB) : OPC P G w0 M0 R c (some (true, v, u)) dst all l k fr st H = RUNs P G w0 M0 R ⟨.ops all l :: k, putV fr dst v, st, applyU H u⟩ := rfl
theorem R_applyU_new (H : List AB) (b : AB) : applyU H ⟨[], some b⟩ = H ++ [b] := rfl
theorem R_applyU_set (H : List AB) (u : List (Nat × AB)) : applyU H ⟨u, none⟩ = setH H u := rfl
theorem R_applyU_no (H : List AB) : applyU H .no = H := rfl
theorem R_appE_eq (esz : Nat) (xs : List V) (H : List AB) (nid : Nat) (v : V) : appE (some esz) (some xs) H nid v = appR H nid esz xs v := rfl
theorem R_appR_nil0 (H : List AB) (nid esz : Nat) (xs : List V) : appR H nid esz xs (.sl [] .nil) = some (xs.all (okE esz) && decide (xs.length ≤ 1099511627776), .row nid 0, ⟨[], some (.row esz xs 0 false)⟩) := by simp [appR]
theorem R_appR_tight0 (H : List AB) (nid esz : Nat) (xs : List V) : appR H nid esz xs (.sl [] .tight) = some (xs.all (okE esz) && decide (xs.length ≤ 1099511627776), .row nid 0, ⟨[], some (.row esz xs 0 false)⟩) := by simp [appR]
theorem R_appR_tight (H : List AB) (nid esz : Nat) (es : List V) (x : V) (xs : List V) : appR H nid esz (x :: xs) (.sl es .tight) = some ((es ++ x :: xs).all (okE esz) && decide (es.length + (xs.length + 1) ≤ 1099511627776), .row nid 0, ⟨[], some (.row esz (es ++ x :: xs) 0 false)⟩) := by simp [appR]
theorem R_appR_row (H : List AB) (nid esz : Nat) (xs : List V) (i ver : Nat) : appR H nid esz xs (.row i ver) = appRow esz xs i ver (getH H i) := by
  simp only [appR]
  rcases getH_cases H i with h | ⟨h, h2⟩
  · rw [h]; cases getH H i <;> rfl
  · rw [h, h2]; rfl
theorem R_appRow_eq (esz : Nat) (xs : List V) (i ver sz : Nat) (es : List V) (v : Nat) (imm : Bool) : appRow esz xs i ver (.row sz es v imm) = if ver = v ∧ sz = esz then some (xs.all (okE esz) && decide (es.length + xs.length ≤ 1099511627776), .row i (ver + 1), ⟨[(i, .row esz (es ++ xs) (ver + 1) imm)], none⟩) else none := rfl
theorem R_src_sl (H : List AB) (es : List V) (m : Mk) : srcV H (.sl es m) = some es := rfl
theorem R_src_row (H : List AB) (j ver : Nat) : srcV H (.row j ver) = srcR ver (getH H j) := by
  simp only [srcV]
  rcases getH_cases H j with h | ⟨h, h2⟩
  · rw [h]; cases getH H j <;> rfl
  · rw [h, h2]; rfl
theorem R_srcR_eq (ver sz : Nat) (es : List V) (v : Nat) (imm : Bool) : srcR ver (.row sz es v imm) = if ver = v then some es else none := rfl
theorem R_slcE_eq (esz : Nat) (lo hi mx : Option Nat) (H : List AB) (v : V) : slcE (some esz) (some lo) (some hi) (some mx) H v = slcR H esz lo hi mx v := rfl
theorem R_slcR_sl (H : List AB) (esz : Nat) (lo hi mx : Option Nat) (es : List V) (m : Mk) : slcR H esz lo hi mx (.sl es m) = some (slcB es.length lo hi mx && es.all (lenE' esz), .sl ((es.take (hi.getD es.length)).drop (lo.getD 0)) (slcM es.length hi mx), .no) := rfl
theorem R_slcR_row (H : List AB) (esz : Nat) (lo hi mx : Option Nat) (i ver : Nat) : slcR H esz lo hi mx (.row i ver) = slcRow esz lo hi mx i ver (getH H i) := by
  simp only [slcR]
  rcases getH_cases H i with h | ⟨h, h2⟩
  · rw [h]; cases getH H i <;> rfl
  · rw [h, h2]; rfl
theorem R_slcRow_eq (esz : Nat) (lo hi mx : Option Nat) (i ver sz : Nat) (es : List V) (v : Nat) (imm : Bool) : slcRow esz lo hi mx i ver (.row sz es v imm) = if ver = v ∧ sz = esz then some (slcB es.length lo hi mx, .sl ((es.take (hi.getD es.length)).drop (lo.getD 0)) (slcM es.length hi mx), ⟨[(i, .row sz es v true)], none⟩) else none := rfl
theorem R_optN_none (G : Glob) (fr : List V) : optN G fr none = some none := rfl
theorem R_optN_some (G : Glob) (fr : List V) (o : Operand) : optN G fr (some o) = optV (evalO G fr o) := by
  simp only [optN]; cases evalO G fr o <;> first | rfl | (rename_i w; cases w <;> rfl)
theorem R_optV_int (k : IntKind) (n : Int) : optV (.val (.int k n)) = (idxN n).map some := rfl
theorem R_getD_none (n : Nat) : (none : Option Nat).getD n = n := rfl
theorem R_getD_some (m n : Nat) : (some m).getD n = m := rfl
theorem R_map_idx (n : Nat) : (some n).map some = some (some n) := rfl
theorem R_slcM_none (n : Nat) (hi : Option Nat) : slcM n hi none = .plain := rfl
theorem R_slcM_self (n h : Nat) : slcM n (some h) (some h) = .tight := by simp [slcM]
theorem R_ifc_val (t : TypeId) (w : Value) : ifc t (.val w) = some (.iface t (.val w)) := rfl
theorem R_ifc_ptr (t : TypeId) (i o : Nat) : ifc t (.ptr i o) = some (.iface t (.ptr i o)) := rfl
theorem R_ifc_ptrE (t : TypeId) (i v x s o : Nat) : ifc t (.ptrE i v x s o) = some (.iface t (.ptrE i v x s o)) := rfl
theorem R_ifc_cp (t : TypeId) (cs : List V) : ifc t (.cp cs) = some (.iface t (.cp cs)) := rfl
theorem R_ifc_sl (t : TypeId) (es : List V) (m : Mk) : ifc t (.sl es m) = some (.iface t (.sl es m)) := rfl
theorem R_ifc_row (t : TypeId) (i v : Nat) : ifc t (.row i v) = some (.iface t (.row i v)) := rfl
theorem R_ifc_vs (t : TypeId) (i o n s : Nat) : ifc t (.vs i o n s) = some (.iface t (.vs i o n s)) := rfl
theorem R_ifc_fn (t : TypeId) (f : Fn) (a b : List V) : ifc t (.fn f a b) = some (.iface t (.fn f a b)) := rfl
theorem R_ifc_iface (t : TypeId) (t2 : TypeId) (v : V) : ifc t (.iface t2 v) = some (.iface t (.iface t2 v)) := rfl
theorem R_ifc_mp (t : TypeId) (i : Nat) : ifc t (.mp i) = some (.iface t (.mp i)) := rfl
theorem R_ifc_agg (t : TypeId) (cs : List V) : ifc t (.agg cs) = some (.iface t (.agg cs)) := rfl
theorem R_bif_true (x y : Option V) : (bif true then x else y) = x := rfl
theorem R_bif_false (x y : Option V) : (bif false then x else y) = y := rfl
theorem R_bifL_true (x y : Option (List V)) : (bif true then x else y) = x := rfl
theorem R_bifV_true (x y : V) : (bif true then x else y) = x := rfl
theorem R_bifV_false (x y : V) : (bif false then x else y) = y := rfl
theorem R_okE_eq (sz : Nat) (e : V) : okE sz e = chk sz e.cells := rfl
theorem R_setH_nil (H : List AB) : setH H [] = H := rfl
theorem R_setH_cons (H : List AB) (i : Nat) (b : AB) (u : List (Nat × AB)) : setH H ((i, b) :: u) = setH (H.set i b) u := rfl
theorem R_pick_eq (t : Bool) (x y : V) : pickE (.val (.bool t)) x y = some (bif t then x else y) := rfl
theorem R_alloc_eq (s : Nat) (a : Bool) (sh : Sh) (z : List V) (f : Bool) : allocE (some ⟨s, a, sh, z, f⟩) = some (.var z) := rfl
theorem R_box_val (w : Value) : boxE (.val w) = some (.var [.val w]) := rfl
theorem R_cells_val (w : Value) : V.cells (.val w) = [.val w] := rfl
theorem R_one_val (w : Value) : oneV (.val w) = true := rfl
theorem R_box_ptr (i o : Nat) : boxE (.ptr i o) = some (.var [.ptr i o]) := rfl
theorem R_cells_ptr (i o : Nat) : V.cells (.ptr i o) = [.ptr i o] := rfl
theorem R_one_ptr (i o : Nat) : oneV (.ptr i o) = true := rfl
theorem R_box_ptrE (i v x s o : Nat) : boxE (.ptrE i v x s o) = some (.var [.ptrE i v x s o]) := rfl
theorem R_cells_ptrE (i v x s o : Nat) : V.cells (.ptrE i v x s o) = [.ptrE i v x s o] := rfl
theorem R_one_ptrE (i v x s o : Nat) : oneV (.ptrE i v x s o) = true := rfl
theorem R_box_cp (cs : List V) : boxE (.cp cs) = some (.var [.cp cs]) := rfl
theorem R_cells_cp (cs : List V) : V.cells (.cp cs) = [.cp cs] := rfl
theorem R_one_cp (cs : List V) : oneV (.cp cs) = true := rfl
theorem R_box_sl (es : List V) (m : Mk) : boxE (.sl es m) = some (.var [.sl es m]) := rfl
theorem R_cells_sl (es : List V) (m : Mk) : V.cells (.sl es m) = [.sl es m] := rfl
theorem R_one_sl (es : List V) (m : Mk) : oneV (.sl es m) = true := rfl
theorem R_box_row (i v : Nat) : boxE (.row i v) = some (.var [.row i v]) := rfl
theorem R_cells_row (i v : Nat) : V.cells (.row i v) = [.row i v] := rfl
theorem R_one_row (i v : Nat) : oneV (.row i v) = true := rfl
theorem R_box_vs (i o n s : Nat) : boxE (.vs i o n s) = some (.var [.vs i o n s]) := rfl
theorem R_cells_vs (i o n s : Nat) : V.cells (.vs i o n s) = [.vs i o n s] := rfl
theorem R_one_vs (i o n s : Nat) : oneV (.vs i o n s) = true := rfl
theorem R_box_fn (f : Fn) (a b : List V) : boxE (.fn f a b) = some (.var [.fn f a b]) := rfl
theorem R_cells_fn (f : Fn) (a b : List V) : V.cells (.fn f a b) = [.fn f a b] := rfl
theorem R_one_fn (f : Fn) (a b : List V) : oneV (.fn f a b) = true := rfl
theorem R_box_iface (t : TypeId) (v : V) : boxE (.iface t v) = some (.var [.iface t v]) := rfl
theorem R_cells_iface (t : TypeId) (v : V) : V.cells (.iface t v) = [.iface t v] := rfl
theorem R_one_iface (t : TypeId) (v : V) : oneV (.iface t v) = true := rfl
theorem R_box_mp (i : Nat) : boxE (.mp i) = some (.var [.mp i]) := rfl
theorem R_cells_mp (i : Nat) : V.cells (.mp i) = [.mp i] := rfl
theorem R_one_mp (i : Nat) : oneV (.mp i) = true := rfl
theorem R_box_agg (cs : List V) : boxE (.agg cs) = some (.var cs) := rfl
theorem R_cells_agg (cs : List V) : V.cells (.agg cs) = cs := rfl
theorem R_load_ptr (s : Nat) (a : Bool) (sh : Sh) (z : List V) (f : Bool) (H : List AB) (i off : Nat) : loadE (some ⟨s, a, sh, z, f⟩) H (.ptr i off) = loadC a s off (getH H i) := by
  simp only [loadE, loadV]
  rcases getH_cases H i with h | ⟨h, h2⟩
  · rw [h]; cases getH H i <;> rfl
  · rw [h, h2]; rfl
theorem R_load_cp (s : Nat) (a : Bool) (sh : Sh) (z : List V) (f : Bool) (H : List AB) (cs : List V) : loadE (some ⟨s, a, sh, z, f⟩) H (.cp cs) = partV a s cs := rfl
theorem R_load_ptrE (s : Nat) (a : Bool) (sh : Sh) (z : List V) (f : Bool) (H : List AB) (i ver idx sz off : Nat) : loadE (some ⟨s, a, sh, z, f⟩) H (.ptrE i ver idx sz off) = loadR a s ver idx sz off (getH H i) := by
  simp only [loadE, loadV]
  rcases getH_cases H i with h | ⟨h, h2⟩
  · rw [h]; cases getH H i <;> rfl
  · rw [h, h2]; rfl
theorem R_loadC_var (a : Bool) (s off : Nat) (cs : List V) : loadC a s off (.var cs) = partV a s (cs.drop off) := rfl
theorem R_loadR_row (a : Bool) (s ver idx sz off sz2 : Nat) (es : List V) (v : Nat) (m : Bool) : loadR a s ver idx sz off (.row sz2 es v m) = if ver = v ∧ sz = sz2 then (es[idx]?).bind fun e => partV a s (e.cells.drop off) else none := rfl
theorem R_part_true (n : Nat) (cs : List V) : partV true n cs = (takeN n cs).map .agg := rfl
theorem R_part_false (n : Nat) (c : V) (cs : List V) : partV false n (c :: cs) = some c := rfl
theorem R_takeN_zero (cs : List V) : takeN 0 cs = some [] := rfl
theorem R_takeN_succ (n : Nat) (c : V) (cs : List V) : takeN (n + 1) (c :: cs) = (takeN n cs).map (c :: ·) := rfl
theorem R_store_ptr (s : Nat) (a : Bool) (sh : Sh) (z : List V) (f : Bool) (H : List AB) (x : V) (i off : Nat) : storeE (some ⟨s, a, sh, z, f⟩) H x (.ptr i off) = storeC s x.cells i off (getH H i) := by
  simp only [storeE]
  by_cases hc : chk s x.cells = true
  · rw [if_pos ((chk_eq _ _).2 hc)]
    simp only [storeV]
    rcases getH_cases H i with h | ⟨h, h2⟩
    · rw [h]; cases getH H i <;> simp only [storeC, hc, cond_true] <;> first | rfl | (cases splice _ off x.cells <;> rfl)
    · rw [h, h2]; rfl
  · rw [if_neg (fun h => hc ((chk_eq _ _).1 h))]
    cases getH H i <;> simp only [storeC] <;> (try rfl)
    rw [Bool.not_eq_true] at hc; rw [hc]; rfl
theorem R_store_ptrE (s : Nat) (a : Bool) (sh : Sh) (z : List V) (f : Bool) (H : List AB) (x : V) (i ver idx sz off : Nat) : storeE (some ⟨s, a, sh, z, f⟩) H x (.ptrE i ver idx sz off) = storeR s x.cells (fzL H x.cells) i ver idx sz off (getH H i) := by
  simp only [storeE]
  by_cases hc : chk s x.cells = true
  · rw [if_pos ((chk_eq _ _).2 hc)]
    simp only [storeV]
    rcases getH_cases H i with h | ⟨h, h2⟩
    · rw [h]
      cases getH H i with
      | row sz2 es v m =>
        cases m
        · simp only [storeR, hc, cond_true]
          split
          · cases fzL H x.cells with
            | none => rfl
            | some xs =>
              cases es[idx]? with
              | none => rfl
              | some e =>
                simp only [Option.bind_some, storeQ]
                cases splice e.cells off xs with
                | none => cases e <;> rfl
                | some cs =>
                  simp only [Option.bind_some]
                  cases e <;> first | rfl | (cases cs with
                    | nil => rfl
                    | cons c cs => cases cs <;> cases c <;> rfl)
          · rfl
        · rfl
      | _ => rfl
    · rw [h, h2]; rfl
  · rw [if_neg (fun h => hc ((chk_eq _ _).1 h))]
    rw [Bool.not_eq_true] at hc
    cases getH H i <;> simp only [storeR] <;> (try rfl)
    rename_i m; cases m <;> simp [storeR, hc]
theorem R_storeR_row (s : Nat) (xc : List V) (fx : Option (List V)) (i ver idx sz off sz2 : Nat) (es : List V) (v : Nat) : storeR s xc fx i ver idx sz off (.row sz2 es v false) = if ver = v ∧ sz = sz2 then (bif chk s xc then storeQ i sz2 es v idx off fx (es[idx]?) else none) else none := rfl
theorem R_storeQ_eq (i sz : Nat) (es : List V) (v idx off : Nat) (xs : List V) (e : V) : storeQ i sz es v idx off (some xs) (some e) = storeW i sz es v idx e (splice e.cells off xs) := rfl
theorem R_storeW_agg (i sz : Nat) (es : List V) (v idx : Nat) (c0 cs : List V) : storeW i sz es v idx (.agg c0) (some cs) = some [(i, .row sz (es.set idx (.agg cs)) v false)] := rfl
theorem R_storeW_sl (i sz : Nat) (es : List V) (v idx : Nat) (l0 l : List V) (m0 m : Mk) : storeW i sz es v idx (.sl l0 m0) (some [.sl l m]) = some [(i, .row sz (es.set idx (.sl l m)) v false)] := rfl
theorem R_storeW_val (i sz : Nat) (es : List V) (v idx : Nat) (u w : Value) : storeW i sz es v idx (.val u) (some [.val w]) = some [(i, .row sz (es.set idx (.val w)) v false)] := rfl
theorem R_bif_upd (x y : Option (List (Nat × AB))) : (bif true then x else y) = x := rfl
theorem R_storeC_var (s : Nat) (xs : List V) (i off : Nat) (cs : List V) : storeC s xs i off (.var cs) = bif chk s xs then sets1 i (splice cs off xs) else none := rfl
theorem R_sets1_some (i : Nat) (cs : List V) : sets1 i (some cs) = some [(i, .var cs)] := rfl
theorem R_chk_zero  : chk 0 [] = true := rfl
theorem R_chk_succ (n : Nat) (x : V) (xs : List V) : chk (n + 1) (x :: xs) = (oneV x && chk n xs) := rfl
theorem R_splice_zero (cs xs : List V) : splice cs 0 xs = over cs xs := by cases cs <;> rfl
theorem R_splice_succ (c : V) (cs : List V) (n : Nat) (xs : List V) : splice (c :: cs) (n + 1) xs = (splice cs n xs).map (c :: ·) := rfl
theorem R_over_nil (cs : List V) : over cs [] = some cs := by cases cs <;> rfl
theorem R_over_cons (c : V) (cs : List V) (x : V) (xs : List V) : over (c :: cs) (x :: xs) = (over cs xs).map (x :: ·) := rfl
theorem R_nc_ptr (i o : Nat) : nilCheckE (.ptr i o) = some (.ptr i o) := rfl
theorem R_nc_cp (cs : List V) : nilCheckE (.cp cs) = some (.cp cs) := rfl
theorem R_nc_iface (t : TypeId) (v : V) : nilCheckE (.iface t v) = some (.iface t v) := rfl
theorem R_nc_fn (f : Nat) (a b : List V) : nilCheckE (.fn (.func f) a b) = some (.fn (.func f) a b) := rfl
theorem R_fa_eq (s : Nat) (a : Bool) (fs : List (Nat × Nat × Bool)) (z : List V) (fl : Bool) (H : List AB) (f : Nat) (x : V) : faE (some ⟨s, a, .struct fs, z, fl⟩) H f x = faC H (fs[f]?) x := by
  simp only [faE]
  cases h : fs[f]? with
  | none => rfl
  | some fd =>
    obtain ⟨off, sz, ag⟩ := fd
    cases sz with
    | zero => rfl
    | succ n => simp [faC]
theorem R_faC_ptr (H : List AB) (off sz : Nat) (ag : Bool) (i o : Nat) : faC H (some (off, sz + 1, ag)) (.ptr i o) = some (.ptr i (o + off)) := rfl
theorem R_faC_cp (H : List AB) (off sz : Nat) (ag : Bool) (cs : List V) : faC H (some (off, sz + 1, ag)) (.cp cs) = some (.cp (cs.drop off)) := rfl
theorem R_faC_ptrE (H : List AB) (off sz : Nat) (ag : Bool) (i ver idx s2 o : Nat) : faC H (some (off, sz + 1, ag)) (.ptrE i ver idx s2 o) = faR H off i ver idx s2 o (getH H i) := by
  simp only [faC, fieldAddrV]
  rcases getH_cases H i with h | ⟨h, h2⟩
  · rw [h]; cases getH H i <;> rfl
  · rw [h, h2]; rfl
theorem R_faR_row (H : List AB) (off i ver idx s2 o sz : Nat) (es : List V) (v : Nat) (m : Bool) : faR H off i ver idx s2 o (.row sz es v m) = if ver = v then some (.ptrE i ver idx s2 (o + off)) else none := rfl
theorem R_field_eq (s : Nat) (a : Bool) (fs : List (Nat × Nat × Bool)) (z : List V) (fl : Bool) (f : Nat) (cs : List V) : fieldE (some ⟨s, a, .struct fs, z, fl⟩) f (.agg cs) = fieldC (fs[f]?) cs := by
  simp only [fieldE]; cases fs[f]? <;> rfl
theorem R_fieldC_eq (off sz : Nat) (ag : Bool) (cs : List V) : fieldC (some (off, sz, ag)) cs = partV ag sz (cs.drop off) := rfl
theorem R_ia_eq (s : Nat) (a : Bool) (sh : Sh) (z : List V) (f : Bool) (H : List AB) (x : V) (kk : IntKind) (n : Int) : iaE (some ⟨s, a, sh, z, f⟩) H x (.val (.int kk n)) = iaC H sh (idxN n) x := by
  simp only [iaE]; cases idxN n <;> rfl
theorem R_iaC_sl (H : List AB) (e esz b n : Nat) (es : List V) (m : Mk) : iaC H (.slice e esz b) (some n) (.sl es m) = iaS esz (es[n]?) := by
  simp only [iaC, indexAddrV]; cases es[n]? <;> rfl
theorem R_iaS_some (esz : Nat) (e : V) : iaS esz (some e) = if e.cells.length = esz then some (.cp e.cells) else none := rfl
theorem R_iaC_row (H : List AB) (e esz b n i ver : Nat) : iaC H (.slice e esz b) (some n) (.row i ver) = iaR esz n i ver (getH H i) := by
  simp only [iaC, indexAddrV]
  rcases getH_cases H i with h | ⟨h, h2⟩
  · rw [h]; cases getH H i <;> rfl
  · rw [h, h2]; rfl
theorem R_iaR_row (esz n i ver sz : Nat) (es : List V) (v : Nat) (m : Bool) : iaR esz n i ver (.row sz es v m) = if ver = v ∧ sz = esz ∧ n < es.length then some (.ptrE i ver n sz 0) else none := rfl
theorem R_iaC_vs (H : List AB) (e esz b n i off kk sz : Nat) : iaC H (.slice e esz b) (some n) (.vs i off kk sz) = if sz = esz ∧ n < kk then some (.ptr i (off + n * sz)) else none := rfl
theorem R_iaC_ptr (H : List AB) (kk esz : Nat) (ea : Bool) (n i o : Nat) : iaC H (.array kk esz ea) (some n) (.ptr i o) = if n < kk then some (.ptr i (o + n * esz)) else none := rfl
theorem R_iaC_cp (H : List AB) (kk esz : Nat) (ea : Bool) (n : Nat) (cs : List V) : iaC H (.array kk esz ea) (some n) (.cp cs) = if n < kk then some (.cp (cs.drop (n * esz))) else none := rfl
theorem R_idxN_0  : idxN 0 = some 0 := rfl
theorem R_idxN_1  : idxN 1 = some 1 := rfl
theorem R_idxN_2  : idxN 2 = some 2 := rfl
theorem R_idxN_3  : idxN 3 = some 3 := rfl
theorem R_idxN_4  : idxN 4 = some 4 := rfl
theorem R_idxN_5  : idxN 5 = some 5 := rfl
theorem R_idxN_6  : idxN 6 = some 6 := rfl
theorem R_idxN_7  : idxN 7 = some 7 := rfl
theorem R_idxN_8  : idxN 8 = some 8 := rfl
theorem R_idxN_9  : idxN 9 = some 9 := rfl
theorem R_idxN_10  : idxN 10 = some 10 := rfl
theorem R_idxN_11  : idxN 11 = some 11 := rfl
theorem R_idxN_12  : idxN 12 = some 12 := rfl
theorem R_idxN_13  : idxN 13 = some 13 := rfl
theorem R_idxN_14  : idxN 14 = some 14 := rfl
theorem R_idxN_15  : idxN 15 = some 15 := rfl
theorem R_idxN_16  : idxN 16 = some 16 := rfl
theorem R_idxN_17  : idxN 17 = some 17 := rfl
theorem R_idxN_18  : idxN 18 = some 18 := rfl
theorem R_idxN_19  : idxN 19 = some 19 := rfl
theorem R_idxN_20  : idxN 20 = some 20 := rfl
theorem R_idxN_21  : idxN 21 = some 21 := rfl
theorem R_idxN_22  : idxN 22 = some 22 := rfl
theorem R_idxN_23  : idxN 23 = some 23 := rfl
theorem R_idxN_24  : idxN 24 = some 24 := rfl
theorem R_idxN_25  : idxN 25 = some 25 := rfl
theorem R_idxN_26  : idxN 26 = some 26 := rfl
theorem R_idxN_27  : idxN 27 = some 27 := rfl
theorem R_idxN_28  : idxN 28 = some 28 := rfl
theorem R_idxN_29  : idxN 29 = some 29 := rfl
theorem R_idxN_30  : idxN 30 = some 30 := rfl
theorem R_idxN_31  : idxN 31 = some 31 := rfl
theorem R_idxN_32  : idxN 32 = some 32 := rfl
theorem R_idxN_33  : idxN 33 = some 33 := rfl
theorem R_idxN_34  : idxN 34 = some 34 := rfl
theorem R_idxN_35  : idxN 35 = some 35 := rfl
theorem R_idxN_36  : idxN 36 = some 36 := rfl
theorem R_idxN_37  : idxN 37 = some 37 := rfl
theorem R_idxN_38  : idxN 38 = some 38 := rfl
theorem R_idxN_39  : idxN 39 = some 39 := rfl
theorem R_idxN_40  : idxN 40 = some 40 := rfl
theorem R_idxN_41  : idxN 41 = some 41 := rfl
theorem R_idxN_42  : idxN 42 = some 42 := rfl
theorem R_idxN_43  : idxN 43 = some 43 := rfl
theorem R_idxN_44  : idxN 44 = some 44 := rfl
theorem R_idxN_45  : idxN 45 = some 45 := rfl
theorem R_idxN_46  : idxN 46 = some 46 := rfl
theorem R_idxN_47  : idxN 47 = some 47 := rfl
theorem R_idxN_48  : idxN 48 = some 48 := rfl
theorem R_idxN_49  : idxN 49 = some 49 := rfl
theorem R_idxN_50  : idxN 50 = some 50 := rfl
theorem R_idxN_51  : idxN 51 = some 51 := rfl
theorem R_idxN_52  : idxN 52 = some 52 := rfl
theorem R_idxN_53  : idxN 53 = some 53 := rfl
theorem R_idxN_54  : idxN 54 = some 54 := rfl
theorem R_idxN_55  : idxN 55 = some 55 := rfl
theorem R_idxN_56  : idxN 56 = some 56 := rfl
theorem R_idxN_57  : idxN 57 = some 57 := rfl
theorem R_idxN_58  : idxN 58 = some 58 := rfl
theorem R_idxN_59  : idxN 59 = some 59 := rfl
theorem R_idxN_60  : idxN 60 = some 60 := rfl
theorem R_idxN_61  : idxN 61 = some 61 := rfl
theorem R_idxN_62  : idxN 62 = some 62 := rfl
theorem R_idxN_63  : idxN 63 = some 63 := rfl
theorem R_idxN_64  : idxN 64 = some 64 := rfl
theorem R_idxN_cast (k : Nat) : idxN (k : Int) = some k := by simp [idxN]
theorem R_index_eq (s : Nat) (a : Bool) (kk esz : Nat) (ea : Bool) (z : List V) (f : Bool) (cs : List V) (ki : IntKind) (n : Int) : indexE (some ⟨s, a, .array kk esz ea, z, f⟩) (.agg cs) (.val (.int ki n)) = ixO kk esz ea cs (idxN n) := by simp only [indexE]; cases idxN n <;> rfl
theorem R_ixO_some (kk esz : Nat) (ea : Bool) (cs : List V) (j : Nat) : ixO kk esz ea cs (some j) = if j < kk then partV ea esz (cs.drop (j * esz)) else none := rfl
theorem R_bin_add (t : TypeId) (k : IntKind) (x y : Int) : binV P .add t (.val (.int k x)) (.val (.int k y)) = some (.val (.int k (k.wrap (x + y)))) := by simp [binV, binI, cmpI, bne, andI, orI]
theorem R_bin_sub (t : TypeId) (k : IntKind) (x y : Int) : binV P .sub t (.val (.int k x)) (.val (.int k y)) = some (.val (.int k (k.wrap (x - y)))) := by simp [binV, binI, cmpI, bne, andI, orI]
theorem R_bin_mul (t : TypeId) (k : IntKind) (x y : Int) : binV P .mul t (.val (.int k x)) (.val (.int k y)) = some (.val (.int k (k.wrap (x * y)))) := by simp [binV, binI, cmpI, bne, andI, orI]
theorem R_bin_eql (t : TypeId) (k : IntKind) (x y : Int) : binV P .eql t (.val (.int k x)) (.val (.int k y)) = some (.val (.bool (x == y))) := by simp [binV, binI, cmpI, bne, andI, orI]
theorem R_bin_neq (t : TypeId) (k : IntKind) (x y : Int) : binV P .neq t (.val (.int k x)) (.val (.int k y)) = some (.val (.bool (!(x == y)))) := by simp [binV, binI, cmpI, bne, andI, orI]
theorem R_bin_lss (t : TypeId) (k : IntKind) (x y : Int) : binV P .lss t (.val (.int k x)) (.val (.int k y)) = some (.val (.bool (decide (x < y)))) := by simp [binV, binI, cmpI, bne, andI, orI]
theorem R_bin_leq (t : TypeId) (k : IntKind) (x y : Int) : binV P .leq t (.val (.int k x)) (.val (.int k y)) = some (.val (.bool (decide (x ≤ y)))) := by simp [binV, binI, cmpI, bne, andI, orI]
theorem R_bin_gtr (t : TypeId) (k : IntKind) (x y : Int) : binV P .gtr t (.val (.int k x)) (.val (.int k y)) = some (.val (.bool (decide (x > y)))) := by simp [binV, binI, cmpI, bne, andI, orI]
theorem R_bin_geq (t : TypeId) (k : IntKind) (x y : Int) : binV P .geq t (.val (.int k x)) (.val (.int k y)) = some (.val (.bool (decide (x ≥ y)))) := by simp [binV, binI, cmpI, bne, andI, orI]
theorem R_bin_and (t : TypeId) (k : IntKind) (x y : Int) : binV P .and t (.val (.int k x)) (.val (.int k y)) = some (.val (.int k (andI k x y))) := by simp [binV, binI, cmpI, bne, andI, orI]
theorem R_bin_or (t : TypeId) (k : IntKind) (x y : Int) : binV P .or t (.val (.int k x)) (.val (.int k y)) = some (.val (.int k (orI k x y))) := by simp [binV, binI, cmpI, bne, andI, orI]
theorem R_bin_rem (t : TypeId) (k : IntKind) (x y : Int) : binV P .rem t (.val (.int k x)) (.val (.int k y)) = if y = 0 then none else some (.val (.int k (x.tmod y))) := by simp [binV, binI]
theorem R_bin_quo (t : TypeId) (k : IntKind) (x y : Int) : binV P .quo t (.val (.int k x)) (.val (.int k y)) = if y = 0 then none else some (.val (.int k (k.wrap (x.tdiv y)))) := by simp [binV, binI]
theorem R_bin_bool (op : BinOp) (t : TypeId) (x y : Bool) : binV P op t (.val (.bool x)) (.val (.bool y)) = binB (tdOf P t) op x y := by
  simp only [binV, binB]; cases tdOf P t <;> rfl
theorem R_binB_eql (s : Nat) (a : Bool) (z : List V) (f : Bool) (x y : Bool) : binB (some ⟨s, a, .bool, z, f⟩) .eql x y = some (.val (.bool (x == y))) := rfl
theorem R_binB_neq (s : Nat) (a : Bool) (z : List V) (f : Bool) (x y : Bool) : binB (some ⟨s, a, .bool, z, f⟩) .neq x y = some (.val (.bool (!(x == y)))) := rfl
theorem R_bin_agg (op : BinOp) (t : TypeId) (xs ys : List V) : binV P op t (.agg xs) (.agg ys) = binS (tdOf P t) op xs ys := by
  simp only [binV, binS]; cases tdOf P t <;> rfl
theorem R_binS_eql (s : Nat) (a : Bool) (sh : Sh) (z : List V) (xs ys : List V) : binS (some ⟨s, a, sh, z, true⟩) .eql xs ys = if xs.length = s then (eqCells xs ys).map .bool else none := by simp [binS]
theorem R_binS_neq (s : Nat) (a : Bool) (sh : Sh) (z : List V) (xs ys : List V) : binS (some ⟨s, a, sh, z, true⟩) .neq xs ys = if xs.length = s then (eqCells xs ys).map fun b => .bool (!b) else none := by simp [binS]
theorem R_eqC_nil  : eqCells [] [] = some true := rfl
theorem R_eqC_cons (k : IntKind) (x y : Int) (xs ys : List V) : eqCells (.val (.int k x) :: xs) (.val (.int k y) :: ys) = (eqCells xs ys).map ((x == y) && ·) := by simp [eqCells]
theorem R_un_not (b : Bool) : unE .not (.val (.bool b)) = some (.val (.bool (!b))) := rfl
theorem R_un_neg (k : IntKind) (n : Int) : unE .neg (.val (.int k n)) = some (.val (.int k (k.wrap (0 - n)))) := rfl
theorem R_conv_eq (s s2 : Nat) (a a2 : Bool) (j k kk : IntKind) (z z2 : List V) (f f2 : Bool) (n : Int) : convE (some ⟨s, a, .int j, z, f⟩) (some ⟨s2, a2, .int k, z2, f2⟩) (.val (.int kk n)) = some (.val (.int k (k.wrap n))) := rfl
theorem R_ext_eq (vs : List V) (i : Nat) : extractE (.tup vs) i = vs[i]? := rfl
theorem R_build_eq (s : Nat) (a : Bool) (fs : List (Nat × Nat × Bool)) (z : List V) (fl : Bool) (ps : List (Nat × V)) : buildE (some ⟨s, a, .struct fs, z, fl⟩) ps = (buildV fs z ps).map .agg := rfl
theorem R_build_arr (s : Nat) (a : Bool) (k esz : Nat) (ea : Bool) (z : List V) (fl : Bool) (ps : List (Nat × V)) : buildE (some ⟨s, a, .array k esz ea, z, fl⟩) ps = (buildV (arrFs k 0 esz ea) z ps).map .agg := rfl
theorem R_arrFs_zero (off esz : Nat) (ea : Bool) : arrFs 0 off esz ea = [] := rfl
theorem R_arrFs_succ (n off esz : Nat) (ea : Bool) : arrFs (n + 1) off esz ea = (off, esz, ea) :: arrFs n (off + esz) esz ea := rfl
theorem R_buildV_nil (fs : List (Nat × Nat × Bool)) (cs : List V) : buildV fs cs [] = some cs := by cases cs <;> rfl
theorem R_buildV_cons (fs : List (Nat × Nat × Bool)) (cs : List V) (i : Nat) (v : V) (ps : List (Nat × V)) : buildV fs cs ((i, v) :: ps) = buildC fs cs v ps (fs[i]?) := by
  simp only [buildV]
  cases fs[i]? with
  | none => rfl
  | some fd =>
    obtain ⟨off, sz, ag⟩ := fd
    simp only [buildC]
    by_cases hc : chk sz v.cells = true
    · rw [if_pos ((chk_eq _ _).2 hc), hc]; rfl
    · rw [if_neg (fun h => hc ((chk_eq _ _).1 h))]
      rw [Bool.not_eq_true] at hc; rw [hc]; rfl
theorem R_buildC_some (fs : List (Nat × Nat × Bool)) (cs : List V) (v : V) (ps : List (Nat × V)) (off sz : Nat) (ag : Bool) : buildC fs cs v ps (some (off, sz, ag)) = bif chk sz v.cells then (splice cs off v.cells).bind fun cs2 => buildV fs cs2 ps else none := rfl
theorem R_bs_eq (H : List AB) (nid s : Nat) (a : Bool) (e esz b : Nat) (z : List V) (f : Bool) (n : Nat) (ps : List (Nat × V)) : buildSliceE P H nid (some ⟨s, a, .slice e esz b, z, f⟩) n ps = (inOrder 0 ps).bind fun vs => bsR H nid esz n (tdOf P e).isSome vs (fzL (immL H (rowsInL vs)) vs) := rfl
theorem R_bsR_some (H : List AB) (nid esz n : Nat) (z : Bool) (vs es : List V) : bsR H nid esz n z vs (some es) = some (decide (es.length = n) && es.all (fun e => decide (e.cells.length = esz)) && decide (0 < esz) && decide (n * esz ≤ 16777216) && z, .sl es .tight, ⟨immS H (rowsInL vs), none⟩) := rfl
theorem R_bsR_none (H : List AB) (nid esz n : Nat) (z : Bool) (vs : List V) : bsR H nid esz n z vs none = some (decide (vs.length = n) && vs.all (fun e => chk esz e.cells) && decide (0 < esz) && decide (n * esz ≤ 16777216) && z, .vs nid 0 n esz, ⟨[], some (.var (vs.flatMap V.cells))⟩) := rfl
theorem R_fmC_nil  : ([] : List V).flatMap V.cells = [] := rfl
theorem R_fmC_cons (v : V) (vs : List V) : (v :: vs).flatMap V.cells = v.cells ++ vs.flatMap V.cells := by simp
theorem R_bindFN_none (f : List V → V) : (none : Option (List V)).map f = none := rfl
theorem R_bin_shl (t : TypeId) (k j : IntKind) (x y : Int) : binV P .shl t (.val (.int k x)) (.val (.int j y)) = if y < 0 then none else some (.val (.int k (shlI k x y))) := by simp [binV, binI, shlI, isSh]
theorem R_bin_shr (t : TypeId) (k j : IntKind) (x y : Int) : binV P .shr t (.val (.int k x)) (.val (.int j y)) = if y < 0 then none else some (.val (.int k (shrI k x y))) := by simp [binV, binI, shrI, isSh]
theorem R_immS_nil (H : List AB) : immS H [] = [] := rfl
theorem R_immS_cons (H : List AB) (i : Nat) (is : List Nat) : immS H (i :: is) = (i, immB (getH H i)) :: immS (immAt H i) is := by simp only [immS]; rw [getH_D]
theorem R_immB_row (sz : Nat) (es : List V) (v : Nat) (m : Bool) : immB (.row sz es v m) = .row sz es v true := rfl
theorem R_bindBS_some (f : List V → Option (Bool × V × Upd)) (x : List V) : (some x).bind f = f x := rfl
theorem R_mapBS_some (f : List V → Bool × V × Upd) (x : List V) : (some x).map f = some (f x) := rfl
theorem R_applyU_nil (H : List AB) : applyU H ⟨[], none⟩ = H := rfl
theorem R_io_nil (i : Nat) : inOrder i [] = some [] := rfl
theorem R_io_cons (i j : Nat) (v : V) (ps : List (Nat × V)) : inOrder i ((j, v) :: ps) = if j = i then (inOrder (i + 1) ps).map (v :: ·) else none := rfl
theorem R_len_sl (s : Nat) (a : Bool) (e esz b : Nat) (z : List V) (f : Bool) (H : List AB) (es : List V) (m : Mk) : lenE (some ⟨s, a, .slice e esz b, z, f⟩) H (.sl es m) = some (.val (.int .i64 es.length)) := rfl
theorem R_len_vs (s : Nat) (a : Bool) (e esz b : Nat) (z : List V) (f : Bool) (H : List AB) (i o n q : Nat) : lenE (some ⟨s, a, .slice e esz b, z, f⟩) H (.vs i o n q) = some (.val (.int .i64 n)) := rfl
theorem R_len_str (s : Nat) (a : Bool) (z : List V) (f : Bool) (H : List AB) (b : ByteArray) : lenE (some ⟨s, a, .str, z, f⟩) H (.val (.string b)) = some (.val (.int .i64 b.size)) := rfl
theorem R_len_row (s : Nat) (a : Bool) (e esz b : Nat) (z : List V) (f : Bool) (H : List AB) (i ver : Nat) : lenE (some ⟨s, a, .slice e esz b, z, f⟩) H (.row i ver) = lenR ver (getH H i) := by
  simp only [lenE, lenV]
  rcases getH_cases H i with h | ⟨h, h2⟩
  · rw [h]
    cases getH H i <;> simp only [lenR] <;> (try rfl)
    split <;> rfl
  · rw [h, h2]; rfl
theorem R_lenR_row (ver sz : Nat) (es : List V) (v : Nat) (m : Bool) : lenR ver (.row sz es v m) = if ver = v then some (.val (.int .i64 es.length)) else none := rfl
theorem R_guard_eq (all : List Oper) (fr : List V) (dst : Option Tmp) (op : Op) (t : TypeId) (p : String) (af : Array Edge) (j : Nat) (w : Bool) : guardV all fr ⟨dst, op, t, p, af, some (j, w)⟩ = guardC fr w ((all[j]?).bind (·.dst)) := by
  simp only [guardV]
  cases (all[j]?).bind (·.dst) with
  | none => rfl
  | some t => simp only [guardC, getV_eq]; cases getV fr t <;> rfl
theorem R_guardC_some (fr : List V) (w : Bool) (t : Nat) : guardC fr w (some t) = guardD w (getV fr t) := by
  simp only [guardC, guardD]
theorem R_guardD_t (b : Bool) : guardD true (.val (.bool b)) = some b := by cases b <;> rfl
theorem R_guardD_f (b : Bool) : guardD false (.val (.bool b)) = some (!b) := by cases b <;> rfl
theorem R_not_t  : (!true) = false := rfl
theorem R_not_f  : (!false) = true := rfl
theorem R_guardD_tup (w : Bool) (vs : List V) : guardD w (.tup vs) = some false := rfl
theorem R_toRet_code (c : Code) (k : List It) : toRet (.code c :: k) = toRet k := rfl
theorem R_toRet_ops (a l : List Oper) (k : List It) : toRet (.ops a l :: k) = toRet k := rfl
theorem R_toRet_blk (i : Nat) (k : List It) : toRet (.blk i :: k) = toRet k := rfl
theorem R_toRet_inv (J : List Act → Act → World → Prop) (k : List It) : toRet (.inv J :: k) = toRet k := rfl
theorem R_toRet_ret (rs : List ResultVar) (d : Option Tmp) (k : List It) : toRet (.ret rs d :: k) = .ret rs d :: k := rfl
theorem R_toRet_fin (rs : List ResultVar) (k : List It) : toRet (.fin rs :: k) = .fin rs :: k := rfl
theorem R_toBlk_code (i : Nat) (c : Code) (k : List It) : toBlk i (.code c :: k) = toBlk i k := rfl
theorem R_toBlk_ops (i : Nat) (a l : List Oper) (k : List It) : toBlk i (.ops a l :: k) = toBlk i k := rfl
theorem R_toBlk_inv (i : Nat) (J : List Act → Act → World → Prop) (k : List It) : toBlk i (.inv J :: k) = toBlk i k := rfl
theorem R_toBlk_blk (i j : Nat) (k : List It) : toBlk i (.blk j :: k) = if j = i then some k else toBlk i k := rfl
theorem R_resL_nil (fr : List V) (H : List AB) : resL P fr H [] = some [] := rfl
theorem R_resL_tmp (fr : List V) (H : List AB) (t : Nat) (rs : List ResultVar) : resL P fr H (.tmp t :: rs) = (resL P fr H rs).map (getV fr t :: ·) := by simp only [resL, resOne, getV_eq, Option.bind_some]
theorem R_resL_cell (fr : List V) (H : List AB) (x : Nat) (t : TypeId) (rs : List ResultVar) : resL P fr H (.cell x t :: rs) = (loadE (tdOf P t) H (getV fr x)).bind fun v => (resL P fr H rs).map (v :: ·) := by
  simp only [resL, resOne, getV_eq, loadE]; cases tdOf P t <;> rfl
theorem R_resV_one (v : V) : resV [v] = v := rfl
theorem R_resV_two (v w : V) (vs : List V) : resV (v :: w :: vs) = .tup (v :: w :: vs) := rfl
theorem R_fz_val (H : List AB) (w : Value) : fz H (.val w) = some (.val w) := by simp only [fz]
theorem R_fz_sl (H : List AB) (es : List V) (m : Mk) : fz H (.sl es m) = some (.sl es .plain) := by simp only [fz]
theorem R_fz_cp (H : List AB) (cs : List V) : fz H (.cp cs) = some (.cp cs) := by simp only [fz]
theorem R_fz_row (H : List AB) (i ver : Nat) : fz H (.row i ver) = fzRow H i ver := by simp only [fz]
theorem R_fz_agg (H : List AB) (cs : List V) : fz H (.agg cs) = (fzL H cs).map .agg := by simp only [fz]
theorem R_fz_tup (H : List AB) (cs : List V) : fz H (.tup cs) = (fzL H cs).map .tup := by simp only [fz]
theorem R_fz_fn (H : List AB) (f : Fn) (a b : List V) : fz H (.fn f a b) = (fzL H a).bind fun a2 => (fzL H b).map fun b2 => .fn f a2 b2 := by simp only [fz]
theorem R_fz_iface (H : List AB) (t : TypeId) (v : V) : fz H (.iface t v) = (fz H v).map (.iface t) := by simp only [fz]
theorem R_fzL_nil (H : List AB) : fzL H [] = some [] := by simp only [fzL]
theorem R_fzL_cons (H : List AB) (v : V) (vs : List V) : fzL H (v :: vs) = (fz H v).bind fun v2 => (fzL H vs).map (v2 :: ·) := by simp only [fzL]
theorem R_ri_val (w : Value) : rowsIn (.val w) = [] := by simp only [rowsIn]
theorem R_ri_ptr (i o : Nat) : rowsIn (.ptr i o) = [] := by simp only [rowsIn]
theorem R_ri_ptrE (i v x s o : Nat) : rowsIn (.ptrE i v x s o) = [] := by simp only [rowsIn]
theorem R_ri_cp (cs : List V) : rowsIn (.cp cs) = [] := by simp only [rowsIn]
theorem R_ri_sl (es : List V) (m : Mk) : rowsIn (.sl es m) = [] := by simp only [rowsIn]
theorem R_ri_vs (i o n s : Nat) : rowsIn (.vs i o n s) = [] := by simp only [rowsIn]
theorem R_ri_mp (i : Nat) : rowsIn (.mp i) = [] := by simp only [rowsIn]
theorem R_ri_row (i v : Nat) : rowsIn (.row i v) = [i] := by simp only [rowsIn]
theorem R_ri_agg (cs : List V) : rowsIn (.agg cs) = rowsInL cs := by simp only [rowsIn]
theorem R_ri_tup (cs : List V) : rowsIn (.tup cs) = rowsInL cs := by simp only [rowsIn]
theorem R_ri_fn (f : Fn) (a b : List V) : rowsIn (.fn f a b) = rowsInL a ++ rowsInL b := by simp only [rowsIn]
theorem R_ri_iface (t : TypeId) (v : V) : rowsIn (.iface t v) = rowsIn v := by simp only [rowsIn]
theorem R_riL_nil  : rowsInL [] = [] := by simp only [rowsInL]
theorem R_riL_cons (v : V) (vs : List V) : rowsInL (v :: vs) = rowsIn v ++ rowsInL vs := by simp only [rowsInL]
theorem R_imm_nil (H : List AB) : immL H [] = H := rfl
theorem R_imm_cons (H : List AB) (i : Nat) (is : List Nat) : immL H (i :: is) = immL (immAt H i) is := rfl
theorem R_immAt_succ (h : AB) (H : List AB) (n : Nat) : immAt (h :: H) (n + 1) = h :: immAt H n := by cases h <;> rfl
theorem R_immAt_row (sz : Nat) (es : List V) (v : Nat) (m : Bool) (H : List AB) : immAt (.row sz es v m :: H) 0 = .row sz es v true :: H := rfl
theorem R_fzRow_eq (H : List AB) (i ver : Nat) : fzRow H i ver = (match getH H i with | .row _ es v true => if ver = v then some (.sl es .plain) else none | _ => none) := by
  simp only [fzRow]
  rcases getH_cases H i with h | ⟨h, h2⟩
  · rw [h]; cases getH H i <;> first | rfl | (rename_i m; cases m <;> rfl)
  · rw [h, h2]
theorem R_app_nil (l : List AB) : [] ++ l = l := rfl
theorem R_app_cons (a : AB) (l m : List AB) : (a :: l) ++ m = a :: (l ++ m) := rfl
theorem R_appV_nil (l : List V) : [] ++ l = l := rfl
theorem R_appV_cons (a : V) (l m : List V) : (a :: l) ++ m = a :: (l ++ m) := rfl
theorem R_appN_nil (l : List Nat) : [] ++ l = l := rfl
theorem R_appN_cons (a : Nat) (l m : List Nat) : (a :: l) ++ m = a :: (l ++ m) := rfl
theorem R_map_some (f : List V → List V) (x : List V) : (some x).map f = some (f x) := rfl
theorem R_mapV_some (f : List V → V) (x : List V) : (some x).map f = some (f x) := rfl
theorem R_mapVV_some (f : V → V) (x : V) : (some x).map f = some (f x) := rfl
theorem R_mapB_some (f : Bool → V) (x : Bool) : (some x).map f = some (f x) := rfl
theorem R_mapBB_some (f : Bool → Bool) (x : Bool) : (some x).map f = some (f x) := rfl
theorem R_bindL_some (f : List V → Option (List V)) (x : List V) : (some x).bind f = f x := rfl
theorem R_bindLV_some (f : List V → Option V) (x : List V) : (some x).bind f = f x := rfl
theorem R_bindV_some (f : V → Option (List V)) (x : V) : (some x).bind f = f x := rfl
theorem R_bindVV_some (f : V → Option V) (x : V) : (some x).bind f = f x := rfl
theorem R_bindO_some (f : Oper → Option Nat) (x : Oper) : (some x).bind f = f x := rfl
theorem R_dropV_zero (l : List V) : l.drop 0 = l := rfl
theorem R_dropV_succ (a : V) (l : List V) (n : Nat) : (a :: l).drop (n + 1) = l.drop n := rfl
theorem R_getV0 (a : V) (l : List (V)) : (a :: l)[0]? = some a := by simp
theorem R_getV1 (a : V) (l : List (V)) (n : Nat) : (a :: l)[n + 1]? = l[n]? := by simp
theorem R_getO0 (a : Oper) (l : List (Oper)) : (a :: l)[0]? = some a := by simp
theorem R_getO1 (a : Oper) (l : List (Oper)) (n : Nat) : (a :: l)[n + 1]? = l[n]? := by simp
theorem R_getF0 (a : Nat × Nat × Bool) (l : List (Nat × Nat × Bool)) : (a :: l)[0]? = some a := by simp
theorem R_getF1 (a : Nat × Nat × Bool) (l : List (Nat × Nat × Bool)) (n : Nat) : (a :: l)[n + 1]? = l[n]? := by simp
theorem R_toLP (l : List (Operand)) : l.toArray.toList = l := by simp
theorem R_toLQ (l : List (Nat × Operand)) : l.toArray.toList = l := by simp
theorem R_toLR (l : List (Oper)) : l.toArray.toList = l := by simp
theorem R_toLS (l : List (ResultVar)) : l.toArray.toList = l := by simp
theorem R_toLT (l : List (TypeId)) : l.toArray.toList = l := by simp
theorem R_mapQ_nil (f : Nat × Operand → Nat × V) : [].map f = [] := rfl
theorem R_mapQ_cons (f : Nat × Operand → Nat × V) (a : Nat × Operand) (l : List (Nat × Operand)) : (a :: l).map f = f a :: l.map f := rfl
theorem R_mapP_nil (f : Operand → V) : [].map f = [] := rfl
theorem R_mapP_cons (f : Operand → V) (a : Operand) (l : List Operand) : (a :: l).map f = f a :: l.map f := rfl
theorem R_lenB_nil  : ([] : List AB).length = 0 := rfl
theorem R_lenB_cons (a : AB) (l : List AB) : (a :: l).length = l.length + 1 := rfl
theorem R_lenV_nil  : ([] : List V).length = 0 := rfl
theorem R_lenV_cons (a : V) (l : List V) : (a :: l).length = l.length + 1 := rfl
theorem R_lapp_nil (m : List Oper) : List.append [] m = m := rfl
theorem R_lapp_cons (a : Oper) (l m : List Oper) : List.append (a :: l) m = a :: List.append l m := rfl
theorem R_insE_eq (kt et : TypeId) (H : List AB) (m k x : V) : insE P (some (kt, et)) H m k x = insR P H kt m k x := rfl
theorem R_lkE_eq (kt et : TypeId) (H : List AB) (ok : Bool) (m k : V) : lkE P (some (kt, et)) H ok m k = lkR P H kt et ok m k := rfl
theorem R_mkE_eq (kt et : TypeId) (nid : Nat) : mkE P (some (kt, et)) nid = mkS nid (sgT P kt) := by
  cases h : sgT P kt <;> simp [mkE, mkS, h]
theorem R_mkS_eq (nid : Nat) (sg : KS) : mkS nid (some sg) = some (true, .mp nid, ⟨[], some (.map false sg noF)⟩) := rfl
theorem R_insR_mp (H : List AB) (kt : TypeId) (i : Nat) (k x : V) : insR P H kt (.mp i) k x = insM (sgT P kt) i k x H (getH H i) := by
  simp only [insR]
  rcases getH_cases H i with h | ⟨h, h2⟩
  · rw [h]; cases getH H i <;> first | rfl | (simp only [insM]; split <;> first | rfl | (cases keyI _ k <;> rfl))
  · rw [h, h2]; rfl
theorem R_insM_eq (s : KS) (i : Nat) (k x : V) (H : List AB) (own : Bool) (sg : KS) (f : List Int → Option V) : insM (some s) i k x H (.map own sg f) = if s = sg then insQ i sg f (keyI sg k) (insV H own x) else none := by simp only [insM, Option.some.injEq]
theorem R_insQ_eq (i : Nat) (sg : KS) (f : List Int → Option V) (q : List Int) (own : Bool) (x : V) : insQ i sg f (some q) (own, x) = some [(i, .map own sg (updF f q x))] := rfl
theorem R_insV_eq (H : List AB) (own : Bool) (x : V) : insV H own x = insW own x (fz H x) := by simp only [insV]; cases fz H x <;> rfl
theorem R_insW_some (own : Bool) (x y : V) : insW own x (some y) = (own, y) := rfl
theorem R_insW_none (own : Bool) (x : V) : insW own x none = (true, x) := rfl
theorem R_lkR_mp (H : List AB) (kt et : TypeId) (ok : Bool) (i : Nat) (k : V) : lkR P H kt et ok (.mp i) k = lkM (sgT P kt) ok k (zeroT P et) (getH H i) := by
  simp only [lkR]
  rcases getH_cases H i with h | ⟨h, h2⟩
  · rw [h]; cases getH H i <;> first | rfl | (simp only [lkM]; split <;> first | rfl | (cases keyI _ k <;> cases zeroT P et <;> rfl))
  · rw [h, h2]; rfl
theorem R_lkM_eq (s : KS) (ok : Bool) (k : V) (z : Option V) (own : Bool) (sg : KS) (f : List Int → Option V) : lkM (some s) ok k z (.map own sg f) = if s = sg then lkQ ok f z (keyI sg k) else none := by simp only [lkM, Option.some.injEq]
theorem R_lkQ_eq (ok : Bool) (f : List Int → Option V) (z : V) (q : List Int) : lkQ ok f (some z) (some q) = some (lookR ok z (f q)) := rfl
theorem R_keyI_agg (ks : List IntKind) (xs : List V) : keyI (true, ks) (.agg xs) = intsOf ks xs := rfl
theorem R_keyI_val (ks : List IntKind) (w : Value) : keyI (false, ks) (.val w) = intsOf ks [.val w] := rfl
theorem R_intsOf_nil  : intsOf [] [] = some [] := rfl
theorem R_intsOf_cons (k j : IntKind) (n : Int) (ks : List IntKind) (xs : List V) : intsOf (k :: ks) (.val (.int j n) :: xs) = if j = k then (intsOf ks xs).map (n :: ·) else none := rfl
theorem R_mapI_some (f : List Int → List Int) (x : List Int) : (some x).map f = some (f x) := rfl
theorem R_noF_eq (q : List Int) : noF q = none := rfl
theorem R_updF_eq (f : List Int → Option V) (k : List Int) (x : V) (q : List Int) : updF f k x q = bif eqIs q k then some x else f q := rfl
theorem R_eqIs_nil  : eqIs [] [] = true := rfl
theorem R_eqIs_cons (a b : Int) (as bs : List Int) : eqIs (a :: as) (b :: bs) = ((a == b) && eqIs as bs) := rfl
theorem R_fz_ptr (H : List AB) (i o : Nat) : fz H (.ptr i o) = none := by simp only [fz]
theorem R_fz_ptrE (H : List AB) (i v x s o : Nat) : fz H (.ptrE i v x s o) = none := by simp only [fz]
theorem R_fz_vs (H : List AB) (i o n s : Nat) : fz H (.vs i o n s) = none := by simp only [fz]
theorem R_fz_mp (H : List AB) (i : Nat) : fz H (.mp i) = none := by simp only [fz]
theorem R_bindV_none (f : V → Option (List V)) : (none : Option V).bind f = none := rfl
theorem R_mapLL_none (f : List V → List V) : (none : Option (List V)).map f = none := rfl
theorem R_mapLV_none (f : List V → V) : (none : Option (List V)).map f = none := rfl
theorem R_mapVV_none (f : V → V) : (none : Option V).map f = none := rfl
theorem R_bindLV_none (f : List V → Option V) : (none : Option (List V)).bind f = none := rfl
theorem R_lookR_some (z v : V) : lookR true z (some v) = .tup [v, .bool true] := rfl
theorem R_lookR_f (z v : V) : lookR false z (some v) = v := rfl
theorem R_lookR_fn (z : V) : lookR false z none = z := rfl
theorem R_lookR_none (z : V) : lookR true z none = .tup [z, .bool false] := rfl
theorem R_appM_nil (l : List (V × V)) : [] ++ l = l := rfl
theorem R_appM_cons (a : V × V) (l m : List (V × V)) : (a :: l) ++ m = a :: (l ++ m) := rfl
theorem R_mapLk_some (f : Option (Nat × V) → V) (x : Option (Nat × V)) : (some x).map f = some (f x) := rfl
theorem R_repl_zero (v : V) : List.replicate 0 v = [] := rfl
theorem R_repl_succ (n : Nat) (v : V) : List.replicate (n + 1) v = v :: List.replicate n v := rfl
theorem R_allV_nil (f : V → Bool) : [].all f = true := rfl
theorem R_allV_cons (f : V → Bool) (a : V) (l : List V) : (a :: l).all f = (f a && l.all f) := rfl
end
attribute [irreducible] andI orI
end Go.Ab

/- The abstract machine: the rules in bundles. -/
namespace Go.Ab
open Go Go.RowKit
theorem AB1 : (((((((type_of% @S_seq) ∧ (type_of% @S_skip)) ∧ ((type_of% @S_block) ∧ (type_of% @S_label))) ∧ (((type_of% @S_scope) ∧ (type_of% @S_blk)) ∧ ((type_of% @S_region) ∧ ((type_of% @S_end) ∧ (type_of% @S_cond))))) ∧ ((((type_of% @CONDS_true) ∧ (type_of% @CONDS_false)) ∧ ((type_of% @S_exit) ∧ ((type_of% @EXITS_some) ∧ (type_of% @S_retTo)))) ∧ (((type_of% @RETS_some) ∧ (type_of% @S_ret)) ∧ ((type_of% @S_guard) ∧ ((type_of% @S_move) ∧ (type_of% @S_assign)))))) ∧ (((((type_of% @S_pick) ∧ (type_of% @S_alloc)) ∧ ((type_of% @S_box) ∧ (type_of% @S_load))) ∧ (((type_of% @S_store) ∧ (type_of% @S_nilCheck)) ∧ ((type_of% @S_fieldAddr) ∧ ((type_of% @S_field) ∧ (type_of% @S_indexAddr))))) ∧ ((((type_of% @S_index) ∧ (type_of% @S_binOp)) ∧ ((type_of% @S_unOp) ∧ ((type_of% @S_convert) ∧ (type_of% @S_makeFunc)))) ∧ (((type_of% @S_extract) ∧ (type_of% @S_build)) ∧ ((type_of% @S_buildSlice) ∧ ((type_of% @S_len) ∧ (type_of% @S_append))))))) ∧ ((((((type_of% @S_slice) ∧ (type_of% @S_makeInterface)) ∧ ((type_of% @S_makeMap) ∧ (type_of% @S_insert))) ∧ (((type_of% @S_mapUpdate) ∧ (type_of% @S_lookup)) ∧ ((type_of% @GRD_not) ∧ ((type_of% @CONDS_not) ∧ (type_of% @R_E_tmp))))) ∧ ((((type_of% @R_E_int) ∧ (type_of% @R_E_bool)) ∧ ((type_of% @R_E_str) ∧ ((type_of% @R_E_nil) ∧ (type_of% @R_E_ptr)))) ∧ (((type_of% @R_E_nilf) ∧ (type_of% @R_E_nili)) ∧ ((type_of% @R_E_map) ∧ ((type_of% @R_E_tup) ∧ (type_of% @R_E_agg)))))) ∧ (((((type_of% @R_E_func) ∧ (type_of% @R_E_glob)) ∧ ((type_of% @R_globV_some) ∧ (type_of% @R_getV_nil))) ∧ (((type_of% @R_getV_zero) ∧ (type_of% @R_getV_succ)) ∧ ((type_of% @R_getH_zero) ∧ ((type_of% @R_getH_succ) ∧ (type_of% @R_putV_some))))) ∧ ((((type_of% @R_putV_none) ∧ (type_of% @R_set_zero)) ∧ ((type_of% @R_set_succ) ∧ ((type_of% @R_setB_zero) ∧ (type_of% @R_setB_succ)))) ∧ (((type_of% @R_undef_eq) ∧ (type_of% @R_OPV_some)) ∧ ((type_of% @R_OPN_some) ∧ ((type_of% @R_OPU_some) ∧ (type_of% @R_GRD_true)))))))) := ⟨⟨⟨⟨⟨⟨@S_seq, @S_skip⟩, ⟨@S_block, @S_label⟩⟩, ⟨⟨@S_scope, @S_blk⟩, ⟨@S_region, ⟨@S_end, @S_cond⟩⟩⟩⟩, ⟨⟨⟨@CONDS_true, @CONDS_false⟩, ⟨@S_exit, ⟨@EXITS_some, @S_retTo⟩⟩⟩, ⟨⟨@RETS_some, @S_ret⟩, ⟨@S_guard, ⟨@S_move, @S_assign⟩⟩⟩⟩⟩, ⟨⟨⟨⟨@S_pick, @S_alloc⟩, ⟨@S_box, @S_load⟩⟩, ⟨⟨@S_store, @S_nilCheck⟩, ⟨@S_fieldAddr, ⟨@S_field, @S_indexAddr⟩⟩⟩⟩, ⟨⟨⟨@S_index, @S_binOp⟩, ⟨@S_unOp, ⟨@S_convert, @S_makeFunc⟩⟩⟩, ⟨⟨@S_extract, @S_build⟩, ⟨@S_buildSlice, ⟨@S_len, @S_append⟩⟩⟩⟩⟩⟩, ⟨⟨⟨⟨⟨@S_slice, @S_makeInterface⟩, ⟨@S_makeMap, @S_insert⟩⟩, ⟨⟨@S_mapUpdate, @S_lookup⟩, ⟨@GRD_not, ⟨@CONDS_not, @R_E_tmp⟩⟩⟩⟩, ⟨⟨⟨@R_E_int, @R_E_bool⟩, ⟨@R_E_str, ⟨@R_E_nil, @R_E_ptr⟩⟩⟩, ⟨⟨@R_E_nilf, @R_E_nili⟩, ⟨@R_E_map, ⟨@R_E_tup, @R_E_agg⟩⟩⟩⟩⟩, ⟨⟨⟨⟨@R_E_func, @R_E_glob⟩, ⟨@R_globV_some, @R_getV_nil⟩⟩, ⟨⟨@R_getV_zero, @R_getV_succ⟩, ⟨@R_getH_zero, ⟨@R_getH_succ, @R_putV_some⟩⟩⟩⟩, ⟨⟨⟨@R_putV_none, @R_set_zero⟩, ⟨@R_set_succ, ⟨@R_setB_zero, @R_setB_succ⟩⟩⟩, ⟨⟨@R_undef_eq, @R_OPV_some⟩, ⟨@R_OPN_some, ⟨@R_OPU_some, @R_GRD_true⟩⟩⟩⟩⟩⟩⟩
theorem AB2 : (((((((type_of% @R_GRD_false) ∧ (type_of% @R_OPC_true)) ∧ ((type_of% @R_applyU_new) ∧ (type_of% @R_applyU_set))) ∧ (((type_of% @R_applyU_no) ∧ (type_of% @R_appE_eq)) ∧ ((type_of% @R_appR_nil0) ∧ ((type_of% @R_appR_tight0) ∧ (type_of% @R_appR_tight))))) ∧ ((((type_of% @R_appR_row) ∧ (type_of% @R_appRow_eq)) ∧ ((type_of% @R_src_sl) ∧ ((type_of% @R_src_row) ∧ (type_of% @R_srcR_eq)))) ∧ (((type_of% @R_slcE_eq) ∧ (type_of% @R_slcR_sl)) ∧ ((type_of% @R_slcR_row) ∧ ((type_of% @R_slcRow_eq) ∧ (type_of% @R_optN_none)))))) ∧ (((((type_of% @R_optN_some) ∧ (type_of% @R_optV_int)) ∧ ((type_of% @R_getD_none) ∧ (type_of% @R_getD_some))) ∧ (((type_of% @R_map_idx) ∧ (type_of% @R_slcM_none)) ∧ ((type_of% @R_slcM_self) ∧ ((type_of% @R_ifc_val) ∧ (type_of% @R_ifc_ptr))))) ∧ ((((type_of% @R_ifc_ptrE) ∧ (type_of% @R_ifc_cp)) ∧ ((type_of% @R_ifc_sl) ∧ ((type_of% @R_ifc_row) ∧ (type_of% @R_ifc_vs)))) ∧ (((type_of% @R_ifc_fn) ∧ (type_of% @R_ifc_iface)) ∧ ((type_of% @R_ifc_mp) ∧ ((type_of% @R_ifc_agg) ∧ (type_of% @R_bif_true))))))) ∧ ((((((type_of% @R_bif_false) ∧ (type_of% @R_bifL_true)) ∧ ((type_of% @R_bifV_true) ∧ (type_of% @R_bifV_false))) ∧ (((type_of% @R_okE_eq) ∧ (type_of% @R_setH_nil)) ∧ ((type_of% @R_setH_cons) ∧ ((type_of% @R_pick_eq) ∧ (type_of% @R_alloc_eq))))) ∧ ((((type_of% @R_box_val) ∧ (type_of% @R_cells_val)) ∧ ((type_of% @R_one_val) ∧ ((type_of% @R_box_ptr) ∧ (type_of% @R_cells_ptr)))) ∧ (((type_of% @R_one_ptr) ∧ (type_of% @R_box_ptrE)) ∧ ((type_of% @R_cells_ptrE) ∧ ((type_of% @R_one_ptrE) ∧ (type_of% @R_box_cp)))))) ∧ (((((type_of% @R_cells_cp) ∧ (type_of% @R_one_cp)) ∧ ((type_of% @R_box_sl) ∧ (type_of% @R_cells_sl))) ∧ (((type_of% @R_one_sl) ∧ (type_of% @R_box_row)) ∧ ((type_of% @R_cells_row) ∧ ((type_of% @R_one_row) ∧ (type_of% @R_box_vs))))) ∧ ((((type_of% @R_cells_vs) ∧ (type_of% @R_one_vs)) ∧ ((type_of% @R_box_fn) ∧ ((type_of% @R_cells_fn) ∧ (type_of% @R_one_fn)))) ∧ (((type_of% @R_box_iface) ∧ (type_of% @R_cells_iface)) ∧ ((type_of% @R_one_iface) ∧ ((type_of% @R_box_mp) ∧ (type_of% @R_cells_mp)))))))) := ⟨⟨⟨⟨⟨⟨@R_GRD_false, @R_OPC_true⟩, ⟨@R_applyU_new, @R_applyU_set⟩⟩, ⟨⟨@R_applyU_no, @R_appE_eq⟩, ⟨@R_appR_nil0, ⟨@R_appR_tight0, @R_appR_tight⟩⟩⟩⟩, ⟨⟨⟨@R_appR_row, @R_appRow_eq⟩, ⟨@R_src_sl, ⟨@R_src_row, @R_srcR_eq⟩⟩⟩, ⟨⟨@R_slcE_eq, @R_slcR_sl⟩, ⟨@R_slcR_row, ⟨@R_slcRow_eq, @R_optN_none⟩⟩⟩⟩⟩, ⟨⟨⟨⟨@R_optN_some, @R_optV_int⟩, ⟨@R_getD_none, @R_getD_some⟩⟩, ⟨⟨@R_map_idx, @R_slcM_none⟩, ⟨@R_slcM_self, ⟨@R_ifc_val, @R_ifc_ptr⟩⟩⟩⟩, ⟨⟨⟨@R_ifc_ptrE, @R_ifc_cp⟩, ⟨@R_ifc_sl, ⟨@R_ifc_row, @R_ifc_vs⟩⟩⟩, ⟨⟨@R_ifc_fn, @R_ifc_iface⟩, ⟨@R_ifc_mp, ⟨@R_ifc_agg, @R_bif_true⟩⟩⟩⟩⟩⟩, ⟨⟨⟨⟨⟨@R_bif_false, @R_bifL_true⟩, ⟨@R_bifV_true, @R_bifV_false⟩⟩, ⟨⟨@R_okE_eq, @R_setH_nil⟩, ⟨@R_setH_cons, ⟨@R_pick_eq, @R_alloc_eq⟩⟩⟩⟩, ⟨⟨⟨@R_box_val, @R_cells_val⟩, ⟨@R_one_val, ⟨@R_box_ptr, @R_cells_ptr⟩⟩⟩, ⟨⟨@R_one_ptr, @R_box_ptrE⟩, ⟨@R_cells_ptrE, ⟨@R_one_ptrE, @R_box_cp⟩⟩⟩⟩⟩, ⟨⟨⟨⟨@R_cells_cp, @R_one_cp⟩, ⟨@R_box_sl, @R_cells_sl⟩⟩, ⟨⟨@R_one_sl, @R_box_row⟩, ⟨@R_cells_row, ⟨@R_one_row, @R_box_vs⟩⟩⟩⟩, ⟨⟨⟨@R_cells_vs, @R_one_vs⟩, ⟨@R_box_fn, ⟨@R_cells_fn, @R_one_fn⟩⟩⟩, ⟨⟨@R_box_iface, @R_cells_iface⟩, ⟨@R_one_iface, ⟨@R_box_mp, @R_cells_mp⟩⟩⟩⟩⟩⟩⟩
theorem AB3 : (((((((type_of% @R_one_mp) ∧ (type_of% @R_box_agg)) ∧ ((type_of% @R_cells_agg) ∧ (type_of% @R_load_ptr))) ∧ (((type_of% @R_load_cp) ∧ (type_of% @R_load_ptrE)) ∧ ((type_of% @R_loadC_var) ∧ ((type_of% @R_loadR_row) ∧ (type_of% @R_part_true))))) ∧ ((((type_of% @R_part_false) ∧ (type_of% @R_takeN_zero)) ∧ ((type_of% @R_takeN_succ) ∧ ((type_of% @R_store_ptr) ∧ (type_of% @R_store_ptrE)))) ∧ (((type_of% @R_storeR_row) ∧ (type_of% @R_storeQ_eq)) ∧ ((type_of% @R_storeW_agg) ∧ ((type_of% @R_storeW_sl) ∧ (type_of% @R_storeW_val)))))) ∧ (((((type_of% @R_bif_upd) ∧ (type_of% @R_storeC_var)) ∧ ((type_of% @R_sets1_some) ∧ (type_of% @R_chk_zero))) ∧ (((type_of% @R_chk_succ) ∧ (type_of% @R_splice_zero)) ∧ ((type_of% @R_splice_succ) ∧ ((type_of% @R_over_nil) ∧ (type_of% @R_over_cons))))) ∧ ((((type_of% @R_nc_ptr) ∧ (type_of% @R_nc_cp)) ∧ ((type_of% @R_nc_iface) ∧ ((type_of% @R_nc_fn) ∧ (type_of% @R_fa_eq)))) ∧ (((type_of% @R_faC_ptr) ∧ (type_of% @R_faC_cp)) ∧ ((type_of% @R_faC_ptrE) ∧ ((type_of% @R_faR_row) ∧ (type_of% @R_field_eq))))))) ∧ ((((((type_of% @R_fieldC_eq) ∧ (type_of% @R_ia_eq)) ∧ ((type_of% @R_iaC_sl) ∧ (type_of% @R_iaS_some))) ∧ (((type_of% @R_iaC_row) ∧ (type_of% @R_iaR_row)) ∧ ((type_of% @R_iaC_vs) ∧ ((type_of% @R_iaC_ptr) ∧ (type_of% @R_iaC_cp))))) ∧ ((((type_of% @R_idxN_0) ∧ (type_of% @R_idxN_1)) ∧ ((type_of% @R_idxN_2) ∧ ((type_of% @R_idxN_3) ∧ (type_of% @R_idxN_4)))) ∧ (((type_of% @R_idxN_5) ∧ (type_of% @R_idxN_6)) ∧ ((type_of% @R_idxN_7) ∧ ((type_of% @R_idxN_8) ∧ (type_of% @R_idxN_9)))))) ∧ (((((type_of% @R_idxN_10) ∧ (type_of% @R_idxN_11)) ∧ ((type_of% @R_idxN_12) ∧ (type_of% @R_idxN_13))) ∧ (((type_of% @R_idxN_14) ∧ (type_of% @R_idxN_15)) ∧ ((type_of% @R_idxN_16) ∧ ((type_of% @R_idxN_17) ∧ (type_of% @R_idxN_18))))) ∧ ((((type_of% @R_idxN_19) ∧ (type_of% @R_idxN_20)) ∧ ((type_of% @R_idxN_21) ∧ ((type_of% @R_idxN_22) ∧ (type_of% @R_idxN_23)))) ∧ (((type_of% @R_idxN_24) ∧ (type_of% @R_idxN_25)) ∧ ((type_of% @R_idxN_26) ∧ ((type_of% @R_idxN_27) ∧ (type_of% @R_idxN_28)))))))) := ⟨⟨⟨⟨⟨⟨@R_one_mp, @R_box_agg⟩, ⟨@R_cells_agg, @R_load_ptr⟩⟩, ⟨⟨@R_load_cp, @R_load_ptrE⟩, ⟨@R_loadC_var, ⟨@R_loadR_row, @R_part_true⟩⟩⟩⟩, ⟨⟨⟨@R_part_false, @R_takeN_zero⟩, ⟨@R_takeN_succ, ⟨@R_store_ptr, @R_store_ptrE⟩⟩⟩, ⟨⟨@R_storeR_row, @R_storeQ_eq⟩, ⟨@R_storeW_agg, ⟨@R_storeW_sl, @R_storeW_val⟩⟩⟩⟩⟩, ⟨⟨⟨⟨@R_bif_upd, @R_storeC_var⟩, ⟨@R_sets1_some, @R_chk_zero⟩⟩, ⟨⟨@R_chk_succ, @R_splice_zero⟩, ⟨@R_splice_succ, ⟨@R_over_nil, @R_over_cons⟩⟩⟩⟩, ⟨⟨⟨@R_nc_ptr, @R_nc_cp⟩, ⟨@R_nc_iface, ⟨@R_nc_fn, @R_fa_eq⟩⟩⟩, ⟨⟨@R_faC_ptr, @R_faC_cp⟩, ⟨@R_faC_ptrE, ⟨@R_faR_row, @R_field_eq⟩⟩⟩⟩⟩⟩, ⟨⟨⟨⟨⟨@R_fieldC_eq, @R_ia_eq⟩, ⟨@R_iaC_sl, @R_iaS_some⟩⟩, ⟨⟨@R_iaC_row, @R_iaR_row⟩, ⟨@R_iaC_vs, ⟨@R_iaC_ptr, @R_iaC_cp⟩⟩⟩⟩, ⟨⟨⟨@R_idxN_0, @R_idxN_1⟩, ⟨@R_idxN_2, ⟨@R_idxN_3, @R_idxN_4⟩⟩⟩, ⟨⟨@R_idxN_5, @R_idxN_6⟩, ⟨@R_idxN_7, ⟨@R_idxN_8, @R_idxN_9⟩⟩⟩⟩⟩, ⟨⟨⟨⟨@R_idxN_10, @R_idxN_11⟩, ⟨@R_idxN_12, @R_idxN_13⟩⟩, ⟨⟨@R_idxN_14, @R_idxN_15⟩, ⟨@R_idxN_16, ⟨@R_idxN_17, @R_idxN_18⟩⟩⟩⟩, ⟨⟨⟨@R_idxN_19, @R_idxN_20⟩, ⟨@R_idxN_21, ⟨@R_idxN_22, @R_idxN_23⟩⟩⟩, ⟨⟨@R_idxN_24, @R_idxN_25⟩, ⟨@R_idxN_26, ⟨@R_idxN_27, @R_idxN_28⟩⟩⟩⟩⟩⟩⟩
theorem AB4 : (((((((type_of% @R_idxN_29) ∧ (type_of% @R_idxN_30)) ∧ ((type_of% @R_idxN_31) ∧ (type_of% @R_idxN_32))) ∧ (((type_of% @R_idxN_33) ∧ (type_of% @R_idxN_34)) ∧ ((type_of% @R_idxN_35) ∧ ((type_of% @R_idxN_36) ∧ (type_of% @R_idxN_37))))) ∧ ((((type_of% @R_idxN_38) ∧ (type_of% @R_idxN_39)) ∧ ((type_of% @R_idxN_40) ∧ ((type_of% @R_idxN_41) ∧ (type_of% @R_idxN_42)))) ∧ (((type_of% @R_idxN_43) ∧ (type_of% @R_idxN_44)) ∧ ((type_of% @R_idxN_45) ∧ ((type_of% @R_idxN_46) ∧ (type_of% @R_idxN_47)))))) ∧ (((((type_of% @R_idxN_48) ∧ (type_of% @R_idxN_49)) ∧ ((type_of% @R_idxN_50) ∧ (type_of% @R_idxN_51))) ∧ (((type_of% @R_idxN_52) ∧ (type_of% @R_idxN_53)) ∧ ((type_of% @R_idxN_54) ∧ ((type_of% @R_idxN_55) ∧ (type_of% @R_idxN_56))))) ∧ ((((type_of% @R_idxN_57) ∧ (type_of% @R_idxN_58)) ∧ ((type_of% @R_idxN_59) ∧ ((type_of% @R_idxN_60) ∧ (type_of% @R_idxN_61)))) ∧ (((type_of% @R_idxN_62) ∧ (type_of% @R_idxN_63)) ∧ ((type_of% @R_idxN_64) ∧ ((type_of% @R_idxN_cast) ∧ (type_of% @R_index_eq))))))) ∧ ((((((type_of% @R_ixO_some) ∧ (type_of% @R_bin_add)) ∧ ((type_of% @R_bin_sub) ∧ (type_of% @R_bin_mul))) ∧ (((type_of% @R_bin_eql) ∧ (type_of% @R_bin_neq)) ∧ ((type_of% @R_bin_lss) ∧ ((type_of% @R_bin_leq) ∧ (type_of% @R_bin_gtr))))) ∧ ((((type_of% @R_bin_geq) ∧ (type_of% @R_bin_and)) ∧ ((type_of% @R_bin_or) ∧ ((type_of% @R_bin_rem) ∧ (type_of% @R_bin_quo)))) ∧ (((type_of% @R_bin_bool) ∧ (type_of% @R_binB_eql)) ∧ ((type_of% @R_binB_neq) ∧ ((type_of% @R_bin_agg) ∧ (type_of% @R_binS_eql)))))) ∧ (((((type_of% @R_binS_neq) ∧ (type_of% @R_eqC_nil)) ∧ ((type_of% @R_eqC_cons) ∧ (type_of% @R_un_not))) ∧ (((type_of% @R_un_neg) ∧ (type_of% @R_conv_eq)) ∧ ((type_of% @R_ext_eq) ∧ ((type_of% @R_build_eq) ∧ (type_of% @R_build_arr))))) ∧ ((((type_of% @R_arrFs_zero) ∧ (type_of% @R_arrFs_succ)) ∧ ((type_of% @R_buildV_nil) ∧ ((type_of% @R_buildV_cons) ∧ (type_of% @R_buildC_some)))) ∧ (((type_of% @R_bs_eq) ∧ (type_of% @R_bsR_some)) ∧ ((type_of% @R_bsR_none) ∧ ((type_of% @R_fmC_nil) ∧ (type_of% @R_fmC_cons)))))))) := ⟨⟨⟨⟨⟨⟨@R_idxN_29, @R_idxN_30⟩, ⟨@R_idxN_31, @R_idxN_32⟩⟩, ⟨⟨@R_idxN_33, @R_idxN_34⟩, ⟨@R_idxN_35, ⟨@R_idxN_36, @R_idxN_37⟩⟩⟩⟩, ⟨⟨⟨@R_idxN_38, @R_idxN_39⟩, ⟨@R_idxN_40, ⟨@R_idxN_41, @R_idxN_42⟩⟩⟩, ⟨⟨@R_idxN_43, @R_idxN_44⟩, ⟨@R_idxN_45, ⟨@R_idxN_46, @R_idxN_47⟩⟩⟩⟩⟩, ⟨⟨⟨⟨@R_idxN_48, @R_idxN_49⟩, ⟨@R_idxN_50, @R_idxN_51⟩⟩, ⟨⟨@R_idxN_52, @R_idxN_53⟩, ⟨@R_idxN_54, ⟨@R_idxN_55, @R_idxN_56⟩⟩⟩⟩, ⟨⟨⟨@R_idxN_57, @R_idxN_58⟩, ⟨@R_idxN_59, ⟨@R_idxN_60, @R_idxN_61⟩⟩⟩, ⟨⟨@R_idxN_62, @R_idxN_63⟩, ⟨@R_idxN_64, ⟨@R_idxN_cast, @R_index_eq⟩⟩⟩⟩⟩⟩, ⟨⟨⟨⟨⟨@R_ixO_some, @R_bin_add⟩, ⟨@R_bin_sub, @R_bin_mul⟩⟩, ⟨⟨@R_bin_eql, @R_bin_neq⟩, ⟨@R_bin_lss, ⟨@R_bin_leq, @R_bin_gtr⟩⟩⟩⟩, ⟨⟨⟨@R_bin_geq, @R_bin_and⟩, ⟨@R_bin_or, ⟨@R_bin_rem, @R_bin_quo⟩⟩⟩, ⟨⟨@R_bin_bool, @R_binB_eql⟩, ⟨@R_binB_neq, ⟨@R_bin_agg, @R_binS_eql⟩⟩⟩⟩⟩, ⟨⟨⟨⟨@R_binS_neq, @R_eqC_nil⟩, ⟨@R_eqC_cons, @R_un_not⟩⟩, ⟨⟨@R_un_neg, @R_conv_eq⟩, ⟨@R_ext_eq, ⟨@R_build_eq, @R_build_arr⟩⟩⟩⟩, ⟨⟨⟨@R_arrFs_zero, @R_arrFs_succ⟩, ⟨@R_buildV_nil, ⟨@R_buildV_cons, @R_buildC_some⟩⟩⟩, ⟨⟨@R_bs_eq, @R_bsR_some⟩, ⟨@R_bsR_none, ⟨@R_fmC_nil, @R_fmC_cons⟩⟩⟩⟩⟩⟩⟩
theorem AB5 : (((((((type_of% @R_bindFN_none) ∧ (type_of% @R_bin_shl)) ∧ ((type_of% @R_bin_shr) ∧ (type_of% @R_immS_nil))) ∧ (((type_of% @R_immS_cons) ∧ (type_of% @R_immB_row)) ∧ ((type_of% @R_bindBS_some) ∧ ((type_of% @R_mapBS_some) ∧ (type_of% @R_applyU_nil))))) ∧ ((((type_of% @R_io_nil) ∧ (type_of% @R_io_cons)) ∧ ((type_of% @R_len_sl) ∧ ((type_of% @R_len_vs) ∧ (type_of% @R_len_str)))) ∧ (((type_of% @R_len_row) ∧ (type_of% @R_lenR_row)) ∧ ((type_of% @R_guard_eq) ∧ ((type_of% @R_guardC_some) ∧ (type_of% @R_guardD_t)))))) ∧ (((((type_of% @R_guardD_f) ∧ (type_of% @R_not_t)) ∧ ((type_of% @R_not_f) ∧ (type_of% @R_guardD_tup))) ∧ (((type_of% @R_toRet_code) ∧ (type_of% @R_toRet_ops)) ∧ ((type_of% @R_toRet_blk) ∧ ((type_of% @R_toRet_inv) ∧ (type_of% @R_toRet_ret))))) ∧ ((((type_of% @R_toRet_fin) ∧ (type_of% @R_toBlk_code)) ∧ ((type_of% @R_toBlk_ops) ∧ ((type_of% @R_toBlk_inv) ∧ (type_of% @R_toBlk_blk)))) ∧ (((type_of% @R_resL_nil) ∧ (type_of% @R_resL_tmp)) ∧ ((type_of% @R_resL_cell) ∧ ((type_of% @R_resV_one) ∧ (type_of% @R_resV_two))))))) ∧ ((((((type_of% @R_fz_val) ∧ (type_of% @R_fz_sl)) ∧ ((type_of% @R_fz_cp) ∧ (type_of% @R_fz_row))) ∧ (((type_of% @R_fz_agg) ∧ (type_of% @R_fz_tup)) ∧ ((type_of% @R_fz_fn) ∧ ((type_of% @R_fz_iface) ∧ (type_of% @R_fzL_nil))))) ∧ ((((type_of% @R_fzL_cons) ∧ (type_of% @R_ri_val)) ∧ ((type_of% @R_ri_ptr) ∧ ((type_of% @R_ri_ptrE) ∧ (type_of% @R_ri_cp)))) ∧ (((type_of% @R_ri_sl) ∧ (type_of% @R_ri_vs)) ∧ ((type_of% @R_ri_mp) ∧ ((type_of% @R_ri_row) ∧ (type_of% @R_ri_agg)))))) ∧ (((((type_of% @R_ri_tup) ∧ (type_of% @R_ri_fn)) ∧ ((type_of% @R_ri_iface) ∧ (type_of% @R_riL_nil))) ∧ (((type_of% @R_riL_cons) ∧ (type_of% @R_imm_nil)) ∧ ((type_of% @R_imm_cons) ∧ ((type_of% @R_immAt_succ) ∧ (type_of% @R_immAt_row))))) ∧ ((((type_of% @R_fzRow_eq) ∧ (type_of% @R_app_nil)) ∧ ((type_of% @R_app_cons) ∧ ((type_of% @R_appV_nil) ∧ (type_of% @R_appV_cons)))) ∧ (((type_of% @R_appN_nil) ∧ (type_of% @R_appN_cons)) ∧ ((type_of% @R_map_some) ∧ ((type_of% @R_mapV_some) ∧ (type_of% @R_mapVV_some)))))))) := ⟨⟨⟨⟨⟨⟨@R_bindFN_none, @R_bin_shl⟩, ⟨@R_bin_shr, @R_immS_nil⟩⟩, ⟨⟨@R_immS_cons, @R_immB_row⟩, ⟨@R_bindBS_some, ⟨@R_mapBS_some, @R_applyU_nil⟩⟩⟩⟩, ⟨⟨⟨@R_io_nil, @R_io_cons⟩, ⟨@R_len_sl, ⟨@R_len_vs, @R_len_str⟩⟩⟩, ⟨⟨@R_len_row, @R_lenR_row⟩, ⟨@R_guard_eq, ⟨@R_guardC_some, @R_guardD_t⟩⟩⟩⟩⟩, ⟨⟨⟨⟨@R_guardD_f, @R_not_t⟩, ⟨@R_not_f, @R_guardD_tup⟩⟩, ⟨⟨@R_toRet_code, @R_toRet_ops⟩, ⟨@R_toRet_blk, ⟨@R_toRet_inv, @R_toRet_ret⟩⟩⟩⟩, ⟨⟨⟨@R_toRet_fin, @R_toBlk_code⟩, ⟨@R_toBlk_ops, ⟨@R_toBlk_inv, @R_toBlk_blk⟩⟩⟩, ⟨⟨@R_resL_nil, @R_resL_tmp⟩, ⟨@R_resL_cell, ⟨@R_resV_one, @R_resV_two⟩⟩⟩⟩⟩⟩, ⟨⟨⟨⟨⟨@R_fz_val, @R_fz_sl⟩, ⟨@R_fz_cp, @R_fz_row⟩⟩, ⟨⟨@R_fz_agg, @R_fz_tup⟩, ⟨@R_fz_fn, ⟨@R_fz_iface, @R_fzL_nil⟩⟩⟩⟩, ⟨⟨⟨@R_fzL_cons, @R_ri_val⟩, ⟨@R_ri_ptr, ⟨@R_ri_ptrE, @R_ri_cp⟩⟩⟩, ⟨⟨@R_ri_sl, @R_ri_vs⟩, ⟨@R_ri_mp, ⟨@R_ri_row, @R_ri_agg⟩⟩⟩⟩⟩, ⟨⟨⟨⟨@R_ri_tup, @R_ri_fn⟩, ⟨@R_ri_iface, @R_riL_nil⟩⟩, ⟨⟨@R_riL_cons, @R_imm_nil⟩, ⟨@R_imm_cons, ⟨@R_immAt_succ, @R_immAt_row⟩⟩⟩⟩, ⟨⟨⟨@R_fzRow_eq, @R_app_nil⟩, ⟨@R_app_cons, ⟨@R_appV_nil, @R_appV_cons⟩⟩⟩, ⟨⟨@R_appN_nil, @R_appN_cons⟩, ⟨@R_map_some, ⟨@R_mapV_some, @R_mapVV_some⟩⟩⟩⟩⟩⟩⟩
theorem AB6 : (((((((type_of% @R_mapB_some) ∧ (type_of% @R_mapBB_some)) ∧ ((type_of% @R_bindL_some) ∧ (type_of% @R_bindLV_some))) ∧ (((type_of% @R_bindV_some) ∧ (type_of% @R_bindVV_some)) ∧ ((type_of% @R_bindO_some) ∧ ((type_of% @R_dropV_zero) ∧ (type_of% @R_dropV_succ))))) ∧ ((((type_of% @R_getV0) ∧ (type_of% @R_getV1)) ∧ ((type_of% @R_getO0) ∧ (type_of% @R_getO1))) ∧ (((type_of% @R_getF0) ∧ (type_of% @R_getF1)) ∧ ((type_of% @R_toLP) ∧ ((type_of% @R_toLQ) ∧ (type_of% @R_toLR)))))) ∧ (((((type_of% @R_toLS) ∧ (type_of% @R_toLT)) ∧ ((type_of% @R_mapQ_nil) ∧ (type_of% @R_mapQ_cons))) ∧ (((type_of% @R_mapP_nil) ∧ (type_of% @R_mapP_cons)) ∧ ((type_of% @R_lenB_nil) ∧ ((type_of% @R_lenB_cons) ∧ (type_of% @R_lenV_nil))))) ∧ ((((type_of% @R_lenV_cons) ∧ (type_of% @R_lapp_nil)) ∧ ((type_of% @R_lapp_cons) ∧ (type_of% @R_insE_eq))) ∧ (((type_of% @R_lkE_eq) ∧ (type_of% @R_mkE_eq)) ∧ ((type_of% @R_mkS_eq) ∧ ((type_of% @R_insR_mp) ∧ (type_of% @R_insM_eq))))))) ∧ ((((((type_of% @R_insQ_eq) ∧ (type_of% @R_insV_eq)) ∧ ((type_of% @R_insW_some) ∧ (type_of% @R_insW_none))) ∧ (((type_of% @R_lkR_mp) ∧ (type_of% @R_lkM_eq)) ∧ ((type_of% @R_lkQ_eq) ∧ ((type_of% @R_keyI_agg) ∧ (type_of% @R_keyI_val))))) ∧ ((((type_of% @R_intsOf_nil) ∧ (type_of% @R_intsOf_cons)) ∧ ((type_of% @R_mapI_some) ∧ (type_of% @R_noF_eq))) ∧ (((type_of% @R_updF_eq) ∧ (type_of% @R_eqIs_nil)) ∧ ((type_of% @R_eqIs_cons) ∧ ((type_of% @R_fz_ptr) ∧ (type_of% @R_fz_ptrE)))))) ∧ (((((type_of% @R_fz_vs) ∧ (type_of% @R_fz_mp)) ∧ ((type_of% @R_bindV_none) ∧ (type_of% @R_mapLL_none))) ∧ (((type_of% @R_mapLV_none) ∧ (type_of% @R_mapVV_none)) ∧ ((type_of% @R_bindLV_none) ∧ ((type_of% @R_lookR_some) ∧ (type_of% @R_lookR_f))))) ∧ ((((type_of% @R_lookR_fn) ∧ (type_of% @R_lookR_none)) ∧ ((type_of% @R_appM_nil) ∧ (type_of% @R_appM_cons))) ∧ (((type_of% @R_mapLk_some) ∧ (type_of% @R_repl_zero)) ∧ ((type_of% @R_repl_succ) ∧ ((type_of% @R_allV_nil) ∧ (type_of% @R_allV_cons)))))))) := ⟨⟨⟨⟨⟨⟨@R_mapB_some, @R_mapBB_some⟩, ⟨@R_bindL_some, @R_bindLV_some⟩⟩, ⟨⟨@R_bindV_some, @R_bindVV_some⟩, ⟨@R_bindO_some, ⟨@R_dropV_zero, @R_dropV_succ⟩⟩⟩⟩, ⟨⟨⟨@R_getV0, @R_getV1⟩, ⟨@R_getO0, @R_getO1⟩⟩, ⟨⟨@R_getF0, @R_getF1⟩, ⟨@R_toLP, ⟨@R_toLQ, @R_toLR⟩⟩⟩⟩⟩, ⟨⟨⟨⟨@R_toLS, @R_toLT⟩, ⟨@R_mapQ_nil, @R_mapQ_cons⟩⟩, ⟨⟨@R_mapP_nil, @R_mapP_cons⟩, ⟨@R_lenB_nil, ⟨@R_lenB_cons, @R_lenV_nil⟩⟩⟩⟩, ⟨⟨⟨@R_lenV_cons, @R_lapp_nil⟩, ⟨@R_lapp_cons, @R_insE_eq⟩⟩, ⟨⟨@R_lkE_eq, @R_mkE_eq⟩, ⟨@R_mkS_eq, ⟨@R_insR_mp, @R_insM_eq⟩⟩⟩⟩⟩⟩, ⟨⟨⟨⟨⟨@R_insQ_eq, @R_insV_eq⟩, ⟨@R_insW_some, @R_insW_none⟩⟩, ⟨⟨@R_lkR_mp, @R_lkM_eq⟩, ⟨@R_lkQ_eq, ⟨@R_keyI_agg, @R_keyI_val⟩⟩⟩⟩, ⟨⟨⟨@R_intsOf_nil, @R_intsOf_cons⟩, ⟨@R_mapI_some, @R_noF_eq⟩⟩, ⟨⟨@R_updF_eq, @R_eqIs_nil⟩, ⟨@R_eqIs_cons, ⟨@R_fz_ptr, @R_fz_ptrE⟩⟩⟩⟩⟩, ⟨⟨⟨⟨@R_fz_vs, @R_fz_mp⟩, ⟨@R_bindV_none, @R_mapLL_none⟩⟩, ⟨⟨@R_mapLV_none, @R_mapVV_none⟩, ⟨@R_bindLV_none, ⟨@R_lookR_some, @R_lookR_f⟩⟩⟩⟩, ⟨⟨⟨@R_lookR_fn, @R_lookR_none⟩, ⟨@R_appM_nil, @R_appM_cons⟩⟩, ⟨⟨@R_mapLk_some, @R_repl_zero⟩, ⟨@R_repl_succ, ⟨@R_allV_nil, @R_allV_cons⟩⟩⟩⟩⟩⟩⟩
end Go.Ab

/- The abstract machine: calls, loops and ends, for 'simp'. -/
set_option linter.unusedVariables false
set_option linter.unusedSimpArgs false
namespace Go.Ab
open Go Go.RowKit
section
variable {P : Program} {G : Glob} {w0 : World} {M0 : Nat → Nat → Prop} {R : Value → World → Prop}

/-- A call at hand: whose function, of what. -/
def CALLS (P : Program) (G : Glob) (w0 : World) (M0 : Nat → Nat → Prop) (R : Value → World → Prop) (c : Cfg) (f : Operand) (args : List Operand) (vf : V) (vargs : List V) (dst : Option Tmp) (all l : List Oper) (k : List It) (fr : List V) (st : List (List V)) (H : List AB) : Prop :=
  evalO G fr f = vf → args.map (evalO G fr) = vargs → RUNs P G w0 M0 R c
theorem S_call {f : Operand} {args : List Operand} {ats : Array TypeId} {dst : Option Tmp} {ty : TypeId} {p : String} {af : Array Edge} {all l : List Oper} {k : List It} {fr : List V} {st : List (List V)} {H : List AB} :
    RUNs P G w0 M0 R ⟨.ops all (⟨dst, .call ⟨.value f, args.toArray, ats⟩, ty, p, af, none⟩ :: l) :: k, fr, st, H⟩ =
      CALLS P G w0 M0 R ⟨.ops all (⟨dst, .call ⟨.value f, args.toArray, ats⟩, ty, p, af, none⟩ :: l) :: k, fr, st, H⟩ f args (evalO G fr f) (args.map (evalO G fr)) dst all l k fr st H :=
  propext ⟨fun h _ _ => h, fun h => h rfl rfl⟩
theorem RUNs_call {f : Operand} {args : List Operand} {ats : Array TypeId} {n : FuncId} {first cap vargs : List V} {dst : Option Tmp} {ty : TypeId} {p : String} {af : Array Edge} {all l : List Oper} {k : List It} {fr : List V} {st : List (List V)} {H : List AB}
    (hn : callB P n = true) (h : RUNc ⟨P, G, w0, M0, R⟩ n (first ++ vargs ++ cap) dst ⟨.ops all l :: k, fr, st, H⟩) :
    CALLS P G w0 M0 R ⟨.ops all (⟨dst, .call ⟨.value f, args.toArray, ats⟩, ty, p, af, none⟩ :: l) :: k, fr, st, H⟩ f args (.fn (.func n) first cap) vargs dst all l k fr st H := by
  intro h1 h2
  refine RUNs_stop (by rfl) ?_
  refine RUN_call (X := ⟨P, G, w0, M0, R⟩) (c := ⟨.value f, args.toArray, ats⟩) rfl rfl rfl h1 hn ?_
  rw [h2]; exact h
/-- A call by its contract. -/
theorem CALLS_spec {f : Operand} {args : List Operand} {ats : Array TypeId} {n : FuncId} {first cap vargs args' : List V} {r : V} {dst : Option Tmp} {ty : TypeId} {p : String} {af : Array Edge} {all l : List Oper} {k : List It} {fr : List V} {st : List (List V)} {H : List AB}
    (hs : Spec P G n args' r []) (hn : callB P n = true) (ha : fzL (immL H (rowsInL (first ++ vargs ++ cap))) (first ++ vargs ++ cap) = some args') (h : RUNs P G w0 M0 R ⟨.ops all l :: k, putV fr dst r, st, immL H (rowsInL (first ++ vargs ++ cap))⟩) :
    CALLS P G w0 M0 R ⟨.ops all (⟨dst, .call ⟨.value f, args.toArray, ats⟩, ty, p, af, none⟩ :: l) :: k, fr, st, H⟩ f args (.fn (.func n) first cap) vargs dst all l k fr st H :=
  RUNs_call hn (RUNc_spec (X := ⟨P, G, w0, M0, R⟩) ha hs (RUN_of_RUNs h))
theorem CALLS_spec2 {f : Operand} {args : List Operand} {ats : Array TypeId} {n : FuncId} {first cap vargs args' : List V} {r : V} {dst : Option Tmp} {ty : TypeId} {p : String} {af : Array Edge} {all l : List Oper} {k : List It} {fr : List V} {st : List (List V)} {H : List AB}
    (hn : callB P n = true) (ha : fzL (immL H (rowsInL (first ++ vargs ++ cap))) (first ++ vargs ++ cap) = some args') (hs : Spec P G n args' r []) (h : RUNs P G w0 M0 R ⟨.ops all l :: k, putV fr dst r, st, immL H (rowsInL (first ++ vargs ++ cap))⟩) :
    CALLS P G w0 M0 R ⟨.ops all (⟨dst, .call ⟨.value f, args.toArray, ats⟩, ty, p, af, none⟩ :: l) :: k, fr, st, H⟩ f args (.fn (.func n) first cap) vargs dst all l k fr st H := CALLS_spec hs hn ha h
/-- A call gone into. -/
theorem CALLS_in {f : Operand} {args : List Operand} {ats : Array TypeId} {n : FuncId} {first cap vargs : List V} {dst : Option Tmp} {ty : TypeId} {p : String} {af : Array Edge} {all l : List Oper} {k : List It} {fr : List V} {st : List (List V)} {H : List AB} {fn : Func} {body : Code}
    (hf : P.funcs[n]? = some fn) (hb : fn.body = some body) (hn : callB P n = true)
    (h : RUNs P G w0 M0 R ⟨.code body :: .ret fn.results.toList dst :: .ops all l :: k, (first ++ vargs ++ cap) ++ List.replicate (fn.ntmps - (first ++ vargs ++ cap).length) undefV, fr :: st, H⟩) :
    CALLS P G w0 M0 R ⟨.ops all (⟨dst, .call ⟨.value f, args.toArray, ats⟩, ty, p, af, none⟩ :: l) :: k, fr, st, H⟩ f args (.fn (.func n) first cap) vargs dst all l k fr st H :=
  RUNs_call hn (RUNc_inline (X := ⟨P, G, w0, M0, R⟩) hf hb (RUN_of_RUNs h))

theorem RUNs_loop {α : Type} (I : α → List V × List AB) (μ : α → Nat) (x0 : α) {body : Code} {k : List It} {fr : List V} {st : List (List V)} {H : List AB}
    (h0 : Weak fr H (I x0).1 (I x0).2) (hst : st.all (okL (I x0).2.length) = true)
    (round : ∀ x, RUNs P G w0 M0 R ⟨.code body :: .inv (LoopJ ⟨P, G, w0, M0, R⟩ I μ x st) :: k, (I x).1, st, (I x).2⟩) : RUNs P G w0 M0 R ⟨.code (.loop body) :: k, fr, st, H⟩ :=
  RUNs_stop (by rfl) (RUN_loop (X := ⟨P, G, w0, M0, R⟩) I μ x0 h0 hst fun x => RUN_of_RUNs (round x))
theorem RUNs_inv {α : Type} {I : α → List V × List AB} {μ : α → Nat} {x : α} (y : α) {k : List It} {fr : List V} {st : List (List V)} {H : List AB} (hμ : μ y < μ x) (hw : Weak fr H (I y).1 (I y).2) (hst : st.all (okL (I y).2.length) = true) :
    RUNs P G w0 M0 R ⟨.inv (LoopJ ⟨P, G, w0, M0, R⟩ I μ x st) :: k, fr, st, H⟩ :=
  RUNs_stop (by rfl) (RUN_inv (X := ⟨P, G, w0, M0, R⟩) y hμ hw hst)
/-- What a call is to hand back. -/
def RES (G : Glob) (w0 : World) (M0 : Nat → Nat → Prop) (r : V) (Hr : List AB) : Value → World → Prop := fun v w' => ∃ E', E'.w = w' ∧ E'.H = Hr ∧ EOK G w0 M0 E' ∧ Rep E' r v
/-- The end: what is handed back. -/
def FINS (P : Program) (G : Glob) (w0 : World) (M0 : Nat → Nat → Prop) (r : V) (Hr : List AB) (c : Cfg) (rs : List ResultVar) (vs : Option (List V)) (fr : List V) (H : List AB) : Prop :=
  resL P fr H rs = vs → RUNs P G w0 M0 (RES G w0 M0 r Hr) c
theorem S_fin {r : V} {Hr : List AB} {rs : List ResultVar} {k : List It} {fr : List V} {st : List (List V)} {H : List AB} :
    RUNs P G w0 M0 (RES G w0 M0 r Hr) ⟨.fin rs :: k, fr, st, H⟩ = FINS P G w0 M0 r Hr ⟨.fin rs :: k, fr, st, H⟩ rs (resL P fr H rs) fr H :=
  propext ⟨fun h _ => h, fun h => h rfl⟩
theorem FINS_done {r : V} {rs : List ResultVar} {k : List It} {fr : List V} {st : List (List V)} {H : List AB} {vs : List V}
    (h : fz (immL H (rowsIn (resV vs))) (resV vs) = some r) : FINS P G w0 M0 r [] ⟨.fin rs :: k, fr, st, H⟩ rs (some vs) fr H := fun h1 =>
  RUNs_stop (by rfl) (RUN_fin (X := ⟨P, G, w0, M0, RES G w0 M0 r []⟩) (vs := vs) (r' := r) rfl h1 h rfl)
theorem FINS_own {r : V} {Hr : List AB} {rs : List ResultVar} {k : List It} {fr : List V} {st : List (List V)} {H : List AB} {vs : List V}
    (h : resV vs = r) (h2 : H = Hr) : FINS P G w0 M0 r Hr ⟨.fin rs :: k, fr, st, H⟩ rs (some vs) fr H := fun h1 =>
  RUNs_stop (by rfl) (RUN_finH (X := ⟨P, G, w0, M0, RES G w0 M0 r Hr⟩) (vs := vs) rfl h1 h h2)
end

theorem Spec.of_runs {P : Program} {G : Glob} {n : FuncId} {args : List V} {r : V} {Hr : List AB} (fn : Func) {body : Code} (hf : P.funcs[n]? = some fn) (hb : fn.body = some body)
    (h : ∀ w0 M0, RUNs P G w0 M0 (RES G w0 M0 r Hr) ⟨[.code body, .fin fn.results.toList], args ++ List.replicate (fn.ntmps - args.length) undefV, [], []⟩) : Spec P G n args r Hr := by
  refine Spec.of_run (fn := fn) (body := body) hf hb ?_
  intro X hP hG hR
  obtain ⟨P', G', w0, M0, R⟩ := X
  simp only at hP hG hR; subst hP; subst hG; subst hR
  exact RUN_of_RUNs (h w0 M0)
end Go.Ab
