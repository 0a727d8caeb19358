/- The abstract machine: methods called through an interface. -/
import Derived.Test.YtjohhgopnpoboaaAbCtl
set_option linter.unusedVariables false
set_option linter.unusedSimpArgs false
namespace Go.Ab
open Go Go.RowKit
/-- The method of a type that is no pointer, its receiver the value itself. -/
def methB (P : Program) (t : TypeId) (name : String) : Option FuncId := match P.info? t with
  | some i => match i.methods.find? (·.name == name) with
    | some m => match m.path.toList, m.func, P.underlying t with
      | [], some (f, false), some (.struct _) => some f
      | [], some (f, false), some (.func _ _ _) => some f
      | _, _, _ => none
    | none => none
  | none => none
theorem methB_run {P : Program} {t : TypeId} {name : String} {f : FuncId} (h : methB P t name = some f) (n : Nat) (v : Value) (w : World) : (method (n + 1) t v name).run P w = .ok (f, v) w := by
  unfold methB at h
  split at h
  · rename_i i hi
    split at h
    · rename_i m hm
      split at h
      · rename_i fs hp hf hu
        injection h with h; subst h
        simp [method, typeInfo, hi, hm, hp, hf, follow, receiverAt, underlying, hu, Place.get]
      · rename_i hp hf hu
        injection h with h; subst h
        simp [method, typeInfo, hi, hm, hp, hf, follow, receiverAt, underlying, hu, Place.get]
      · cases h
    · cases h
  · cases h

theorem RUN_invoke {X : Ctx} {all l : List Oper} {o : Oper} {k : List It} {fr : List V} {st : List (List V)} {H : List AB} {c : Call} {f : Operand} {name : String} {t : TypeId} {n : FuncId} {v : V}
    (hg : guardV all fr o = some true) (ho : o.op = .call c) (hc : c.callee = .invoke f name) (hf : evalO X.G fr f = .iface t v) (hm : methB X.P t name = some n) (hn : callB X.P n = true)
    (h : RUNc X n (v :: c.args.toList.map (evalO X.G fr)) o.dst ⟨.ops all l :: k, fr, st, H⟩) : RUN X ⟨.ops all (o :: l) :: k, fr, st, H⟩ := by
  intro sa a E hH hR
  simp only at hH hR
  simp only [post]
  unfold wpList
  rw [if_pos (guardV_sound (X := X) hR.fr hg)]
  refine .inl ?_
  have hfr := evalO_sound hR.ok hR.fr f
  rw [hf] at hfr; simp only [Rep] at hfr
  obtain ⟨y, hfv, h1⟩ := hfr
  have hargs := evalL_sound hR.ok hR.fr c.args.toList
  unfold callB at hn
  split at hn
  · rename_i fn hfn
    simp only [Bool.and_eq_true, Bool.not_eq_true'] at hn
    have hbn : fn.body.isNone = false := by cases hb : fn.body <;> simp_all
    have hrun : (execOp a.eval o).run X.P E.w = .ok (.enter n (y :: c.args.toList.map a.eval).toArray) E.w := by
      have e : (#[a.eval f] ++ c.args.map a.eval).extract 1 (#[a.eval f] ++ c.args.map a.eval).size = (c.args.toList.map a.eval).toArray := by
        apply Array.ext'; simp [List.take_of_length_le]
      have e0 : (#[a.eval f] ++ c.args.map a.eval)[0]? = some (a.eval f) := by rw [← Array.getElem?_toList, Array.toList_append]; rfl
      have e2 : #[y] ++ (c.args.toList.map a.eval).toArray = (y :: c.args.toList.map a.eval).toArray := by apply Array.ext'; rw [Array.toList_append]; rfl
      simp only [execOp, ho, resolve, hc, Sem.run_bind, Sem.run_pure, Result.andThen_ok, invoke]
      rw [e0]
      rw [hfv] at e
      simp only [e, callMethod, hfv, Sem.run_bind, Sem.run_pure, Result.andThen_ok, run_program, Made.depth, ← Nat.add_assoc, methB_run hm, callFunc, hfn, hn.2, hbn, Bool.false_eq_true, if_false, e2]
    unfold Oper.wp
    rw [hrun, Oper.upon_enter]
    refine (h sa a E _ hH hR (RepL.cons h1 hargs)).mono ?_
    rintro e w' ⟨v, rfl, hp⟩
    simpa only [post] using hp
  · cases hn
section
variable {P : Program} {G : Glob} {w0 : World} {M0 : Nat → Nat → Prop} {R : Value → World → Prop}
def INVS (P : Program) (G : Glob) (w0 : World) (M0 : Nat → Nat → Prop) (R : Value → World → Prop) (c : Cfg) (f : Operand) (name : String) (args : List Operand) (vf : V) (vargs : List V) (dst : Option Tmp) (all l : List Oper) (k : List It) (fr : List V) (st : List (List V)) (H : List AB) : Prop :=
  evalO G fr f = vf → args.map (evalO G fr) = vargs → RUNs P G w0 M0 R c
theorem S_inv {f : Operand} {name : String} {args : List Operand} {ats : Array TypeId} {dst : Option Tmp} {ty : TypeId} {p : String} {af : Array Edge} {all l : List Oper} {k : List It} {fr : List V} {st : List (List V)} {H : List AB} :
    RUNs P G w0 M0 R ⟨.ops all (⟨dst, .call ⟨.invoke f name, args.toArray, ats⟩, ty, p, af, none⟩ :: l) :: k, fr, st, H⟩ =
      INVS P G w0 M0 R ⟨.ops all (⟨dst, .call ⟨.invoke f name, args.toArray, ats⟩, ty, p, af, none⟩ :: l) :: k, fr, st, H⟩ f name args (evalO G fr f) (args.map (evalO G fr)) dst all l k fr st H :=
  propext ⟨fun h _ _ => h, fun h => h rfl rfl⟩
theorem INVS_call {f : Operand} {name : String} {args : List Operand} {ats : Array TypeId} {t : TypeId} {v : V} {n : FuncId} {vargs : List V} {dst : Option Tmp} {ty : TypeId} {p : String} {af : Array Edge} {all l : List Oper} {k : List It} {fr : List V} {st : List (List V)} {H : List AB}
    (hm : methB P t name = some n) (hn : callB P n = true) (h : RUNc ⟨P, G, w0, M0, R⟩ n (v :: vargs) dst ⟨.ops all l :: k, fr, st, H⟩) :
    INVS P G w0 M0 R ⟨.ops all (⟨dst, .call ⟨.invoke f name, args.toArray, ats⟩, ty, p, af, none⟩ :: l) :: k, fr, st, H⟩ f name args (.iface t v) vargs dst all l k fr st H := by
  intro h1 h2
  refine RUNs_stop (by rfl) ?_
  refine RUN_invoke (X := ⟨P, G, w0, M0, R⟩) (c := ⟨.invoke f name, args.toArray, ats⟩) rfl rfl rfl h1 hm hn ?_
  rw [show (Call.args ⟨.invoke f name, args.toArray, ats⟩).toList = args by rfl, h2]; exact h
theorem INVS_spec2 {f : Operand} {name : String} {args : List Operand} {ats : Array TypeId} {t : TypeId} {v : V} {n : FuncId} {vargs args' : List V} {r : V} {dst : Option Tmp} {ty : TypeId} {p : String} {af : Array Edge} {all l : List Oper} {k : List It} {fr : List V} {st : List (List V)} {H : List AB}
    (hm : methB P t name = some n) (hn : callB P n = true) (ha : fzL (immL H (rowsInL (v :: vargs))) (v :: vargs) = some args') (hs : Spec P G n args' r []) (h : RUNs P G w0 M0 R ⟨.ops all l :: k, putV fr dst r, st, immL H (rowsInL (v :: vargs))⟩) :
    INVS P G w0 M0 R ⟨.ops all (⟨dst, .call ⟨.invoke f name, args.toArray, ats⟩, ty, p, af, none⟩ :: l) :: k, fr, st, H⟩ f name args (.iface t v) vargs dst all l k fr st H :=
  INVS_call hm hn (RUNc_spec (X := ⟨P, G, w0, M0, R⟩) ha hs (RUN_of_RUNs h))
end
end Go.Ab
namespace Go.Ab
open Go Go.RowKit
section
variable {P : Program} {G : Glob} {w0 : World} {M0 : Nat → Nat → Prop} {R : Value → World → Prop}
theorem OPV_is {c : Cfg} {o : Option V} {r : V} {dst : Option Tmp} {all l : List Oper} {k : List It} {fr : List V} {st : List (List V)} {H : List AB} (h : o = some r) (hr : RUNs P G w0 M0 R ⟨.ops all l :: k, putV fr dst r, st, H⟩) : OPV P G w0 M0 R c o dst all l k fr st H := by
  subst h; exact hr
end
end Go.Ab
namespace Go.Ab
theorem lookR_enc {α : Type} {o : Option V} {z : V} (m : Option α) (f : α → V) (d : α) (h : o = m.map f) (hz : z = f d) : lookR true z o = .tup [f (m.getD d), .bool m.isSome] := by
  subst h; subst hz; cases m <;> rfl
theorem lookR_encF {α : Type} {o : Option V} {z : V} (m : Option α) (f : α → V) (d : α) (h : o = m.map f) (hz : z = f d) : lookR false z o = f (m.getD d) := by
  subst h; subst hz; cases m <;> rfl
theorem bif_map {α β : Type} (f : α → β) (b : Bool) (x y : Option α) : Option.map f (bif b then x else y) = bif b then Option.map f x else Option.map f y := by cases b <;> rfl
end Go.Ab
namespace Go.Ab
open Go Go.RowKit
section
variable {P : Program} {G : Glob} {w0 : World} {M0 : Nat → Nat → Prop} {R : Value → World → Prop}
theorem GRDN_f {dst : Option Tmp} {op : Op} {t : TypeId} {p : String} {af : Array Edge} {g : Option (Nat × Bool)} {all l : List Oper} {k : List It} {fr : List V} {st : List (List V)} {H : List AB} :
    GRDN P G w0 M0 R false ⟨dst, op, t, p, af, g⟩ all l k fr st H = RUNs P G w0 M0 R ⟨.ops all (⟨dst, op, t, p, af, none⟩ :: l) :: k, fr, st, H⟩ := rfl
theorem GRDN_t {dst : Option Tmp} {op : Op} {t : TypeId} {p : String} {af : Array Edge} {g : Option (Nat × Bool)} {all l : List Oper} {k : List It} {fr : List V} {st : List (List V)} {H : List AB} :
    GRDN P G w0 M0 R true ⟨dst, op, t, p, af, g⟩ all l k fr st H = RUNs P G w0 M0 R ⟨.ops all l :: k, putV fr dst (.tup []), st, H⟩ := rfl
end
end Go.Ab
