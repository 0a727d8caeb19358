/- The abstract machine: calls, loops and ends, for 'simp'. -/
import Derived.Test.YtjohhgopnpoboaaAbSimp3
set_option linter.unusedVariables false
set_option linter.unusedSimpArgs false
namespace Go.Ab
open Go Go.RowKit
section
variable {P : Program} {G : Glob} {w0 : World} {M0 : Nat → Nat → Prop} {R : Value → World → Prop}

/-- A call at hand: whose function, of what. -/
def CALLS (P : Program) (G : Glob) (w0 : World) (M0 : Nat → Nat → Prop) (R : Value → World → Prop) (c : Cfg) (f : Operand) (args : List Operand) (vf : V) (vargs : List V) (dst : Option Tmp) (all l : List Oper) (k : List It) (fr : List V) (st : List (List V)) (H : List AB) : Prop :=
  evalO G fr f = vf → args.map (evalO G fr) = vargs → RUNs P G w0 M0 R c
theorem S_call {f : Operand} {args : List Operand} {ats : Array TypeId} {dst : Option Tmp} {ty : TypeId} {p : String} {af : Array Edge} {all l : List Oper} {k : List It} {fr : List V} {st : List (List V)} {H : List AB} :
    RUNs P G w0 M0 R ⟨.ops all (⟨dst, .call ⟨.value f, args.toArray, ats⟩, ty, p, af, none⟩ :: l) :: k, fr, st, H⟩ =
      CALLS P G w0 M0 R ⟨.ops all (⟨dst, .call ⟨.value f, args.toArray, ats⟩, ty, p, af, none⟩ :: l) :: k, fr, st, H⟩ f args (evalO G fr f) (args.map (evalO G fr)) dst all l k fr st H :=
  propext ⟨fun h _ _ => h, fun h => h rfl rfl⟩
theorem RUNs_call {f : Operand} {args : List Operand} {ats : Array TypeId} {n : FuncId} {first cap vargs : List V} {dst : Option Tmp} {ty : TypeId} {p : String} {af : Array Edge} {all l : List Oper} {k : List It} {fr : List V} {st : List (List V)} {H : List AB}
    (hn : callB P n = true) (h : RUNc ⟨P, G, w0, M0, R⟩ n (first ++ vargs ++ cap) dst ⟨.ops all l :: k, fr, st, H⟩) :
    CALLS P G w0 M0 R ⟨.ops all (⟨dst, .call ⟨.value f, args.toArray, ats⟩, ty, p, af, none⟩ :: l) :: k, fr, st, H⟩ f args (.fn (.func n) first cap) vargs dst all l k fr st H := by
  intro h1 h2
  refine RUNs_stop (by rfl) ?_
  refine RUN_call (X := ⟨P, G, w0, M0, R⟩) (c := ⟨.value f, args.toArray, ats⟩) rfl rfl rfl h1 hn ?_
  rw [h2]; exact h
/-- A call by its contract. -/
theorem CALLS_spec {f : Operand} {args : List Operand} {ats : Array TypeId} {n : FuncId} {first cap vargs args' : List V} {r : V} {dst : Option Tmp} {ty : TypeId} {p : String} {af : Array Edge} {all l : List Oper} {k : List It} {fr : List V} {st : List (List V)} {H : List AB}
    (hs : Spec P G n args' r []) (hn : callB P n = true) (ha : fzL (immL H (rowsInL (first ++ vargs ++ cap))) (first ++ vargs ++ cap) = some args') (h : RUNs P G w0 M0 R ⟨.ops all l :: k, putV fr dst r, st, immL H (rowsInL (first ++ vargs ++ cap))⟩) :
    CALLS P G w0 M0 R ⟨.ops all (⟨dst, .call ⟨.value f, args.toArray, ats⟩, ty, p, af, none⟩ :: l) :: k, fr, st, H⟩ f args (.fn (.func n) first cap) vargs dst all l k fr st H :=
  RUNs_call hn (RUNc_spec (X := ⟨P, G, w0, M0, R⟩) ha hs (RUN_of_RUNs h))
theorem CALLS_spec2 {f : Operand} {args : List Operand} {ats : Array TypeId} {n : FuncId} {first cap vargs args' : List V} {r : V} {dst : Option Tmp} {ty : TypeId} {p : String} {af : Array Edge} {all l : List Oper} {k : List It} {fr : List V} {st : List (List V)} {H : List AB}
    (hn : callB P n = true) (ha : fzL (immL H (rowsInL (first ++ vargs ++ cap))) (first ++ vargs ++ cap) = some args') (hs : Spec P G n args' r []) (h : RUNs P G w0 M0 R ⟨.ops all l :: k, putV fr dst r, st, immL H (rowsInL (first ++ vargs ++ cap))⟩) :
    CALLS P G w0 M0 R ⟨.ops all (⟨dst, .call ⟨.value f, args.toArray, ats⟩, ty, p, af, none⟩ :: l) :: k, fr, st, H⟩ f args (.fn (.func n) first cap) vargs dst all l k fr st H := CALLS_spec hs hn ha h
/-- A call gone into. -/
theorem CALLS_in {f : Operand} {args : List Operand} {ats : Array TypeId} {n : FuncId} {first cap vargs : List V} {dst : Option Tmp} {ty : TypeId} {p : String} {af : Array Edge} {all l : List Oper} {k : List It} {fr : List V} {st : List (List V)} {H : List AB} {fn : Func} {body : Code}
    (hf : P.funcs[n]? = some fn) (hb : fn.body = some body) (hn : callB P n = true)
    (h : RUNs P G w0 M0 R ⟨.code body :: .ret fn.results.toList dst :: .ops all l :: k, (first ++ vargs ++ cap) ++ List.replicate (fn.ntmps - (first ++ vargs ++ cap).length) undefV, fr :: st, H⟩) :
    CALLS P G w0 M0 R ⟨.ops all (⟨dst, .call ⟨.value f, args.toArray, ats⟩, ty, p, af, none⟩ :: l) :: k, fr, st, H⟩ f args (.fn (.func n) first cap) vargs dst all l k fr st H :=
  RUNs_call hn (RUNc_inline (X := ⟨P, G, w0, M0, R⟩) hf hb (RUN_of_RUNs h))

theorem RUNs_loop {α : Type} (I : α → List V × List AB) (μ : α → Nat) (x0 : α) {body : Code} {k : List It} {fr : List V} {st : List (List V)} {H : List AB}
    (h0 : Weak fr H (I x0).1 (I x0).2) (hst : st.all (okL (I x0).2.length) = true)
    (round : ∀ x, RUNs P G w0 M0 R ⟨.code body :: .inv (LoopJ ⟨P, G, w0, M0, R⟩ I μ x st) :: k, (I x).1, st, (I x).2⟩) : RUNs P G w0 M0 R ⟨.code (.loop body) :: k, fr, st, H⟩ :=
  RUNs_stop (by rfl) (RUN_loop (X := ⟨P, G, w0, M0, R⟩) I μ x0 h0 hst fun x => RUN_of_RUNs (round x))
theorem RUNs_inv {α : Type} {I : α → List V × List AB} {μ : α → Nat} {x : α} (y : α) {k : List It} {fr : List V} {st : List (List V)} {H : List AB} (hμ : μ y < μ x) (hw : Weak fr H (I y).1 (I y).2) (hst : st.all (okL (I y).2.length) = true) :
    RUNs P G w0 M0 R ⟨.inv (LoopJ ⟨P, G, w0, M0, R⟩ I μ x st) :: k, fr, st, H⟩ :=
  RUNs_stop (by rfl) (RUN_inv (X := ⟨P, G, w0, M0, R⟩) y hμ hw hst)
/-- What a call is to hand back. -/
def RES (G : Glob) (w0 : World) (M0 : Nat → Nat → Prop) (r : V) (Hr : List AB) : Value → World → Prop := fun v w' => ∃ E', E'.w = w' ∧ E'.H = Hr ∧ EOK G w0 M0 E' ∧ Rep E' r v
/-- The end: what is handed back. -/
def FINS (P : Program) (G : Glob) (w0 : World) (M0 : Nat → Nat → Prop) (r : V) (Hr : List AB) (c : Cfg) (rs : List ResultVar) (vs : Option (List V)) (fr : List V) (H : List AB) : Prop :=
  resL P fr H rs = vs → RUNs P G w0 M0 (RES G w0 M0 r Hr) c
theorem S_fin {r : V} {Hr : List AB} {rs : List ResultVar} {k : List It} {fr : List V} {st : List (List V)} {H : List AB} :
    RUNs P G w0 M0 (RES G w0 M0 r Hr) ⟨.fin rs :: k, fr, st, H⟩ = FINS P G w0 M0 r Hr ⟨.fin rs :: k, fr, st, H⟩ rs (resL P fr H rs) fr H :=
  propext ⟨fun h _ => h, fun h => h rfl⟩
theorem FINS_done {r : V} {rs : List ResultVar} {k : List It} {fr : List V} {st : List (List V)} {H : List AB} {vs : List V}
    (h : fz (immL H (rowsIn (resV vs))) (resV vs) = some r) : FINS P G w0 M0 r [] ⟨.fin rs :: k, fr, st, H⟩ rs (some vs) fr H := fun h1 =>
  RUNs_stop (by rfl) (RUN_fin (X := ⟨P, G, w0, M0, RES G w0 M0 r []⟩) (vs := vs) (r' := r) rfl h1 h rfl)
theorem FINS_own {r : V} {Hr : List AB} {rs : List ResultVar} {k : List It} {fr : List V} {st : List (List V)} {H : List AB} {vs : List V}
    (h : resV vs = r) (h2 : H = Hr) : FINS P G w0 M0 r Hr ⟨.fin rs :: k, fr, st, H⟩ rs (some vs) fr H := fun h1 =>
  RUNs_stop (by rfl) (RUN_finH (X := ⟨P, G, w0, M0, RES G w0 M0 r Hr⟩) (vs := vs) rfl h1 h h2)
end

theorem Spec.of_runs {P : Program} {G : Glob} {n : FuncId} {args : List V} {r : V} {Hr : List AB} (fn : Func) {body : Code} (hf : P.funcs[n]? = some fn) (hb : fn.body = some body)
    (h : ∀ w0 M0, RUNs P G w0 M0 (RES G w0 M0 r Hr) ⟨[.code body, .fin fn.results.toList], args ++ List.replicate (fn.ntmps - args.length) undefV, [], []⟩) : Spec P G n args r Hr := by
  refine Spec.of_run (fn := fn) (body := body) hf hb ?_
  intro X hP hG hR
  obtain ⟨P', G', w0, M0, R⟩ := X
  simp only at hP hG hR; subst hP; subst hG; subst hR
  exact RUN_of_RUNs (h w0 M0)
end Go.Ab
