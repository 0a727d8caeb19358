/- The abstract machine: calls. -/
import Derived.Test.YtjohhgopnpoboaaAbRun
set_option linter.unusedVariables false
set_option linter.unusedSimpArgs false
namespace Go.Ab
open Go Go.RowKit

/-- What a call comes to: whatever it is handed that reads as args, it hands back what reads as r; Hr: what it made that may still be written. -/
def Spec (P : Program) (G : Glob) (n : FuncId) (args : List V) (r : V) (Hr : List AB) : Prop :=
  ∀ (E : Env) (xs : List Value), EOK G E.w E.M E.bare → RepL E.bare args xs →
    Calls P n xs.toArray E.w fun e w' => ∃ v E', e = .returned v ∧ E'.w = w' ∧ E'.H = Hr ∧ EOK G E.w E.M E' ∧ E.bare.le E' ∧ Rep E' r v

def RUNc (X : Ctx) (n : FuncId) (args : List V) (dst : Option Tmp) (c : Cfg) : Prop :=
  ∀ sa a E xs, E.H = c.H → RelE X c.fr c.st sa a E → RepL E args xs →
    Calls X.P n xs.toArray E.w fun e w' => ∃ v, e = .returned v ∧ post X.P X.R c.k sa .normal (a.put dst v) w'

def callB (P : Program) (n : FuncId) : Bool := match P.funcs[n]? with
  | some fn => fn.body.isSome && !(fn.name == "runtime.NumGoroutine")
  | none => false

theorem RUN_call {X : Ctx} {all l : List Oper} {o : Oper} {k : List It} {fr : List V} {st : List (List V)} {H : List AB} {c : Call} {f : Operand} {n : FuncId} {first cap : List V}
    (hg : guardV all fr o = some true) (ho : o.op = .call c) (hc : c.callee = .value f) (hf : evalO X.G fr f = .fn (.func n) first cap) (hn : callB X.P n = true)
    (h : RUNc X n (first ++ c.args.toList.map (evalO X.G fr) ++ cap) o.dst ⟨.ops all l :: k, fr, st, H⟩) : RUN X ⟨.ops all (o :: l) :: k, fr, st, H⟩ := by
  intro sa a E hH hR
  simp only at hH hR
  simp only [post]
  unfold wpList
  rw [if_pos (guardV_sound (X := X) hR.fr hg)]
  refine .inl ?_
  have hfr := evalO_sound hR.ok hR.fr f
  rw [hf] at hfr; simp only [Rep] at hfr
  obtain ⟨xs, ys, hfv, h1, h2⟩ := hfr
  have hargs := evalL_sound hR.ok hR.fr c.args.toList
  unfold callB at hn
  split at hn
  · rename_i fn hfn
    simp only [Bool.and_eq_true, Bool.not_eq_true'] at hn
    have hbn : fn.body.isNone = false := by cases hb : fn.body <;> simp_all
    have hrun : (execOp a.eval o).run X.P E.w = .ok (.enter n (xs ++ c.args.toList.map a.eval ++ ys).toArray) E.w := by
      have e : (xs.toArray ++ c.args.map a.eval ++ ys.toArray) = (xs ++ c.args.toList.map a.eval ++ ys).toArray := by
        apply Array.ext'; simp
      simp only [execOp, ho, resolve, hc, hfv, Deferred.ofValue, Sem.run_bind, Sem.run_pure, Result.andThen_ok, invoke, callFunc, run_program, hfn, hn.2, hbn, Bool.false_eq_true, if_false, e]
    unfold Oper.wp
    rw [hrun, Oper.upon_enter]
    refine (h sa a E _ hH hR ((h1.append hargs).append h2)).mono ?_
    rintro e w' ⟨v, rfl, hp⟩
    simpa only [post] using hp
  · cases hn

theorem RUNc_inline {X : Ctx} {n : FuncId} {args : List V} {dst : Option Tmp} {k : List It} {fr : List V} {st : List (List V)} {H : List AB} {fn : Func} {body : Code} (hf : X.P.funcs[n]? = some fn) (hb : fn.body = some body)
    (h : RUN X ⟨.code body :: .ret fn.results.toList dst :: k, args ++ List.replicate (fn.ntmps - args.length) undefV, fr :: st, H⟩) : RUNc X n args dst ⟨k, fr, st, H⟩ := by
  intro sa a E xs hH hR hx
  have hl := hx.length
  refine calls_of_wp hf hb ?_
  have hrep : RepL E (args ++ List.replicate (fn.ntmps - args.length) undefV) (xs.toArray ++ Array.replicate (fn.ntmps - xs.toArray.size) undef).toList := by
    have hr : ∀ m, RepL E (List.replicate m undefV) (List.replicate m undef) := by
      intro m
      induction m with
      | zero => exact RepL.nil E
      | succ m ih => exact RepL.cons (Rep.undef E) ih
    simpa [hl] using hx.append (hr (fn.ntmps - args.length))
  have := h (a :: sa) ⟨xs.toArray ++ Array.replicate (fn.ntmps - xs.toArray.size) undef, []⟩ E hH ⟨hR.ok, hrep, rfl, ⟨a, sa, rfl, hR.fr, hR.df, hR.st⟩⟩
  simp only [post] at this
  refine Code.wp_mono (fun e a' w' q => ?_) this
  cases e <;> simp only [post] at q <;> try exact q.elim
  · obtain ⟨h1, v, h2, a0, sa', h3, h4⟩ := q
    injection h3 with h3 h5; subst h3; subst h5
    exact ⟨h1, v, by rw [results_eq]; exact h2, v, rfl, h4⟩
  · obtain ⟨h1, v, h2, a0, sa', h3, h4⟩ := q
    injection h3 with h3 h5; subst h3; subst h5
    exact ⟨h1, v, by rw [results_eq]; exact h2, v, rfl, h4⟩

/-- A call by its contract: nothing that it made may be written any more. -/
theorem RUNc_spec {X : Ctx} {n : FuncId} {args args' : List V} {r : V} {dst : Option Tmp} {k : List It} {fr : List V} {st : List (List V)} {H : List AB}
    (ha : fzL (immL H (rowsInL args)) args = some args') (hs : Spec X.P X.G n args' r []) (h : RUN X ⟨k, putV fr dst r, st, immL H (rowsInL args)⟩) : RUNc X n args dst ⟨k, fr, st, H⟩ := by
  intro sa a E xs hH hR hx
  obtain ⟨E1, e1, e2, e3, e4⟩ := EOK.immL (rowsInL args) hR.ok
  simp only at hH
  rw [hH] at e2
  have hx1 := RepL.mono _ e4 hx
  have hx' := fzL_sound e3 args hx1 (by rw [e2]; exact ha)
  have hb : EOK X.G E1.w E1.M E1.bare := ⟨Below.refl _ _, fun _ _ _ => Iff.rfl, e3.mlt, fun i v b hp => by simp [Env.bare] at hp, fun i v j u b hp => by simp [Env.bare] at hp, fun i h hh => by simp [Env.bare] at hh, e3.glob⟩
  have hcalls := hs E1 xs hb hx'
  rw [e1] at hcalls
  refine hcalls.mono ?_
  rintro e w' ⟨v, E2, rfl, hw, hH2, hok, hle, hv⟩
  refine ⟨v, rfl, ?_⟩
  -- the two together
  let E3 : Env := { w := E2.w, φ := E1.φ, τ := E1.τ, M := fun b o => if b < E.w.heap.size then E1.M b o else False, H := E1.H }
  have hstab : ∀ b o u, E1.stab b o u → E3.stab b o u := by
    intro b o u hs
    have := hle.stab b o u hs
    refine ⟨this.1, ?_⟩
    show ¬ (if b < E.w.heap.size then E1.M b o else False)
    split
    · exact hs.2
    · exact id
  have hle3 : E1.le E3 := ⟨hstab, fun _ _ _ h => h, fun _ _ _ _ _ h => .inr ⟨_, _, _, _, h, Nat.le_refl _, fun _ => rfl⟩, fun _ h => h⟩
  have hle23 : E2.le E3 := by
    refine ⟨fun b o u hs => ⟨hs.1, ?_⟩, fun i v b hp => ?_, fun i sz es v m hr => ?_, fun i hd => ?_⟩
    · show ¬ (if b < E.w.heap.size then E1.M b o else False)
      split
      · rename_i hb; exact fun hm => hs.2 ((hok.old b o hb).2 hm)
      · exact id
    · obtain ⟨⟨x, hx⟩, _⟩ := hok.phi i v b hp
      rw [hH2] at hx; simp at hx
    · rw [hH2] at hr; simp at hr
    · rw [hH2] at hd; simp at hd
  have hsize := hok.below.size
  have hE3 : EOK X.G X.w0 X.M0 E3 := by
    refine ⟨?_, fun b o hb => ?_, fun b o hm => ?_, fun i v b hp => ?_, e3.inj, fun i x hx => ?_, fun g cs hg => RepAt.mono cs hle3.bare (e3.glob g cs hg)⟩
    · have h1 : Below X.w0.heap.size X.w0 E.w := by rw [← e1]; exact e3.below
      exact h1.trans (hok.below.mono h1.size)
    · have h1 : Below X.w0.heap.size X.w0 E.w := by rw [← e1]; exact e3.below
      show (if b < E.w.heap.size then E1.M b o else False) ↔ _
      rw [if_pos (Nat.lt_of_lt_of_le hb h1.size)]
      exact e3.old b o hb
    · have hm' : (if b < E.w.heap.size then E1.M b o else False) := hm
      split at hm'
      · rename_i hb; exact Nat.lt_of_lt_of_le hb hsize
      · exact hm'.elim
    · obtain ⟨k1, k2, k3, k4⟩ := e3.phi i v b hp
      rw [e1] at k4
      exact ⟨k1, k2, k3, Nat.lt_of_lt_of_le k4 hsize⟩
    · refine HOK.mono hle3 rfl rfl (fun v b hb => ?_) (e3.blk i x hx)
      have hb4 := (e3.phi i v b hb).2.2.2
      rw [e1] at hb4
      refine ⟨?_, fun o => ?_⟩
      · show E2.w.heap[b]? = E1.w.heap[b]?
        rw [e1]; exact hok.below.block b hb4
      · show (if b < E.w.heap.size then E1.M b o else False) ↔ _
        rw [if_pos hb4]
  have hR1 : RelE X fr st sa a E1 := ⟨e3, RepL.mono _ e4 hR.fr, hR.df, hR.st.mono e4⟩
  have := h sa (a.put dst v) E3 (by show E1.H = _; exact e2) (hR1.put hle3 hE3 (Rep.mono _ hle23 hv) dst)
  rw [← hw]; exact this

/-- A contract out of a run. -/
theorem Spec.of_run {P : Program} {G : Glob} {n : FuncId} {args : List V} {r : V} {Hr : List AB} {fn : Func} {body : Code} (hf : P.funcs[n]? = some fn) (hb : fn.body = some body)
    (h : ∀ X : Ctx, X.P = P → X.G = G → (X.R = fun v w' => ∃ E', E'.w = w' ∧ E'.H = Hr ∧ EOK X.G X.w0 X.M0 E' ∧ Rep E' r v) →
      RUN X ⟨[.code body, .fin fn.results.toList], args ++ List.replicate (fn.ntmps - args.length) undefV, [], []⟩) : Spec P G n args r Hr := by
  intro E xs hE hx
  have hl := hx.length
  refine calls_of_wp hf hb ?_
  have hrep : RepL E.bare (args ++ List.replicate (fn.ntmps - args.length) undefV) (xs.toArray ++ Array.replicate (fn.ntmps - xs.toArray.size) undef).toList := by
    have hr : ∀ m, RepL E.bare (List.replicate m undefV) (List.replicate m undef) := by
      intro m
      induction m with
      | zero => exact RepL.nil _
      | succ m ih => exact RepL.cons (Rep.undef _) ih
    simpa [hl] using hx.append (hr (fn.ntmps - args.length))
  have := h ⟨P, G, E.w, E.M, fun v w' => ∃ E', E'.w = w' ∧ E'.H = Hr ∧ EOK G E.w E.M E' ∧ Rep E' r v⟩ rfl rfl rfl [] ⟨_, []⟩ E.bare rfl ⟨hE, hrep, rfl, rfl⟩
  simp only [post] at this
  refine Code.wp_mono (fun e a' w' q => ?_) this
  have key : ∀ {v : Value}, (∃ E', E'.w = w' ∧ E'.H = Hr ∧ EOK G E.w E.M E' ∧ Rep E' r v) → ∃ v' E', Ending.returned v = .returned v' ∧ E'.w = w' ∧ E'.H = Hr ∧ EOK G E.w E.M E' ∧ E.bare.le E' ∧ Rep E' r v' := by
    rintro v ⟨E', h1, h2, h3, h4⟩
    refine ⟨v, E', rfl, h1, h2, h3, ⟨fun b o u hs => ?_, fun i v b hp => by simp [Env.bare] at hp, fun _ _ _ _ _ hh => by simp [Env.bare] at hh, fun _ hh => by simp [Env.bare] at hh⟩, h4⟩
    have hb := World.block_lt_of_cell? E.w ⟨b, o, none⟩ hs.1
    refine ⟨?_, fun hm => hs.2 ((h3.old b o hb).1 hm)⟩
    rw [h3.below.cell (p := ⟨b, o, none⟩) hb]; exact hs.1
  cases e <;> simp only [post] at q <;> try exact q.elim
  · obtain ⟨h1, v, h2, h3⟩ := q
    exact ⟨h1, v, by rw [results_eq]; exact h2, key h3⟩
  · obtain ⟨h1, v, h2, h3⟩ := q
    exact ⟨h1, v, by rw [results_eq]; exact h2, key h3⟩

/-- The end, where all that was made is handed on for good. -/
theorem RUN_fin {X : Ctx} {rs : List ResultVar} {k : List It} {fr : List V} {st : List (List V)} {H : List AB} {vs : List V} {r r' : V}
    (hR : X.R = fun v w' => ∃ E', E'.w = w' ∧ E'.H = [] ∧ EOK X.G X.w0 X.M0 E' ∧ Rep E' r v)
    (h1 : resL X.P fr H rs = some vs) (h2 : fz (immL H (rowsIn (resV vs))) (resV vs) = some r') (h3 : r' = r) : RUN X ⟨.fin rs :: k, fr, st, H⟩ := by
  intro sa a E hH hRel
  simp only at hH hRel; subst hH; subst h3
  simp only [post]
  obtain ⟨x, k1, k2⟩ := results_sound hRel.ok hRel.fr h1
  obtain ⟨E1, e1, e2, e3, e4⟩ := EOK.immL (rowsIn (resV vs)) hRel.ok
  refine ⟨hRel.df, x, k1, ?_⟩
  rw [hR]
  refine ⟨E1.bare, e1, rfl, ⟨e3.below, e3.old, e3.mlt, fun i v b hp => by simp [Env.bare] at hp, fun i v j u b hp => by simp [Env.bare] at hp, fun i h hh => by simp [Env.bare] at hh, e3.glob⟩, ?_⟩
  exact fz_sound e3 _ (Rep.mono _ e4 k2) (by rw [e2]; exact h2)
/-- The end, where what was made is handed on, to be written. -/
theorem RUN_finH {X : Ctx} {rs : List ResultVar} {k : List It} {fr : List V} {st : List (List V)} {H Hr : List AB} {vs : List V} {r : V}
    (hR : X.R = fun v w' => ∃ E', E'.w = w' ∧ E'.H = Hr ∧ EOK X.G X.w0 X.M0 E' ∧ Rep E' r v)
    (h1 : resL X.P fr H rs = some vs) (h2 : resV vs = r) (h3 : H = Hr) : RUN X ⟨.fin rs :: k, fr, st, H⟩ := by
  intro sa a E hH hRel
  simp only at hH hRel; subst hH; subst h2; subst h3
  simp only [post]
  obtain ⟨x, k1, k2⟩ := results_sound hRel.ok hRel.fr h1
  refine ⟨hRel.df, x, k1, ?_⟩
  rw [hR]
  exact ⟨E, rfl, rfl, hRel.ok, k2⟩
end Go.Ab
