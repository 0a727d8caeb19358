/- The abstract machine: from a law's contract to its row. -/
import Derived.Test.YtjohhgopnpoboaaAbGlue
import Derived.ProofKit
import Derived.SizedLaws
set_option linter.unusedVariables false
set_option linter.unusedSimpArgs false
namespace Go.Ab
open Go Go.RowKit Go.ChangeShapes

theorem E0_ok (w : World) : EOK [] (E0 w).w (E0 w).M (E0 w).bare :=
  ⟨Below.refl _ _, fun _ _ _ => Iff.rfl, fun _ _ h => h.elim, fun i v b hp => by simp [E0, Env.bare] at hp, fun i v j u b hp => by simp [E0, Env.bare] at hp, fun i h hh => by simp [E0, Env.bare] at hh, fun g cs hg => by simp at hg⟩

/-- A value, out of its cells. -/
theorem Rep_of_cells {P : Program} {W : World} {r : Go.Reach} {base : Nat} {t : TypeId} {v : Value} {vs : List V} (hv : Value.okWide P W r base t v) (h : RepL (E0 W) vs v.cells.toList) : Rep (E0 W) (elV (aggOf P t) vs) v := by
  unfold Value.okWide at hv
  have hs : (∃ fs, P.underlying t = some (.struct fs)) ∨ (∃ n e, P.underlying t = some (.array n e)) ∨ (aggOf P t = false ∧ Cell.okWide P W r base t v) := by
    unfold aggOf
    split at hv
    · rename_i fs hu; exact .inl ⟨fs, hu⟩
    · rename_i n e hu; exact .inr (.inl ⟨n, e, hu⟩)
    · rename_i hu1 hu2
      refine .inr (.inr ⟨?_, hv⟩)
      split
      · rename_i fs hu; exact absurd hu (hu1 fs)
      · rename_i n e hu; exact absurd hu (hu2 n e)
      · rfl
  rcases hs with ⟨fs, hu⟩ | ⟨n, e, hu⟩ | ⟨ha, hc⟩
  · rw [hu] at hv
    simp only at hv
    obtain ⟨cs, rfl, _⟩ := hv
    have : aggOf P t = true := by unfold aggOf; rw [hu]
    rw [this]
    simp only [elV, cond_true, Rep]
    exact ⟨cs.toList, by simp, by simpa [Value.cells] using h⟩
  · rw [hu] at hv
    simp only at hv
    obtain ⟨cs, rfl, _⟩ := hv
    have : aggOf P t = true := by unfold aggOf; rw [hu]
    rw [this]
    simp only [elV, cond_true, Rep]
    exact ⟨cs.toList, by simp, by simpa [Value.cells] using h⟩
  · rw [ha]
    simp only [elV, cond_false]
    cases vs with
    | nil => simp [Rep]
    | cons c cs =>
      simp only
      have hone : v.cells = #[v] ∨ ∃ xs, v = .agg xs := by cases v <;> first | exact .inl rfl | exact .inr ⟨_, rfl⟩
      rcases hone with h1 | ⟨xs, rfl⟩
      · rw [h1] at h
        exact (RepL.cons_iff.1 h).1
      · exfalso
        cases hu : P.underlying t with
        | none => simp [Cell.okWide, Cell.ok, hu] at hc
        | some ds => cases ds <;> simp [Cell.okWide, Cell.ok, hu] at hc

theorem args_later {H : Type} {enc : TypeId × Value → H} {P : Program} {W W' : World} (hl : laidOutB P = true) (hb : Below W.heap.size W W') : ∀ (ts : List TypeId) (vs : List Value) (ds : List (DataW H)) (ps : List MemPlace), (ts.all fun t => P.readableRec t && decide (t < P.types.size)) = true →
    DataW.TrodAll enc P W 0 (fun _ => true) true ts vs ds ps → (∀ x ∈ ps, x.block < W.heap.size) → DataW.TrodAll enc P W' 0 (fun b => decide (b < W.heap.size)) true ts vs ds ps
  | [], vs, ds, ps, hr, h, hlt => by
    obtain ⟨rfl, rfl, rfl⟩ := trodAll_nil h; exact trodAll_mk0
  | t :: ts, vs, ds, ps, hr, h, hlt => by
    simp only [List.all_cons, Bool.and_eq_true, decide_eq_true_eq] at hr
    obtain ⟨v, vs', d, ds', p, q, rfl, rfl, rfl, h1, h2⟩ := trodAll_cons h
    refine ⟨p, q, Below.trod hl hr.1.1 hr.1.2 h1 hb (fun x hx => hlt x (List.mem_append_left _ hx)), args_later hl hb ts vs' ds' q (by simpa using hr.2) h2 (fun x hx => hlt x (List.mem_append_right _ hx)), rfl⟩

theorem law_lifted {H : Type} {enc : TypeId × Value → H} {C : Checked} {os : Os} {f : FuncId} {fn : Func} {s : ChangeSpec} {conds : List PathCond} {fresh handsOn : Bool} {tb : TypeId} (own : ownKnob C.prog.godebug = none) (laid : laidOutB C.prog = true) (started : os.Started) (noInit : C.prog.inits.idxOf? f = none) (hfn : C.prog.funcs[f]? = some fn)
    (hres : fn.resultTypes = #[tb]) (hb : C.prog.underlying tb = some .bool) (hvars : s.vars = []) (hS : ∀ ds : List (DataW H), ds.length = fn.params.toList.length → (s.fn H (ds ++ [])).results = [.lit (.bool true)] ∧ (s.fn H (ds ++ [])).args = ds ∧ (s.fn H (ds ++ [])).vars = [])
    (hread : (fn.params.toList.all fun t => C.prog.readableRec t && decide (t < C.prog.types.size)) = true)
    (witness : ∃ (w : World) (tape : Tape) (i : Input), w.os = os ∧ (w.forCall tape i).Shaped C.prog ∧ i.vars = [] ∧ Input.okWide C.prog (w.forCall tape i) .any w.heap.size f i ∧
      s.pre6 enc C.prog fn conds false (w.forCall tape i).memory i.args ∧ ({} : Assume).holds C.prog (lone (Frame.enter C.prog f i.args .normal) [] (w.forCall tape i)))
    (contract : ∀ (W : World) (base : Nat) (args : Array Value) (ds : List (DataW H)) (ps : List MemPlace), DataW.TrodAll enc C.prog W 0 (fun _ => true) true fn.params.toList args.toList ds ps →
      (∀ (j : Nat) t v, fn.params[j]? = some t → args[j]? = some v → Value.okWide C.prog W .any base t v) → ∃ vs : List V, RepL (E0 W) vs args.toList ∧ Spec C.prog [] f vs (.bool true) []) :
    ReturnsInHanded {} C os f .any (s.pre6 enc C.prog fn conds false) (s.post enc C.prog fn false fresh handsOn false) := by
  refine returnsInHanded_of_change_sized own started noInit hfn witness ?_
  intro W base args ds gs before hval hW _ _ _
  have hW' := hW
  obtain ⟨p, q, hA, hV, rfl, _, _⟩ := hW
  rw [hvars] at hV
  obtain ⟨rfl, rfl⟩ : gs = [] ∧ q = [] := by
    cases gs <;> cases q <;> simp [DataW.TrodVars] at hV
    exact ⟨rfl, rfl⟩
  obtain ⟨vs, hr, hs⟩ := contract W base args ds p hA hval
  have hlt : ∀ x ∈ p, x.block < W.heap.size := fun x hx => hW'.lt x (List.mem_append_left _ hx)
  have hlen : ds.length = fn.params.toList.length := by
    have : ∀ (ts : List TypeId) (vs : List Value) (ds : List (DataW H)) (ps : List MemPlace), DataW.TrodAll enc C.prog W 0 (fun _ => true) true ts vs ds ps → ds.length = ts.length := by
      intro ts
      induction ts with
      | nil => intro vs ds ps h; obtain ⟨_, rfl, _⟩ := trodAll_nil h; rfl
      | cons t ts ih => intro vs ds ps h; obtain ⟨v, vs', d, ds', p, q, rfl, rfl, rfl, h1, h2⟩ := trodAll_cons h; simp [ih _ _ _ h2]
    exact this _ _ _ _ hA
  obtain ⟨s1, s2, s3⟩ := hS ds hlen
  have hcalls := hs (E0 W) args.toList (E0_ok W) hr
  rw [show args.toList.toArray = args by simp] at hcalls
  refine hcalls.mono ?_
  rintro e W' ⟨v, E', rfl, rfl, _, hok, _, hv⟩
  simp only [Rep] at hv
  obtain ⟨rfl, _⟩ := hv
  refine ⟨_, rfl, ds, [], p ++ [], [], p, [], hW', ?_, ?_, ?_, hok.below.frame _, fun h => by cases h⟩
  · rw [s1, hres]
    exact trodAll_mk1 (shut_bool hb true)
  · rw [s2]
    exact args_later laid hok.below _ _ _ _ hread hA hlt
  · rw [s3, hvars]; rfl
end Go.Ab
