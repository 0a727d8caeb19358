/- The abstract machine: structs of numbers held against one another. -/
import Derived.Test.YtjohhgopnpoboaaAbOps3
set_option linter.unusedVariables false
set_option linter.unusedSimpArgs false
namespace Go.Ab
open Go Go.RowKit
section
variable {P : Program}

def eqNums : List Value → List Value → Option Bool
  | [], [] => some true
  | .int j a :: xs, .int k b :: ys => if j = k then (eqNums xs ys).map ((a == b) && ·) else none
  | _, _ => none
theorem eqCells_cons {x y : V} {xs ys : List V} {b : Bool} (h : eqCells (x :: xs) (y :: ys) = some b) : ∃ j m n c, x = .val (.int j m) ∧ y = .val (.int j n) ∧ eqCells xs ys = some c ∧ b = ((m == n) && c) := by
  unfold eqCells at h
  split at h
  · rename_i h1 _; cases h1
  · rename_i j a xs' k b' ys' h1 h2
    injection h1 with h1 h3; injection h2 with h2 h4
    subst h1; subst h2; subst h3; subst h4
    split at h
    · rename_i hjk; subst hjk
      simp only [Option.map_eq_some_iff] at h
      obtain ⟨c, h5, rfl⟩ := h
      exact ⟨j, a, b', c, rfl, rfl, h5, rfl⟩
    · cases h
  · cases h
theorem eqCells_nums {E : Env} : ∀ {xs ys : List V} {us vs : List Value} {b : Bool}, RepL E xs us → RepL E ys vs → eqCells xs ys = some b → eqNums us vs = some b
  | [], [], us, vs, b, h, k, he => by
    simp only [RepL] at h k; subst h; subst k; simpa [eqCells, eqNums] using he
  | [], _ :: _, us, vs, b, h1, h2, he => by simp [eqCells] at he
  | _ :: _, [], us, vs, b, h1, h2, he => by simp [eqCells] at he
  | x :: xs, y :: ys, us, vs, b, h1, h2, he => by
    obtain ⟨j, m, n, c, rfl, rfl, h5, rfl⟩ := eqCells_cons he
    simp only [RepL, Rep] at h1 h2
    obtain ⟨u, us, rfl, ⟨rfl, _⟩, h3⟩ := h1
    obtain ⟨v, vs, rfl, ⟨rfl, _⟩, h4⟩ := h2
    simp only [eqNums, if_true, eqCells_nums h3 h4 h5, Option.map_some]

def eqBody (xs ys : Array Value) (d : Nat) (f : Field) (s : Option Bool × Unit) : Sem (ForInStep (Option Bool × Unit)) :=
  if f.name ≠ "_" then do
    let x ← part f.type xs f.offset
    let y ← part f.type ys f.offset
    let r ← Op.equalIn d f.type x y
    if (!r) = true then pure (ForInStep.done (some false, ())) else pure (ForInStep.yield (none, ()))
  else pure (ForInStep.yield (none, ()))

theorem eqLoop (xs ys : Array Value) (d : Nat) (w : World) : ∀ (l : List Field) (k : Nat) (b : Bool), (∀ j f, l[j]? = some f → f.name ≠ "_" ∧ f.offset = k + j ∧ ∃ kd, P.underlying f.type = some (.int kd)) →
    (xs.toList.drop k).length = l.length → eqNums (xs.toList.drop k) (ys.toList.drop k) = some b →
    (forIn l ((none : Option Bool), ()) (eqBody xs ys (d + 1))).run P w = .ok (if b then (none, ()) else (some false, ())) w
  | [], k, b, _, hl, he => by
    have : xs.toList.drop k = [] := List.eq_nil_of_length_eq_zero hl
    rw [this] at he
    cases hy : ys.toList.drop k with
    | nil => rw [hy] at he; simp [eqNums] at he; subst he; simp
    | cons y ys' => rw [hy] at he; simp [eqNums] at he
  | f :: l, k, b, hf, hl, he => by
    obtain ⟨g1, g2, kd, g3⟩ := hf 0 f (by simp)
    cases hx : xs.toList.drop k with
    | nil => rw [hx] at hl; simp at hl
    | cons x xs' =>
      cases hy : ys.toList.drop k with
      | nil => rw [hx, hy] at he; cases x <;> simp [eqNums] at he
      | cons y ys' =>
        rw [hx, hy] at he
        cases x <;> cases y <;> first | (simp [eqNums] at he; done) | skip
        rename_i j m j' n
        simp only [eqNums] at he
        split at he
        · rename_i hjj; subst hjj
          simp only [Option.map_eq_some_iff] at he
          obtain ⟨c, h5, rfl⟩ := he
          have e1 : xs[k]? = some (.int j m) := by
            have : (xs.toList.drop k)[0]? = some (.int j m) := by rw [hx]; rfl
            rw [List.getElem?_drop] at this; simpa using this
          have e2 : ys[k]? = some (.int j n) := by
            have : (ys.toList.drop k)[0]? = some (.int j n) := by rw [hy]; rfl
            rw [List.getElem?_drop] at this; simpa using this
          have e3 : xs.toList.drop (k + 1) = xs' := by rw [← List.drop_drop, hx]; rfl
          have e4 : ys.toList.drop (k + 1) = ys' := by rw [← List.drop_drop, hy]; rfl
          have ih := eqLoop xs ys d w l (k + 1) c (fun i f' hf' => by
            obtain ⟨q1, q2, q3⟩ := hf (i + 1) f' (by simpa using hf')
            exact ⟨q1, by omega, q3⟩) (by rw [e3]; rw [hx] at hl; simpa using hl) (by rw [e3, e4]; exact h5)
          have hag : (isAgg f.type).run P w = .ok false w := by simp [isAgg, run_underlying g3]
          have hp1 : (part f.type xs f.offset).run P w = .ok (.int j m) w := by simp [part, hag, g2, e1]
          have hp2 : (part f.type ys f.offset).run P w = .ok (.int j n) w := by simp [part, hag, g2, e2]
          have hq : (Op.equalIn (d + 1) f.type (.int j m) (.int j n)).run P w = .ok (m == n) w := by
            rw [Op.equalIn, Sem.run_bind, run_underlying g3]; simp
          rw [List.forIn_cons, Sem.run_bind]
          simp only [eqBody, if_pos g1, Sem.run_bind, hp1, hp2, hq, Result.andThen_ok]
          by_cases hmn : m = n
          · subst hmn
            simp only [beq_self_eq_true, Bool.not_true, Bool.false_eq_true, if_false, Sem.run_pure, Result.andThen_ok, Bool.true_and]
            exact ih
          · have : (m == n) = false := by simpa using hmn
            simp [this]
        · cases he

theorem run_equal_flat {E : Env} {t : TypeId} {d : TD} (ht : tdOf P t = some d) (hf : d.flat = true) {us vs : List Value} {b : Bool} (h : eqNums us vs = some b) (hl : us.length = d.size) (w : World) :
    (Op.equal t (.agg us.toArray) (.agg vs.toArray)).run P w = .ok b w ∧ P.eqGuardType P.depth t = false := by
  obtain ⟨i, ds, z, h1, h2, h3, h4, rfl⟩ := tdOf_some ht
  simp only [flatOf, h2] at hf
  cases ds <;> simp only [Bool.false_eq_true] at hf
  rename_i fields
  simp only [Bool.and_eq_true, Bool.not_eq_true'] at hf
  obtain ⟨⟨⟨f0, f1⟩, f2⟩, f3⟩ := hf
  have hl' : us.length = i.size := hl
  have f0' : fields.size = i.size := by simpa [szOf, h1] using f0
  refine ⟨?_, f2⟩
  have := eqLoop (P := P) us.toArray vs.toArray 9998 w fields.toList 0 b (fun j f hj => by
    have := (List.all_eq_true.1 f3) (f, j) (by rw [List.mem_zipIdx_iff_getElem?]; simpa using hj)
    simp only [Bool.and_eq_true, bne_iff_ne, ne_eq, beq_iff_eq] at this
    obtain ⟨⟨g1, g2⟩, g3⟩ := this
    refine ⟨g1, by omega, ?_⟩
    split at g3
    · rename_i kd hk; exact ⟨kd, hk⟩
    · cases g3) (by simp; omega) (by simpa using h)
  unfold Op.equal Op.maxDepth
  rw [show (10000 : Nat) = (9998 + 1) + 1 from rfl, Op.equalIn, Sem.run_bind, run_underlying h2]
  simp only [Result.andThen_ok, Sem.run_bind, run_program, f1, Bool.false_eq_true, if_false]
  have e : (forIn fields ((none : Option Bool), ()) (fun f s => eqBody us.toArray vs.toArray (9998 + 1) f s)) = (forIn fields.toList ((none : Option Bool), ()) (eqBody us.toArray vs.toArray (9998 + 1))) := by
    rw [← Array.forIn_toList]
  have e2 := congrArg (fun s => s.run P w) e
  simp only [this] at e2
  unfold eqBody at e2
  rw [e2]
  cases b <;> simp

variable {G : Glob} {w0 : World} {M0 : Nat → Nat → Prop} {E : Env} {a : Act} {fr : List V} {o : Oper} {nid : Nat} {v : V}
theorem ok_binS {op : BinOp} {t yt : TypeId} {x y : Operand} (ho : o.op = .binOp op t x y yt) (hE : EOK G w0 M0 E) (hfr : RepL E fr a.tmps.toList) {xs ys : List V} (hx : evalO G fr x = .agg xs) (hy : evalO G fr y = .agg ys)
    {d : TD} (ht : tdOf P t = some d) (hf : d.flat = true) (hl : xs.length = d.size) {b : Bool} (h : eqCells xs ys = some b) (hv : (op = .eql ∧ v = .bool b) ∨ (op = .neq ∧ v = .bool (!b))) : Comes P G w0 M0 E a o v E.H := by
  have hr := evalO_sound hE hfr x
  have hr2 := evalO_sound hE hfr y
  rw [hx] at hr; rw [hy] at hr2; simp only [Rep] at hr hr2
  obtain ⟨us, hus, h3⟩ := hr
  obtain ⟨vs, hvs, h4⟩ := hr2
  have q := fun w => run_equal_flat (E := E) ht hf (eqCells_nums h3 h4 h) (by rw [h3.length]; exact hl) w
  have e1 : binOp .eql t (.agg us.toArray) (.agg vs.toArray) = (do pure (.bool (← Op.equal t (.agg us.toArray) (.agg vs.toArray)))) := rfl
  have e2 : binOp .neq t (.agg us.toArray) (.agg vs.toArray) = (do pure (.bool (!(← Op.equal t (.agg us.toArray) (.agg vs.toArray))))) := rfl
  have g1 : ∀ op, (eqGuard op t x y (.agg us.toArray) (.agg vs.toArray)).run P E.w = .ok () E.w := by
    intro op
    cases op <;> simp [eqGuard, (q E.w).2]
  rcases hv with ⟨rfl, rfl⟩ | ⟨rfl, rfl⟩
  · refine Comes.pure hE (x := .bool b) ?_ (by simp [Rep, Value.oneCell'])
    simp only [execOp, ho, hus, hvs, Sem.run_bind, g1, Result.andThen_ok, e1, (q E.w).1, Sem.run_pure]
  · refine Comes.pure hE (x := .bool (!b)) ?_ (by simp [Rep, Value.oneCell'])
    simp only [execOp, ho, hus, hvs, Sem.run_bind, g1, Result.andThen_ok, e2, (q E.w).1, Sem.run_pure]

/-! A slice literal. -/
theorem inOrder_eq : ∀ {i : Nat} {ps : List (Nat × V)} {vs : List V}, inOrder i ps = some vs → ps = (vs.zipIdx i).map fun x => (x.2, x.1)
  | i, [], vs, h => by simp only [inOrder] at h; injection h with h; subst h; rfl
  | i, (j, v) :: ps, vs, h => by
    simp only [inOrder] at h
    split at h
    · rename_i hji; subst hji
      simp only [Option.map_eq_some_iff] at h
      obtain ⟨ws, h1, rfl⟩ := h
      simp [List.zipIdx_cons, inOrder_eq h1]
    · cases h
theorem flat_rep {E : Env} : ∀ {vs : List V} {xs : List Value}, RepL E vs xs → (∀ v ∈ vs, v ≠ .any) → RepL E (flatV vs) (xs.flatMap fun v => v.cells.toList)
  | [], xs, h, _ => by simp only [RepL] at h; subst h; simpa [flatV] using RepL.nil E
  | v :: vs, xs, h, hn => by
    simp only [RepL] at h
    obtain ⟨y, ys, rfl, h1, h2⟩ := h
    simp only [flatV, List.flatMap_cons]
    exact (Rep.cells h1 (hn v (by simp))).append (flat_rep h2 fun u hu => hn u (by simp [hu]))
theorem fz_not_any {H : List AB} {v v' : V} (h : fz H v = some v') : v' ≠ .any := by
  rintro rfl
  cases v <;> simp [fz, fzRow] at h
  all_goals first
    | (split at h <;> first | (cases h; done) | (split at h <;> cases h; done))
    | (simp only [Option.bind_eq_some_iff, Option.map_eq_some_iff] at h; obtain ⟨_, _, _, _, h⟩ := h; cases h)
theorem fzL_not_any {H : List AB} : ∀ {vs vs' : List V}, fzL H vs = some vs' → ∀ v ∈ vs', v ≠ .any
  | [], vs', h, v, hv => by simp only [fzL] at h; injection h with h; subst h; simp at hv
  | u :: us, vs', h, v, hv => by
    simp only [fzL, Option.bind_eq_some_iff, Option.map_eq_some_iff] at h
    obtain ⟨u', h1, ws, h2, rfl⟩ := h
    rcases List.mem_cons.1 hv with rfl | hv
    · exact fz_not_any h1
    · exact fzL_not_any h2 v hv
theorem fzL_length {H : List AB} : ∀ {vs vs' : List V}, fzL H vs = some vs' → vs'.length = vs.length
  | [], vs', h => by simp only [fzL] at h; injection h with h; subst h; rfl
  | u :: us, vs', h => by
    simp only [fzL, Option.bind_eq_some_iff, Option.map_eq_some_iff] at h
    obtain ⟨u', h1, ws, h2, rfl⟩ := h
    simp [fzL_length h2]

theorem ok_buildSlice {t : TypeId} {n : Nat} {ps : Array (Nat × Operand)} (ho : o.op = .buildSlice t n ps) (hE : EOK G w0 M0 E) (hfr : RepL E fr a.tmps.toList) {d : TD} (ht : tdOf P t = some d) {e esz by_ : Nat} (hd : d.sh = .slice e esz by_)
    {vs es : List V} (hio : inOrder 0 (ps.toList.map fun p => (p.1, evalO G fr p.2)) = some vs) (hfz : fzL E.H vs = some es) (hn : es.length = n) (hc : ∀ e ∈ es, e.cells.length = esz) (hpos : 0 < esz) (hsmall : n * esz ≤ 16777216) (hz : (P.info? e).bind (·.zero) ≠ none) :
    Comes P G w0 M0 E a o (.sl es .tight) E.H := by
  obtain ⟨i, ds, z, h1, h2, h3, h4, rfl⟩ := tdOf_some ht
  obtain ⟨ie, rfl, hie, rfl, rfl⟩ := shOf_slice hd
  obtain ⟨ze, hze⟩ : ∃ ze, ie.zero = some ze := by
    cases hq : ie.zero with
    | none => rw [hie] at hz; simp [hq] at hz
    | some ze => exact ⟨ze, rfl⟩
  have hev := evalL_sound hE hfr (ps.toList.map (·.2))
  have hps := inOrder_eq hio
  have hvs : vs = (ps.toList.map (·.2)).map (evalO G fr) := by
    have := congrArg (List.map (·.2)) hps
    simp only [List.map_map] at this
    rw [show ((fun x : Nat × V => x.2) ∘ fun x : V × Nat => (x.2, x.1)) = Prod.fst from rfl, List.zipIdx_map_fst] at this
    rw [← this]; simp [Function.comp_def]
  rw [← hvs] at hev
  have hfzs := fzL_sound hE _ hev hfz
  have hidx : ps.toList.map (·.1) = (List.range' 0 vs.length) := by
    have := congrArg (List.map (·.1)) hps
    simp only [List.map_map] at this
    rw [show ((fun x : Nat × V => x.1) ∘ fun x : V × Nat => (x.2, x.1)) = Prod.snd from rfl, List.zipIdx_map_snd] at this
    simpa [Function.comp_def] using this
  have hparts : (ps.toList.map fun p => (p.1, a.eval p.2)) = (((ps.toList.map (·.2)).map a.eval).zipIdx 0).map fun x => (x.2, x.1) := by
    apply List.ext_getElem?
    intro j
    have hj : (ps.toList.map (·.1))[j]? = (List.range' 0 vs.length)[j]? := by rw [hidx]
    simp only [List.getElem?_map, List.getElem?_zipIdx] at hj ⊢
    cases hp : ps.toList[j]? with
    | none => simp
    | some p =>
      rw [hp] at hj
      simp only [Option.map_some] at hj ⊢
      have hlt : j < vs.length := by
        rcases Nat.lt_or_ge j vs.length with h | h
        · exact h
        · rw [List.getElem?_eq_none (by simpa using h)] at hj; cases hj
      rw [List.getElem?_range' hlt] at hj
      injection hj with hj
      simp only [Nat.zero_add, Nat.one_mul] at hj
      simp [hj]
  have hxs : ∀ y ∈ (ps.toList.map (·.2)).map a.eval, y.cells.size = ie.size := by
    intro y hy
    obtain ⟨j, hj⟩ := List.getElem?_of_mem hy
    have hl := hfzs.length
    obtain ⟨e', he'⟩ : ∃ e', es[j]? = some e' := by
      have : j < es.length := by rw [← hl]; exact (List.getElem?_eq_some_iff.1 hj).1
      exact ⟨es[j], List.getElem?_eq_getElem this⟩
    obtain ⟨y', hy', hr⟩ := hfzs.get j e' he'
    rw [hj] at hy'; injection hy' with hy'; subst hy'
    have hm := List.mem_of_getElem? he'
    have := (Rep.cells hr (fzL_not_any hfz _ hm)).length
    rw [hc _ hm] at this; simpa using this
  have hlen : ((ps.toList.map (·.2)).map a.eval).length = n := by rw [hfzs.length]; exact hn
  have hrun : (Instr.buildSlice t n (ps.map fun (i, x) => (i, a.eval x))).run P E.w = .ok (.slice (some ⟨E.w.heap.size, 0, none⟩) n n) (E.w.alloc (.cells (((ps.toList.map (·.2)).map a.eval).flatMap fun v => v.cells.toList).toArray e)) := by
    have hpl : (ps.map fun (i, x) => (i, a.eval x)).toList = (((ps.toList.map (·.2)).map a.eval).zipIdx 0).map fun x => (x.2, x.1) := by
      rw [← hparts]; simp
    by_cases h0 : n = 0
    · have hnil : ((ps.toList.map (·.2)).map a.eval) = [] := List.eq_nil_of_length_eq_zero (by omega)
      have hp0 : ps = #[] := by
        have : ps.toList = [] := by simpa using hnil
        rw [← Array.toArray_toList (xs := ps), this]
      subst h0; subst hp0
      simp [Instr.buildSlice, run_underlying h2, sizeOf, typeInfo, hie, Instr.fill, newRow]
      rw [show Array.range 0 = #[] by apply Array.ext'; simp, Array.map_empty]
    · have hp2 : 0 < n * ie.size := Nat.mul_pos (by omega) hpos
      refine run_buildSlice E.w t e n _ _ ie ze h2 hie hze (by show ¬ n * ie.size > 2 ^ 24; have : (2 : Nat) ^ 24 = 16777216 := rfl; omega) (by omega) ?_
      rw [hpl]
      exact Great.fill_whole hpos _ _ hxs (by rw [hlen]; simp)
  obtain ⟨g1, g2⟩ := hE.allocImm (.cells (((ps.toList.map (·.2)).map a.eval).flatMap fun v => v.cells.toList).toArray e)
  refine ⟨.slice (some ⟨E.w.heap.size, 0, none⟩) n n, { E with w := E.w.alloc (.cells (((ps.toList.map (·.2)).map a.eval).flatMap fun v => v.cells.toList).toArray e) }, .inl ?_, rfl, g2, g1, ?_⟩
  · simp only [execOp, ho, Sem.run_bind, hrun, Result.andThen_ok, Sem.run_pure]
  simp only [Rep]
  refine ⟨some ⟨E.w.heap.size, 0, none⟩, n, n, rfl, hn.symm, Nat.le_refl _, ?_, by simp, by simp, fun hne => ⟨ie.size, _, 0, rfl, RepEs.flat.2 ⟨hc, ?_⟩⟩⟩
  · have : n ≤ n * ie.size := Nat.le_mul_of_pos_right _ hpos
    simp only [maxLen]; omega
  · refine RepAt.of (RepL.mono _ (Env.le.bare g2) (flat_rep hfzs (fzL_not_any hfz))) fun j u hu => ⟨?_, fun hm => ?_⟩
    · show (E.w.alloc _).cell? _ = _
      rw [Nat.zero_add, World.cell?_alloc_new]
      simpa using hu
    · have := hE.mlt _ _ hm; omega
theorem ok_buildSliceOwn {t : TypeId} {n : Nat} {ps : Array (Nat × Operand)} (ho : o.op = .buildSlice t n ps) (hE : EOK G w0 M0 E) (hfr : RepL E fr a.tmps.toList) {d : TD} (ht : tdOf P t = some d) {e esz by_ : Nat} (hd : d.sh = .slice e esz by_)
    {nid : Nat} {H' : List AB} {vs : List V} (hio : inOrder 0 (ps.toList.map fun p => (p.1, evalO G fr p.2)) = some vs) (hn : vs.length = n) (hc : ∀ e ∈ vs, chk esz e.cells = true) (hpos : 0 < esz) (hsmall : n * esz ≤ 16777216) (hz : (P.info? e).bind (·.zero) ≠ none)  (hnew : NewAt E.H nid (.var (vs.flatMap V.cells)) H') :
    Comes P G w0 M0 E a o (.vs nid 0 n esz) H' := by
  obtain ⟨i, ds, z, h1, h2, h3, h4, rfl⟩ := tdOf_some ht
  obtain ⟨ie, rfl, hie, rfl, rfl⟩ := shOf_slice hd
  obtain ⟨ze, hze⟩ : ∃ ze, ie.zero = some ze := by
    cases hq : ie.zero with
    | none => rw [hie] at hz; simp [hq] at hz
    | some ze => exact ⟨ze, rfl⟩
  have hev := evalL_sound hE hfr (ps.toList.map (·.2))
  have hps := inOrder_eq hio
  have hvs : vs = (ps.toList.map (·.2)).map (evalO G fr) := by
    have := congrArg (List.map (·.2)) hps
    simp only [List.map_map] at this
    rw [show ((fun x : Nat × V => x.2) ∘ fun x : V × Nat => (x.2, x.1)) = Prod.fst from rfl, List.zipIdx_map_fst] at this
    rw [← this]; simp [Function.comp_def]
  rw [← hvs] at hev
  have hfzs := hev
  have hany : ∀ v ∈ vs, v ≠ .any := by
    intro v hv e; subst e
    have := hc _ hv
    generalize ie.size = q at hpos this
    cases q with
    | zero => exact absurd hpos (Nat.lt_irrefl 0)
    | succ q => simp [V.cells, chk, oneV] at this
  have hidx : ps.toList.map (·.1) = (List.range' 0 vs.length) := by
    have := congrArg (List.map (·.1)) hps
    simp only [List.map_map] at this
    rw [show ((fun x : Nat × V => x.1) ∘ fun x : V × Nat => (x.2, x.1)) = Prod.snd from rfl, List.zipIdx_map_snd] at this
    simpa [Function.comp_def] using this
  have hparts : (ps.toList.map fun p => (p.1, a.eval p.2)) = (((ps.toList.map (·.2)).map a.eval).zipIdx 0).map fun x => (x.2, x.1) := by
    apply List.ext_getElem?
    intro j
    have hj : (ps.toList.map (·.1))[j]? = (List.range' 0 vs.length)[j]? := by rw [hidx]
    simp only [List.getElem?_map, List.getElem?_zipIdx] at hj ⊢
    cases hp : ps.toList[j]? with
    | none => simp
    | some p =>
      rw [hp] at hj
      simp only [Option.map_some] at hj ⊢
      have hlt : j < vs.length := by
        rcases Nat.lt_or_ge j vs.length with h | h
        · exact h
        · rw [List.getElem?_eq_none (by simpa using h)] at hj; cases hj
      rw [List.getElem?_range' hlt] at hj
      injection hj with hj
      simp only [Nat.zero_add, Nat.one_mul] at hj
      simp [hj]
  have hxs : ∀ y ∈ (ps.toList.map (·.2)).map a.eval, y.cells.size = ie.size := by
    intro y hy
    obtain ⟨j, hj⟩ := List.getElem?_of_mem hy
    have hl := hfzs.length
    obtain ⟨e', he'⟩ : ∃ e', vs[j]? = some e' := by
      have : j < vs.length := by rw [← hl]; exact (List.getElem?_eq_some_iff.1 hj).1
      exact ⟨vs[j], List.getElem?_eq_getElem this⟩
    obtain ⟨y', hy', hr⟩ := hfzs.get j e' he'
    rw [hj] at hy'; injection hy' with hy'; subst hy'
    have hm := List.mem_of_getElem? he'
    have := (Rep.cells hr (hany _ hm)).length
    rw [((chk_eq _ _).2 (hc _ hm)).1] at this; simpa using this
  have hlen : ((ps.toList.map (·.2)).map a.eval).length = n := by rw [hfzs.length]; exact hn
  have hrun : (Instr.buildSlice t n (ps.map fun (i, x) => (i, a.eval x))).run P E.w = .ok (.slice (some ⟨E.w.heap.size, 0, none⟩) n n) (E.w.alloc (.cells (((ps.toList.map (·.2)).map a.eval).flatMap fun v => v.cells.toList).toArray e)) := by
    have hpl : (ps.map fun (i, x) => (i, a.eval x)).toList = (((ps.toList.map (·.2)).map a.eval).zipIdx 0).map fun x => (x.2, x.1) := by
      rw [← hparts]; simp
    by_cases h0 : n = 0
    · have hnil : ((ps.toList.map (·.2)).map a.eval) = [] := List.eq_nil_of_length_eq_zero (by omega)
      have hp0 : ps = #[] := by
        have : ps.toList = [] := by simpa using hnil
        rw [← Array.toArray_toList (xs := ps), this]
      subst h0; subst hp0
      simp [Instr.buildSlice, run_underlying h2, sizeOf, typeInfo, hie, Instr.fill, newRow]
      rw [show Array.range 0 = #[] by apply Array.ext'; simp, Array.map_empty]
    · have hp2 : 0 < n * ie.size := Nat.mul_pos (by omega) hpos
      refine run_buildSlice E.w t e n _ _ ie ze h2 hie hze (by show ¬ n * ie.size > 2 ^ 24; have : (2 : Nat) ^ 24 = 16777216 := rfl; omega) (by omega) ?_
      rw [hpl]
      exact Great.fill_whole hpos _ _ hxs (by rw [hlen]; simp)
  obtain ⟨g1, g2⟩ := hE.allocOwn (.cells (((ps.toList.map (·.2)).map a.eval).flatMap fun v => v.cells.toList).toArray e) hnew (.bool false) (fun _ => True) (by simp)
    (fun hle => by
      refine ⟨E.w.heap.size, (((ps.toList.map (·.2)).map a.eval).flatMap fun v => v.cells.toList).toArray, e, by simp [Env.allocOwn], alloc_at _ _, ?_, fun o => .inr ⟨rfl, trivial⟩⟩
      have := RepL.mono _ hle (flat_rep hev hany)
      exact this)
  refine ⟨.slice (some ⟨E.w.heap.size, 0, none⟩) n n, _, .inl ?_, rfl, g2, g1, ?_⟩
  · simp only [execOp, ho, Sem.run_bind, hrun, Result.andThen_ok, Sem.run_pure, Env.allocOwn]
  simp only [Rep]
  exact ⟨E.w.heap.size, n, by simp [Env.allocOwn], rfl, Nat.le_refl _⟩
end
end Go.Ab
