/- The abstract machine: every operation of 'eff', sound. -/
import Derived.Test.YtjohhgopnpoboaaAbOps
set_option linter.unusedVariables false
set_option linter.unusedSimpArgs false
namespace Go.Ab
open Go Go.RowKit
section
variable {P : Program} {G : Glob} {w0 : World} {M0 : Nat → Nat → Prop} {E : Env} {a : Act} {fr : List V} {o : Oper} {nid : Nat} {v : V} {u : Upd} {H' : List AB}

/-- The heap behind an operation. -/
def After (H : List AB) (nid : Nat) (u : Upd) (H' : List AB) : Prop := match u.new with
  | none => H' = setH H u.sets
  | some b => NewAt (setH H u.sets) nid b H'
theorem After.no {H H' : List AB} {nid : Nat} (h : After H nid .no H') : H' = H := h

theorem asBool_bool {b : Bool} (w : World) : (asBool (.bool b)).run P w = .ok b w := rfl

theorem ok_move {x : Operand} (ho : o.op = .move x) (hE : EOK G w0 M0 E) (hfr : RepL E fr a.tmps.toList) : Comes P G w0 M0 E a o (evalO G fr x) E.H :=
  Comes.pure hE (x := a.eval x) (by simp [execOp, ho]) (evalO_sound hE hfr x)
theorem ok_assign {x : Operand} (ho : o.op = .assign x) (hE : EOK G w0 M0 E) (hfr : RepL E fr a.tmps.toList) : Comes P G w0 M0 E a o (evalO G fr x) E.H :=
  Comes.pure hE (x := a.eval x) (by simp [execOp, ho]) (evalO_sound hE hfr x)
theorem ok_pick {c x y : Operand} (ho : o.op = .pick c x y) (hE : EOK G w0 M0 E) (hfr : RepL E fr a.tmps.toList) {t : Bool} (hc : evalO G fr c = .val (.bool t)) :
    Comes P G w0 M0 E a o (bif t then evalO G fr x else evalO G fr y) E.H := by
  have h := evalO_sound hE hfr c
  rw [hc] at h; simp only [Rep] at h
  refine Comes.pure hE (x := if t then a.eval x else a.eval y) (by simp [execOp, ho, h.1, asBool]) ?_
  cases t
  · exact evalO_sound hE hfr y
  · exact evalO_sound hE hfr x

theorem newVar_run (t : TypeId) (y : Value) (w : World) : (newVar t y).run P w = .ok ⟨w.heap.size, 0, none⟩ (w.alloc (.cells y.cells t)) := by
  simp [newVar, newRow]
theorem alloc_at (w : World) (o : Obj) : (w.alloc o).heap[w.heap.size]? = some o := by
  show (w.heap.push o)[_]? = _
  simp
/-- A variable of its own. -/
theorem ok_var {o : Oper} (hE : EOK G w0 M0 E) {t : TypeId} {y : Value} {cs : List V} (hr : RepL E cs y.cells.toList) (hrun : (execOp a.eval o).run P E.w = .ok (.value (.pointer (some ⟨E.w.heap.size, 0, none⟩))) (E.w.alloc (.cells y.cells t)))
    (hn : NewAt E.H nid (.var cs) H') : Comes P G w0 M0 E a o (.ptr nid 0) H' := by
  obtain ⟨h1, h2⟩ := hE.allocOwn (.cells y.cells t) hn (.bool false) (fun _ => True) (by simp)
    (fun hle => ⟨E.w.heap.size, y.cells, t, by simp [Env.allocOwn], alloc_at _ _, RepL.mono _ hle hr, fun o => .inr ⟨rfl, trivial⟩⟩)
  refine ⟨_, _, .inl hrun, rfl, h2, h1, ?_⟩
  simp only [Rep]
  exact ⟨E.w.heap.size, by simp [Env.allocOwn], rfl⟩
theorem ok_alloc {t : TypeId} (ho : o.op = .alloc t) (hE : EOK G w0 M0 E) {d : TD} (ht : tdOf P t = some d) (hn : NewAt E.H nid (.var d.zero) H') : Comes P G w0 M0 E a o (.ptr nid 0) H' := by
  obtain ⟨i, ds, z, h1, h2, h3, h4, rfl⟩ := tdOf_some ht
  refine ok_var hE (t := t) (y := z) (RepL.ofCells E _ h4) ?_ hn
  simp [execOp, ho, Instr.alloc, zeroValue, typeInfo, h1, h3, newVar_run]
theorem ok_box {t : TypeId} {x : Operand} (ho : o.op = .box t x) (hE : EOK G w0 M0 E) (hfr : RepL E fr a.tmps.toList) (hv : evalO G fr x ≠ .any) (hn : NewAt E.H nid (.var (evalO G fr x).cells) H') :
    Comes P G w0 M0 E a o (.ptr nid 0) H' := by
  refine ok_var hE (t := t) (y := a.eval x) (Rep.cells (evalO_sound hE hfr x) hv) ?_ hn
  simp [execOp, ho, Instr.box, newVar_run]

theorem ok_build {t : TypeId} {ps : Array (Nat × Operand)} (ho : o.op = .build t ps) (hE : EOK G w0 M0 E) (hfr : RepL E fr a.tmps.toList) {d : TD} (ht : tdOf P t = some d) {fs : List (Nat × Nat × Bool)} (hd : d.sh = .struct fs)
    {cs : List V} (h : buildV fs d.zero (ps.toList.map fun p => (p.1, evalO G fr p.2)) = some cs) : Comes P G w0 M0 E a o (.agg cs) E.H := by
  obtain ⟨i, ds, z, h1, h2, h3, h4, rfl⟩ := tdOf_some ht
  cases ds <;> simp only [shOf] at hd <;> try (first | cases hd; done | (split at hd <;> cases hd; done))
  rename_i fields
  split at hd
  · rename_i hall
    injection hd with hd; subst hd
    have hpl : fields.toList.mapM (fun f => (P.info? f.type).map fun i => (f.offset, i.size)) = some (fields.toList.map fun f => (f.offset, szOf P f.type)) := by
      generalize fields.toList = l at hall
      induction l with
      | nil => rfl
      | cons f l ih =>
        simp at hall
        obtain ⟨j, hj⟩ := Option.isSome_iff_exists.1 hall.1.1
        have ih := ih (by simpa using hall.2)
        simp [List.mapM_cons, hj, ih, szOf]
    obtain ⟨ys, k1, k2⟩ := fill_sound (E := E) (fields.toList.map fun f => (f.offset, szOf P f.type, aggOf P f.type)) ((fields.toList.map fun f => (f.offset, szOf P f.type)).toArray[·]?)
      (fun i => by simp only [List.getElem?_toArray, List.getElem?_map, Option.map_map]; rfl) (ps.toList.map fun p => (p.1, evalO G fr p.2)) (ps.toList.map fun p => (p.1, a.eval p.2)) _ _ z.cells (RepL.ofCells E _ h4)
      (by simp) (by simpa [Function.comp_def] using evalL_sound hE hfr (ps.toList.map (·.2))) h
    have hb : P.built t (ps.toList.map fun p => (p.1, a.eval p.2)) = some ys := by
      simp only [Program.built, h1, h2, h3, hpl, k1]
    refine Comes.pure hE (x := .agg ys) ?_ (by simp only [Rep]; exact ⟨ys.toList, by simp, k2⟩)
    have := run_build E.w t (ps.map fun p => (p.1, a.eval p.2)) ys (by simpa using hb)
    simp [execOp, ho, this]
  · cases hd

theorem ok_load {t : TypeId} {x : Operand} (ho : o.op = .load t x) (hE : EOK G w0 M0 E) (hfr : RepL E fr a.tmps.toList) {d : TD} (ht : tdOf P t = some d) (h : loadV E.H d (evalO G fr x) = some v) : Comes P G w0 M0 E a o v E.H := by
  obtain ⟨b, of, y, hx, hrun, hv⟩ := loadV_sound hE ht (evalO_sound hE hfr x) h
  exact Comes.pure hE (x := y) (by simp [execOp, ho, hx, Instr.loadAt, Instr.sureAddr, hrun]) hv
theorem ok_store {t : TypeId} {p x : Operand} (ho : o.op = .store t p x) (hE : EOK G w0 M0 E) (hfr : RepL E fr a.tmps.toList) {d : TD} (ht : tdOf P t = some d) (hl : (evalO G fr x).cells.length = d.size) (h1 : (evalO G fr x).cells.all oneV = true)
    (h : storeV E.H (evalO G fr x).cells (evalO G fr p) = some u) (hA : After E.H nid u H') : Comes P G w0 M0 E a o undefV H' := by
  obtain ⟨E', k1, k2, k3, k4, k5⟩ := storeV_sound hE ht (evalO_sound hE hfr p) (Rep.cells (evalO_sound hE hfr x) (not_any_of_one h1)) h1 hl h
  refine ⟨undef, E', .inr ⟨by simp [execOp, ho, k1], rfl⟩, ?_, k4, k5, Rep.undef E'⟩
  simp only [After, k2] at hA; rw [k3, hA]

theorem ok_nilCheck {x : Operand} (ho : o.op = .nilCheck x) (hE : EOK G w0 M0 E) (hfr : RepL E fr a.tmps.toList)
    (h : (∃ i k, evalO G fr x = .ptr i k) ∨ (∃ cs, evalO G fr x = .cp cs) ∨ (∃ t y, evalO G fr x = .iface t y) ∨ (∃ f b c, evalO G fr x = .fn (.func f) b c)) : Comes P G w0 M0 E a o (evalO G fr x) E.H := by
  have hr := evalO_sound hE hfr x
  refine Comes.pure hE (x := a.eval x) ?_ hr
  rcases h with ⟨i, k, h⟩ | ⟨cs, h⟩ | ⟨t, y, h⟩ | ⟨f, b, c, h⟩ <;> rw [h] at hr <;> simp only [Rep] at hr
  · obtain ⟨b, _, hr⟩ := hr; simp [execOp, ho, hr]
  · obtain ⟨b, _, hr, _⟩ := hr; simp [execOp, ho, hr]
  · obtain ⟨b, hr, _⟩ := hr; simp [execOp, ho, hr]
  · obtain ⟨xs, ys, hr, _⟩ := hr; simp [execOp, ho, hr]

theorem shOf_struct {ds : TypeDesc} {fs : List (Nat × Nat × Bool)} (h : shOf P ds = .struct fs) : ∃ fields, ds = .struct fields ∧ fs = (fields.toList.map fun f => (f.offset, szOf P f.type, aggOf P f.type)) ∧ fields.toList.all (fun f => (P.info? f.type).isSome && (P.underlying f.type).isSome) = true := by
  cases ds <;> simp only [shOf] at h <;> try (first | (cases h; done) | (split at h <;> cases h; done))
  rename_i fields
  split at h
  · rename_i hall; injection h with h; exact ⟨fields, rfl, h.symm, hall⟩
  · cases h
theorem shOf_array {ds : TypeDesc} {n esz : Nat} {ea : Bool} (h : shOf P ds = .array n esz ea) : ∃ e i, ds = .array n e ∧ P.info? e = some i ∧ esz = i.size ∧ ea = aggOf P e ∧ (P.underlying e).isSome = true := by
  cases ds <;> simp only [shOf] at h <;> try (first | (cases h; done) | (split at h <;> cases h; done))
  rename_i n' e
  split at h
  · rename_i hs
    simp only [Bool.and_eq_true] at hs
    obtain ⟨i, hi⟩ := Option.isSome_iff_exists.1 hs.1
    injection h with h1 h2 h3; exact ⟨e, i, by rw [h1], hi, by rw [← h2]; simp [szOf, hi], h3.symm, hs.2⟩
  · cases h
theorem shOf_slice {ds : TypeDesc} {e esz by_ : Nat} (h : shOf P ds = .slice e esz by_) : ∃ i, ds = .slice e ∧ P.info? e = some i ∧ esz = i.size ∧ by_ = i.bytes := by
  cases ds <;> simp only [shOf] at h <;> try (first | (cases h; done) | (split at h <;> cases h; done))
  rename_i e'
  split at h
  · rename_i i hi
    injection h with h1 h2 h3; subst h1; exact ⟨i, rfl, hi, h2.symm, h3.symm⟩
  · cases h
theorem struct_field {fields : Array Field} {f : Nat} {fd : Nat × Nat × Bool} (h : (fields.toList.map fun f => (f.offset, szOf P f.type, aggOf P f.type))[f]? = some fd) : ∃ g, fields[f]? = some g ∧ fd = (g.offset, szOf P g.type, aggOf P g.type) := by
  rw [List.getElem?_map] at h
  simp only [Option.map_eq_some_iff] at h
  obtain ⟨g, h1, h2⟩ := h
  exact ⟨g, by simpa using h1, h2.symm⟩
theorem Addr.add_none (b o n : Nat) : (⟨b, o, none⟩ : Addr).add n = ⟨b, o + n, none⟩ := Addr.add_mid b o n

theorem ok_fieldAddr {t : TypeId} {x : Operand} {f : Nat} (ho : o.op = .fieldAddr t x f) (hE : EOK G w0 M0 E) (hfr : RepL E fr a.tmps.toList) {d : TD} (ht : tdOf P t = some d) {fs : List (Nat × Nat × Bool)} (hd : d.sh = .struct fs)
    {fd : Nat × Nat × Bool} (hf : fs[f]? = some fd) (h0 : fd.2.1 ≠ 0) (h : fieldAddrV E.H fd (evalO G fr x) = some v) : Comes P G w0 M0 E a o v E.H := by
  obtain ⟨i, ds, z, h1, h2, h3, h4, rfl⟩ := tdOf_some ht
  obtain ⟨fields, rfl, rfl, hall⟩ := shOf_struct hd
  obtain ⟨g, hg, rfl⟩ := struct_field hf
  have hr := evalO_sound hE hfr x
  have hsz : ∃ j, P.info? g.type = some j ∧ j.size ≠ 0 := by
    simp only [szOf] at h0
    split at h0
    · rename_i j hj; exact ⟨j, hj, h0⟩
    · exact absurd rfl h0
  obtain ⟨j, hj, hj0⟩ := hsz
  have hrun : ∀ b k, a.eval x = .pointer (some ⟨b, k, none⟩) → (execOp a.eval o).run P E.w = .ok (.value (.pointer (some ⟨b, k + g.offset, none⟩))) E.w := by
    intro b k hx
    simp [execOp, ho, hx, Instr.fieldAt, run_underlying h2, hg, Instr.sureAddr, fieldPlace, sizeOf, typeInfo, hj, hj0, Addr.add_none]
  generalize evalO G fr x = y at hr h
  cases y <;> simp only [fieldAddrV] at h <;> try (cases h; done)
  · injection h with h; subst h
    simp only [Rep] at hr
    obtain ⟨b, k1, k2⟩ := hr
    exact Comes.pure hE (hrun b _ k2) (by simp only [Rep]; exact ⟨b, k1, rfl⟩)
  · rename_i i' ver idx sz off
    split at h
    · rename_i hi
      split at h
      · rename_i hv; subst hv
        injection h with h; subst h
        simp only [Rep, hi] at hr
        obtain ⟨_, _, hr⟩ := hr
        obtain ⟨b, k1, k2⟩ := hr trivial
        exact Comes.pure hE (hrun b _ k2) (by simp only [Rep, hi]; exact ⟨⟨_, rfl⟩, Nat.le_refl _, fun _ => ⟨b, k1, by rw [Nat.add_assoc]⟩⟩)
      · cases h
    · cases h
  · injection h with h; subst h
    simp only [Rep] at hr
    obtain ⟨b, k, k1, k2⟩ := hr
    exact Comes.pure hE (hrun b k k1) (by simp only [Rep]; exact ⟨b, _, rfl, k2.drop _⟩)
end
end Go.Ab
