/- The abstract machine: what is read. -/
import Derived.Test.YtjohhgopnpoboaaAbHeap
import Derived.Deep.MidRow
set_option linter.unusedVariables false
set_option linter.unusedSimpArgs false
namespace Go.Ab
open Go Go.RowKit

theorem RepAt.of {E : Env} : ∀ {cs : List V} {xs : List Value} {b o : Nat}, RepL E cs xs → (∀ j x, xs[j]? = some x → E.stab b (o + j) x) → RepAt E cs b o
  | [], xs, b, o, h, hs => by simp only [RepAt]
  | c :: cs, xs, b, o, h, hs => by
    simp only [RepL] at h
    obtain ⟨y, ys, rfl, h1, h2⟩ := h
    simp only [RepAt]
    refine ⟨⟨y, by simpa using hs 0 y (by simp), h1⟩, RepAt.of h2 fun j x hx => ?_⟩
    have := hs (j + 1) x (by simpa using hx)
    rwa [show o + 1 + j = o + (j + 1) by omega]
theorem RepAt.to {E : Env} : ∀ {cs : List V} {b o : Nat}, RepAt E cs b o → ∃ xs, RepL E cs xs ∧ ∀ j x, xs[j]? = some x → E.stab b (o + j) x
  | [], b, o, h => ⟨[], RepL.nil E, fun j x hx => by simp at hx⟩
  | c :: cs, b, o, h => by
    simp only [RepAt] at h
    obtain ⟨⟨u, h1, h2⟩, h3⟩ := h
    obtain ⟨xs, h4, h5⟩ := h3.to
    refine ⟨u :: xs, RepL.cons h2 h4, fun j x hx => ?_⟩
    cases j with
    | zero => simp at hx; subst hx; simpa using h1
    | succ j =>
      have := h5 j x (by simpa using hx)
      rwa [show o + (j + 1) = o + 1 + j by omega]
theorem RepAt.drop {E : Env} : ∀ {cs : List V} {b o : Nat} (n : Nat), RepAt E cs b o → RepAt E (cs.drop n) b (o + n)
  | _, _, _, 0, h => by simpa using h
  | [], _, _, n + 1, h => by simp [RepAt]
  | c :: cs, b, o, n + 1, h => by
    simp only [RepAt] at h
    have := h.2.drop n
    rw [show o + (n + 1) = o + 1 + n by omega]; simpa using this
theorem RepAt.append {E : Env} : ∀ {cs ds : List V} {b o : Nat}, RepAt E (cs ++ ds) b o ↔ RepAt E cs b o ∧ RepAt E ds b (o + cs.length)
  | [], ds, b, o => by simp [RepAt]
  | c :: cs, ds, b, o => by
    simp only [List.cons_append, RepAt, RepAt.append, List.length_cons]
    rw [show o + 1 + cs.length = o + (cs.length + 1) by omega, and_assoc]

theorem RepEs.cons {E : Env} {sz : Nat} {v : V} {vs : List V} {b o : Nat} : RepEs E sz (v :: vs) b o ↔ (v.cells.length = sz ∧ RepAt E v.cells b o) ∧ RepEs E sz vs b (o + sz) := by
  by_cases hv : ∃ cs, v = .agg cs
  · obtain ⟨cs, rfl⟩ := hv
    simp only [RepEs, V.cells]
  · rw [RepEs.eq_3 _ _ _ _ _ _ (fun cs e => hv ⟨cs, e⟩)]
    have : v.cells = [v] := by
      cases v <;> first | rfl | exact absurd ⟨_, rfl⟩ hv
    rw [this]
    simp only [List.length_singleton, RepAt, and_true]
    constructor <;> rintro ⟨⟨h1, h2⟩, h3⟩ <;> exact ⟨⟨by omega, h2⟩, h3⟩
theorem RepEs.flat {E : Env} {sz : Nat} : ∀ {es : List V} {b o : Nat}, RepEs E sz es b o ↔ (∀ e ∈ es, e.cells.length = sz) ∧ RepAt E (flatV es) b o
  | [], b, o => by simp [RepEs, flatV, RepAt]
  | e :: es, b, o => by
    rw [RepEs.cons, RepEs.flat]
    simp only [flatV, List.flatMap_cons, RepAt.append, List.mem_cons, forall_eq_or_imp]
    constructor
    · rintro ⟨⟨h1, h2⟩, h3, h4⟩
      exact ⟨⟨h1, h3⟩, h2, by rw [h1]; exact h4⟩
    · rintro ⟨⟨h1, h3⟩, h2, h4⟩
      exact ⟨⟨h1, h2⟩, h3, by rw [← h1]; exact h4⟩
theorem RepEs.get {E : Env} {sz : Nat} : ∀ {es : List V} {b o : Nat}, RepEs E sz es b o → ∀ i e, es[i]? = some e → e.cells.length = sz ∧ RepAt E e.cells b (o + i * sz)
  | [], b, o, h, i, e, he => by simp at he
  | u :: es, b, o, h, i, e, he => by
    rw [RepEs.cons] at h
    cases i with
    | zero => simp at he; subst he; exact ⟨h.1.1, by simpa using h.1.2⟩
    | succ i =>
      have := h.2.get i e (by simpa using he)
      refine ⟨this.1, ?_⟩
      have h2 := this.2
      rwa [show o + sz + i * sz = o + (i + 1) * sz by rw [Nat.add_mul]; omega] at h2
theorem RepEs.append {E : Env} {sz : Nat} : ∀ {es fs : List V} {b o : Nat}, RepEs E sz (es ++ fs) b o ↔ RepEs E sz es b o ∧ RepEs E sz fs b (o + es.length * sz)
  | [], fs, b, o => by simp [RepEs]
  | e :: es, fs, b, o => by
    simp only [List.cons_append, RepEs.cons, RepEs.append, List.length_cons]
    rw [show o + sz + es.length * sz = o + (es.length + 1) * sz by rw [Nat.add_mul]; omega]; simp only [and_assoc]
theorem RepEs.take {E : Env} {sz : Nat} {es : List V} {b o : Nat} (n : Nat) (h : RepEs E sz es b o) : RepEs E sz (es.take n) b o := by
  have := h; rw [← List.take_append_drop n es, RepEs.append] at this; exact this.1
theorem RepEs.drop {E : Env} {sz : Nat} {es : List V} {b o : Nat} (n : Nat) (hn : n ≤ es.length) (h : RepEs E sz es b o) : RepEs E sz (es.drop n) b (o + n * sz) := by
  have := h; rw [← List.take_append_drop n es, RepEs.append] at this
  have h2 := this.2
  rwa [List.length_take, Nat.min_eq_left hn] at h2
theorem flatV_append (es fs : List V) : flatV (es ++ fs) = flatV es ++ flatV fs := by simp [flatV]
theorem flatV_length {sz : Nat} : ∀ {es : List V}, (∀ e ∈ es, e.cells.length = sz) → (flatV es).length = es.length * sz
  | [], _ => by simp [flatV]
  | e :: es, h => by
    have h1 := flatV_length (es := es) fun x hx => h x (by simp [hx])
    simp only [flatV, List.flatMap_cons, List.length_append, List.length_cons] at h1 ⊢
    rw [h1, h e (by simp), Nat.add_mul]; omega
theorem flatV_get {sz : Nat} : ∀ {es : List V}, (∀ e ∈ es, e.cells.length = sz) → ∀ i e, es[i]? = some e → ((flatV es).drop (i * sz)).take sz = e.cells
  | [], _, i, e, he => by simp at he
  | u :: es, h, i, e, he => by
    have hu := h u (by simp)
    simp only [flatV, List.flatMap_cons]
    cases i with
    | zero => simp at he; subst he; simp [← hu]
    | succ i =>
      have := flatV_get (es := es) (fun x hx => h x (by simp [hx])) i e (by simpa using he)
      rw [show (i + 1) * sz = u.cells.length + i * sz by rw [hu, Nat.add_mul]; omega, ← List.drop_drop, List.drop_left]
      exact this

theorem takeN_eq : ∀ {n : Nat} {cs ds : List V}, takeN n cs = some ds → ds = cs.take n ∧ n ≤ cs.length
  | 0, cs, ds, h => by simp [takeN] at h; subst h; simp
  | n + 1, [], ds, h => by simp [takeN] at h
  | n + 1, c :: cs, ds, h => by
    simp only [takeN, Option.map_eq_some_iff] at h
    obtain ⟨es, h1, rfl⟩ := h
    obtain ⟨h2, h3⟩ := takeN_eq h1
    exact ⟨by simp [h2], by simpa using h3⟩

/-- What is known of a type by tdOf. -/
theorem tdOf_some {P : Program} {t : TypeId} {d : TD} (h : tdOf P t = some d) : ∃ i ds z, P.info? t = some i ∧ P.underlying t = some ds ∧ i.zero = some z ∧ z.cells.toList.all Value.oneCell' = true ∧ d = ⟨i.size, aggOf P t, shOf P ds, z.cells.toList.map ofCell, flatOf P t⟩ := by
  unfold tdOf at h
  split at h
  · rename_i i ds h1 h2
    split at h
    · rename_i z hz
      split at h
      · rename_i hc; injection h with h; exact ⟨i, ds, z, h1, h2, hz, hc, h.symm⟩
      · cases h
    · cases h
  · cases h

variable {P : Program}
/-- A load of cells that are there. -/
theorem run_loadVar {t : TypeId} {d : TD} (ht : tdOf P t = some d) {E : Env} {w : World} {b o : Nat} {cs : List V} {xs : List Value} (hr : RepL E cs xs)
    (hx : ∀ j x, xs[j]? = some x → w.cell? ⟨b, o + j, none⟩ = some x) {v : V} (hv : partV d.isAgg d.size cs = some v) :
    ∃ x, (loadVar t ⟨b, o, none⟩).run P w = .ok x w ∧ Rep E v x := by
  obtain ⟨i, ds, z, h1, h2, h3, _, rfl⟩ := tdOf_some ht
  simp only [partV] at hv
  by_cases hg : aggOf P t = true
  · simp only [hg, if_true, Option.map_eq_some_iff] at hv
    obtain ⟨ds', hd, rfl⟩ := hv
    obtain ⟨rfl, hl⟩ := takeN_eq hd
    have hlx : i.size ≤ xs.length := by rw [hr.length]; exact hl
    refine ⟨.agg (xs.take i.size).toArray, ?_, ?_⟩
    · have hrow : ds.isRow = true := by
        unfold aggOf at hg; rw [h2] at hg
        cases ds <;> simp_all [TypeDesc.isRow]
      exact run_loadVar_mid w b o t (xs.take i.size) ds (fun j u hu => hx j u (by
        rw [List.getElem?_take] at hu; split at hu
        · exact hu
        · cases hu)) h2 hrow (by simp [h1, Nat.min_eq_left hlx])
    · simp only [Rep]; exact ⟨_, rfl, hr.take _⟩
  · simp only [hg, if_false] at hv
    cases cs with
    | nil => simp at hv
    | cons c cs =>
      simp at hv; subst hv
      simp only [RepL] at hr
      obtain ⟨y, ys, rfl, k1, k2⟩ := hr
      refine ⟨y, ?_, k1⟩
      have hc := hx 0 y (by simp)
      simp only [Nat.add_zero] at hc
      have hag : (isAgg t).run P w = .ok false w := by
        unfold isAgg; rw [Sem.run_bind, run_underlying h2 w]
        unfold aggOf at hg; rw [h2] at hg
        cases ds <;> simp_all
      simp [loadVar, hag, hc]
end Go.Ab
