/- The abstract machine: one operation, sound. -/
import Derived.Test.YtjohhgopnpoboaaAbRead
set_option linter.unusedVariables false
set_option linter.unusedSimpArgs false
namespace Go.Ab
open Go Go.RowKit

theorem chk_eq : ∀ (n : Nat) (xs : List V), (xs.length = n ∧ xs.all oneV = true) ↔ chk n xs = true
  | 0, [] => by simp [chk]
  | 0, x :: xs => by simp [chk]
  | n + 1, [] => by simp [chk]
  | n + 1, x :: xs => by
    simp only [List.length_cons, List.all_cons, Bool.and_eq_true, chk, ← chk_eq n xs]
    constructor
    · rintro ⟨h1, h2, h3⟩; exact ⟨h2, by omega, h3⟩
    · rintro ⟨h2, h1, h3⟩; exact ⟨by omega, h2, h3⟩
theorem over_sound {E : Env} : ∀ {cs xs cs' : List V} {zs ys : List Value}, RepL E cs zs → RepL E xs ys → over cs xs = some cs' → ys.length ≤ zs.length ∧ RepL E cs' (ys ++ zs.drop ys.length)
  | cs, [], cs', zs, ys, h, k, ho => by
    simp only [RepL] at k; subst k
    cases cs <;> (simp only [over] at ho; injection ho with ho; subst ho; exact ⟨Nat.zero_le _, by simpa using h⟩)
  | [], x :: xs, cs', zs, ys, h, k, ho => by simp [over] at ho
  | c :: cs, x :: xs, cs', zs, ys, h, k, ho => by
    simp only [over, Option.map_eq_some_iff] at ho
    obtain ⟨ds, h1, rfl⟩ := ho
    simp only [RepL] at h k
    obtain ⟨z, zs, rfl, h2, h3⟩ := h
    obtain ⟨y, ys, rfl, k2, k3⟩ := k
    obtain ⟨h4, h5⟩ := over_sound h3 k3 h1
    exact ⟨by simpa using h4, by simpa using RepL.cons k2 h5⟩
theorem splice_sound {E : Env} : ∀ {n : Nat} {cs xs cs' : List V} {zs ys : List Value}, RepL E cs zs → RepL E xs ys → splice cs n xs = some cs' →
    n + ys.length ≤ zs.length ∧ RepL E cs' (zs.take n ++ ys ++ zs.drop (n + ys.length))
  | 0, cs, xs, cs', zs, ys, h, k, ho => by
    simp only [splice] at ho
    obtain ⟨h1, h2⟩ := over_sound h k ho
    exact ⟨by omega, by simpa using h2⟩
  | n + 1, [], xs, cs', zs, ys, h, k, ho => by simp [splice] at ho
  | n + 1, c :: cs, xs, cs', zs, ys, h, k, ho => by
    simp only [splice, Option.map_eq_some_iff] at ho
    obtain ⟨ds, h1, rfl⟩ := ho
    simp only [RepL] at h
    obtain ⟨z, zs, rfl, h2, h3⟩ := h
    obtain ⟨h4, h5⟩ := splice_sound h3 k h1
    refine ⟨by simp; omega, ?_⟩
    rw [show n + 1 + ys.length = (n + ys.length) + 1 by omega]
    simpa using RepL.cons h2 h5
theorem splice_length : ∀ {n : Nat} {cs xs cs' : List V}, splice cs n xs = some cs' → cs'.length = cs.length
  | 0, cs, xs, cs', h => by
    simp only [splice] at h
    induction xs generalizing cs cs' with
    | nil => cases cs <;> (simp [over] at h; subst h; rfl)
    | cons x xs ih =>
      cases cs with
      | nil => simp [over] at h
      | cons c cs =>
        simp only [over, Option.map_eq_some_iff] at h
        obtain ⟨ds, h1, rfl⟩ := h
        simp [ih _ _ h1]
  | n + 1, [], xs, cs', h => by simp [splice] at h
  | n + 1, c :: cs, xs, cs', h => by
    simp only [splice, Option.map_eq_some_iff] at h
    obtain ⟨ds, h1, rfl⟩ := h
    simp [splice_length h1]
theorem Rep.one {E : Env} {v : V} {x : Value} (h : oneV v = true) (hr : Rep E v x) : x.oneCell' = true := by
  cases v <;> simp [oneV] at h <;> simp only [Rep] at hr
  · exact hr.1 ▸ hr.2
  · obtain ⟨b, _, rfl⟩ := hr; rfl
  · obtain ⟨⟨a, rfl⟩, _⟩ := hr; rfl
  · obtain ⟨b, o, rfl, _⟩ := hr; rfl
  · obtain ⟨a, n, c, rfl, _⟩ := hr; rfl
  · obtain ⟨⟨a, n, c, rfl⟩, _⟩ := hr; rfl
  · obtain ⟨b, c, _, rfl, _⟩ := hr; rfl
  · obtain ⟨xs, ys, rfl, _⟩ := hr; rfl
  · obtain ⟨y, rfl, _⟩ := hr; rfl
  · obtain ⟨b, _, rfl⟩ := hr; rfl
/-- A value's cells. -/
theorem Rep.cells {E : Env} {v : V} {x : Value} (hr : Rep E v x) (hv : v ≠ .any) : RepL E v.cells x.cells.toList := by
  have one : ∀ {y : Value}, y.oneCell' = true → y.cells.toList = [y] := by intro y hy; cases y <;> simp_all [Value.cells, Value.oneCell']
  cases v with
  | any => exact absurd rfl hv
  | agg cs => simp only [Rep] at hr; obtain ⟨xs, rfl, h⟩ := hr; simpa [V.cells, Value.cells] using h
  | tup vs =>
    have h := hr
    simp only [Rep] at h; obtain ⟨xs, rfl, _⟩ := h
    exact RepL.cons hr (RepL.nil E)
  | _ => rw [one (Rep.one rfl hr)]; exact RepL.cons hr (RepL.nil E)
theorem RepL.one {E : Env} : ∀ {vs : List V} {xs : List Value}, vs.all oneV = true → RepL E vs xs → ∀ x ∈ xs, x.oneCell' = true
  | [], xs, _, h, x, hx => by simp only [RepL] at h; subst h; simp at hx
  | v :: vs, xs, ha, h, x, hx => by
    simp only [RepL] at h
    obtain ⟨y, ys, rfl, h1, h2⟩ := h
    simp at ha
    rcases List.mem_cons.1 hx with rfl | hx
    · exact Rep.one ha.1 h1
    · exact RepL.one (by simpa using ha.2) h2 x hx
theorem not_any_of_one {v : V} (h : v.cells.all oneV = true) : v ≠ .any := by
  rintro rfl; simp [V.cells, oneV] at h

section
variable {P : Program} {G : Glob} {w0 : World} {M0 : Nat → Nat → Prop} {E : Env} {a : Act} {fr : List V}

theorem evalO_sound (hE : EOK G w0 M0 E) (hfr : RepL E fr a.tmps.toList) (x : Operand) : Rep E (evalO G fr x) (a.eval x) := by
  cases x with
  | tmp t =>
    have := hfr.getD t
    simpa [evalO, Act.eval, List.getD_eq_getElem?_getD, Array.getD_eq_getD_getElem?] using this
  | const v => exact Rep.ofConst E v
  | global g =>
    simp only [evalO, Act.eval]
    cases h : G.lookup g with
    | none => simp [Rep]
    | some cs => simp only [Rep]; exact ⟨g, 0, rfl, hE.glob g cs h⟩
  | func f => simp only [evalO, Act.eval, Rep]; exact ⟨[], [], rfl, RepL.nil E, RepL.nil E⟩
theorem evalL_sound (hE : EOK G w0 M0 E) (hfr : RepL E fr a.tmps.toList) : ∀ (xs : List Operand), RepL E (xs.map (evalO G fr)) (xs.map a.eval)
  | [] => RepL.nil E
  | x :: xs => RepL.cons (evalO_sound hE hfr x) (evalL_sound hE hfr xs)

/-- What an operation comes to. -/
def Comes (P : Program) (G : Glob) (w0 : World) (M0 : Nat → Nat → Prop) (E : Env) (a : Act) (o : Oper) (v : V) (H' : List AB) : Prop :=
  ∃ x E', ((execOp a.eval o).run P E.w = .ok (.value x) E'.w ∨ ((execOp a.eval o).run P E.w = .ok .skip E'.w ∧ x = undef)) ∧ E'.H = H' ∧ E.le E' ∧ EOK G w0 M0 E' ∧ Rep E' v x

theorem Comes.pure {o : Oper} {v : V} {x : Value} (hE : EOK G w0 M0 E) (h : (execOp a.eval o).run P E.w = .ok (.value x) E.w) (hr : Rep E v x) : Comes P G w0 M0 E a o v E.H :=
  ⟨x, E, .inl h, rfl, Env.le.refl E, hE, hr⟩

theorem row_elem {E : Env} {sz n : Nat} {es : List V} {C : Array Value} (h : ∀ e ∈ es, e.cells.length = sz) (hr : RepL E (flatV es) (C.toList.take (n * sz))) {i : Nat} {e : V} (he : es[i]? = some e) :
    ∃ xs, RepL E e.cells xs ∧ ∀ j x, xs[j]? = some x → C[i * sz + j]? = some x := by
  refine ⟨(((C.toList.take (n * sz)).drop (i * sz)).take sz), ?_, fun j x hx => ?_⟩
  · rw [← flatV_get h i e he]; exact (hr.drop _).take _
  · rw [List.getElem?_take] at hx
    split at hx
    · rw [List.getElem?_drop, List.getElem?_take] at hx
      split at hx
      · simpa using hx
      · cases hx
    · cases hx
/-- The cells that a pointer leads to. -/
theorem loadV_sound (hE : EOK G w0 M0 E) {t : TypeId} {d : TD} (ht : tdOf P t = some d) {p v : V} {x : Value} (hp : Rep E p x) (h : loadV E.H d p = some v) :
    ∃ b o y, x = .pointer (some ⟨b, o, none⟩) ∧ (loadVar t ⟨b, o, none⟩).run P E.w = .ok y E.w ∧ Rep E v y := by
  cases p <;> simp only [loadV] at h <;> try (cases h; done)
  · rename_i i off
    split at h
    · rename_i cs hi
      simp only [Rep] at hp
      obtain ⟨b, h1, rfl⟩ := hp
      obtain ⟨b', C, e, k1, k2, k3, k4⟩ := hE.blk i _ hi
      rw [h1] at k1; injection k1 with k1; subst k1
      obtain ⟨y, hy, hv⟩ := run_loadVar (P := P) ht (w := E.w) (b := b) (o := off) (k3.drop off) (fun j u hu => by
        rw [cell_of_row E.w b (off + j) C e (0, 0) k2]
        rw [List.getElem?_drop] at hu
        simpa using hu) h
      exact ⟨b, off, y, rfl, hy, hv⟩
    · cases h
  · rename_i i ver idx sz off
    split at h
    · rename_i sz' es v' imm hi
      split at h
      · rename_i hver
        obtain ⟨rfl, rfl⟩ := hver
        simp only [Option.bind_eq_some_iff] at h
        obtain ⟨e, he, h⟩ := h
        simp only [Rep, hi] at hp
        obtain ⟨_, _, hp⟩ := hp
        obtain ⟨b, h1, rfl⟩ := hp trivial
        obtain ⟨a', n, c, k1, k2, k3, k4, k5, k6⟩ := hE.blk i _ hi
        rcases k6 with ⟨k6, _⟩ | ⟨b', C, ty, k6, k7, k8, k9, k10, k11, k12⟩
        · have : es = [] := List.eq_nil_of_length_eq_zero (by omega)
          subst this; simp at he
        · rw [h1] at k6; injection k6 with k6; subst k6
          obtain ⟨xs, hx, hc⟩ := row_elem k5.1 k10 he
          obtain ⟨y, hy, hv⟩ := run_loadVar (P := P) ht (w := E.w) (b := b) (o := idx * sz + off) (hx.drop off) (fun j u hu => by
            rw [List.getElem?_drop] at hu
            rw [cell_of_row E.w b _ C ty (0, 0) k8, Nat.add_assoc]
            exact hc _ _ hu) h
          exact ⟨b, _, y, rfl, hy, Rep.mono _ E.bare_le hv⟩
      · cases h
    · cases h
  · rename_i cs
    simp only [Rep] at hp
    obtain ⟨b, o, rfl, h1⟩ := hp
    obtain ⟨xs, h2, h3⟩ := h1.to
    obtain ⟨y, hy, hv⟩ := run_loadVar (P := P) ht (w := E.w) (b := b) (o := o) h2 (fun j u hu => (h3 j u hu).1) h
    exact ⟨b, o, y, rfl, hy, Rep.mono _ E.bare_le hv⟩

mutual
theorem fz_sound (hE : EOK G w0 M0 E) : (v : V) → ∀ {v' : V} {x : Value}, Rep E v x → fz E.H v = some v' → Rep E.bare v' x
  | .val v, v', x, h, k => by simp only [fz] at k; injection k with k; subst k; simpa only [Rep] using h
  | .sl es m, v', x, h, k => by
    simp only [fz] at k; injection k with k; subst k
    simp only [Rep] at h ⊢
    obtain ⟨a, n, c, h1, h2, h3, h4, _, _, h7⟩ := h
    exact ⟨a, n, c, h1, h2, h3, h4, by simp, by simp, h7⟩
  | .cp cs, v', x, h, k => by simp only [fz] at k; injection k with k; subst k; simpa only [Rep, Env.bare_bare] using h
  | .row i ver, v', x, h, k => by
    simp only [fz, fzRow] at k
    split at k
    · rename_i sz es v hi
      split at k
      · rename_i hv; subst hv
        injection k with k; subst k
        simp only [Rep, hi] at h
        obtain ⟨_, _, h⟩ := h
        have h := h trivial
        obtain ⟨a', n, c, k1, k2, k3, k4, k5, k6⟩ := hE.blk i _ hi
        simp only [Rep]
        refine ⟨a', n, c, h.trans k1, k2, k3, k4, by simp, by simp, fun hne => ?_⟩
        rcases k6 with ⟨k6, _⟩ | ⟨b, C, ty, k6, k7, k8, k9, k10, k11, k12⟩
        · exact absurd (List.eq_nil_of_length_eq_zero (by omega)) hne
        · refine ⟨sz, b, 0, k7, RepEs.flat.2 ⟨k5.1, RepAt.of k10 fun j u hu => ?_⟩⟩
          rw [List.getElem?_take] at hu
          split at hu
          · rename_i hj
            refine ⟨?_, fun hm => ?_⟩
            · show E.w.cell? _ = _
              rw [cell_of_row E.w b _ C ty (0, 0) k8]; simpa using hu
            · have := (k12 (0 + j) (by omega)).1 hm; cases this
          · cases hu
      · cases k
    · cases k
  | .agg cs, v', x, h, k => by
    simp only [fz, Option.map_eq_some_iff] at k
    obtain ⟨cs', k1, rfl⟩ := k
    simp only [Rep] at h ⊢
    obtain ⟨xs, rfl, h2⟩ := h
    exact ⟨xs, rfl, fzL_sound hE cs h2 k1⟩
  | .tup cs, v', x, h, k => by
    simp only [fz, Option.map_eq_some_iff] at k
    obtain ⟨cs', k1, rfl⟩ := k
    simp only [Rep] at h ⊢
    obtain ⟨xs, rfl, h2⟩ := h
    exact ⟨xs, rfl, fzL_sound hE cs h2 k1⟩
  | .fn f fa fb, v', x, h, k => by
    simp only [fz, Option.bind_eq_some_iff, Option.map_eq_some_iff] at k
    obtain ⟨a', k1, b', k2, rfl⟩ := k
    simp only [Rep] at h ⊢
    obtain ⟨xs, ys, rfl, h2, h3⟩ := h
    exact ⟨xs, ys, rfl, fzL_sound hE fa h2 k1, fzL_sound hE fb h3 k2⟩
  | .iface t v, v', x, h, k => by
    simp only [fz, Option.map_eq_some_iff] at k
    obtain ⟨u, k1, rfl⟩ := k
    simp only [Rep] at h ⊢
    obtain ⟨y, rfl, h2⟩ := h
    exact ⟨y, rfl, fz_sound hE v h2 k1⟩
  | .any, v', x, h, k => by simp [fz] at k
  | .ptr _ _, v', x, h, k => by simp [fz] at k
  | .ptrE _ _ _ _ _, v', x, h, k => by simp [fz] at k
  | .vs _ _ _ _, v', x, h, k => by simp [fz] at k
  | .mp _, v', x, h, k => by simp [fz] at k
theorem fzL_sound (hE : EOK G w0 M0 E) : (vs : List V) → ∀ {vs' : List V} {xs : List Value}, RepL E vs xs → fzL E.H vs = some vs' → RepL E.bare vs' xs
  | [], vs', xs, h, k => by simp only [fzL] at k; injection k with k; subst k; simpa only [RepL] using h
  | v :: vs, vs', xs, h, k => by
    simp only [fzL, Option.bind_eq_some_iff, Option.map_eq_some_iff] at k
    obtain ⟨v', k1, ws, k2, rfl⟩ := k
    simp only [RepL] at h
    obtain ⟨y, ys, rfl, h1, h2⟩ := h
    exact RepL.cons (fz_sound hE v h1 k1) (fzL_sound hE vs h2 k2)
end

theorem flat_set {E : Env} {sz : Nat} {ys : List Value} {xs : List V} (hx : RepL E xs ys) : ∀ {es : List V} {idx off : Nat} {e e' : V} {zs : List Value}, (∀ e ∈ es, e.cells.length = sz) → RepL E (flatV es) zs → es[idx]? = some e → splice e.cells off xs = some e'.cells →
    idx * sz + off + ys.length ≤ zs.length ∧ off + ys.length ≤ sz ∧ RepL E (flatV (es.set idx e')) (zs.take (idx * sz + off) ++ ys ++ zs.drop (idx * sz + off + ys.length))
  | [], idx, off, e, e', zs, hl, h, he, hs => by simp at he
  | u :: es, 0, off, e, e', zs, hl, h, he, hs => by
    simp at he; subst he
    simp only [flatV, List.flatMap_cons] at h
    obtain ⟨z1, z2, rfl, h1, h2⟩ := h.split
    obtain ⟨k1, k2⟩ := splice_sound h1 hx hs
    have hz : z1.length = sz := by rw [h1.length]; exact hl u (by simp)
    refine ⟨by simp; omega, by omega, ?_⟩
    simp only [List.set_cons_zero, flatV, List.flatMap_cons, Nat.zero_mul, Nat.zero_add]
    rw [List.take_append_of_le_length (by omega), List.drop_append_of_le_length (by omega), ← List.append_assoc]
    exact k2.append h2
  | u :: es, idx + 1, off, e, e', zs, hl, h, he, hs => by
    simp only [flatV, List.flatMap_cons] at h
    obtain ⟨z1, z2, rfl, h1, h2⟩ := h.split
    have hz : z1.length = sz := by rw [h1.length]; exact hl u (by simp)
    obtain ⟨k1, k0, k2⟩ := flat_set hx (es := es) (fun e he => hl e (by simp [he])) h2 (by simpa using he) hs
    have e1 : (idx + 1) * sz + off = z1.length + (idx * sz + off) := by rw [hz, Nat.add_mul]; omega
    refine ⟨by rw [e1]; simp; omega, k0, ?_⟩
    simp only [List.set_cons_succ, flatV, List.flatMap_cons]
    rw [e1, List.take_length_add_append, show z1.length + (idx * sz + off) + ys.length = z1.length + (idx * sz + off + ys.length) by omega, List.drop_length_add_append]
    simpa [flatV, List.append_assoc] using h1.append k2

theorem set_cells {sz : Nat} {es : List V} {idx : Nat} {e' : V} (hl : ∀ e ∈ es, e.cells.length = sz) (he' : e'.cells.length = sz) : ∀ e ∈ es.set idx e', e.cells.length = sz := by
  intro e he
  rcases List.mem_or_eq_of_mem_set he with h | h
  · exact hl e h
  · rw [h]; exact he'

theorem run_storeAt {t : TypeId} {d : TD} (ht : tdOf P t = some d) {w w' : World} {b o : Nat} {y : Value} (hy : y.cells.toList.length = d.size)
    (hs : (storeCells ⟨b, o, none⟩ y.cells.toList).run P w = .ok () w') : (Instr.storeAt t (.pointer (some ⟨b, o, none⟩)) y).run P w = .ok () w' := by
  obtain ⟨i, ds, z, h1, h2, h3, _, rfl⟩ := tdOf_some ht
  have : y.cells.size = i.size := by simpa using hy
  simp [Instr.storeAt, Instr.sureAddr, storeVar, sizeOf, typeInfo, h1, this, hs]

theorem storeV_sound (hE : EOK G w0 M0 E) {t : TypeId} {d : TD} (ht : tdOf P t = some d) {p : V} {px y : Value} {vs : List V} {u : Upd} (hp : Rep E p px) (hv : RepL E vs y.cells.toList) (h1 : vs.all oneV = true) (hl : vs.length = d.size)
    (h : storeV E.H vs p = some u) : ∃ E', (Instr.storeAt t px y).run P E.w = .ok () E'.w ∧ u.new = none ∧ E'.H = setH E.H u.sets ∧ E.le E' ∧ EOK G w0 M0 E' := by
  have hone := RepL.one h1 hv
  have hyl : y.cells.toList.length = d.size := by rw [hv.length]; exact hl
  cases p <;> simp only [storeV] at h <;> try (cases h; done)
  · rename_i i off
    split at h
    · rename_i cs hi
      simp only [Option.map_eq_some_iff] at h
      obtain ⟨cs', hsp, rfl⟩ := h
      simp only [Rep] at hp
      obtain ⟨b, hb, rfl⟩ := hp
      obtain ⟨b', C, ty, k1, k2, k3, k4⟩ := hE.blk i _ hi
      rw [hb] at k1; injection k1 with k1; subst k1
      obtain ⟨k5, k6⟩ := splice_sound k3 hv hsp
      have hst := run_storeCells_at P b off ty y.cells.toList 0 C E.w k2 (by simpa using k5) hone
      simp only [Nat.add_zero] at hst
      obtain ⟨g1, g2⟩ := hE.write (E.w.setRow b (C.toList.take off ++ y.cells.toList ++ C.toList.drop (off + y.cells.toList.length)).toArray) i b _ (.var cs') hb hi (by simp) rfl rfl rfl
        (fun k hk => setRow_other E.w b k _ hk) (fun o u hs => absurd (k4 o) hs.2) (fun _ _ _ _ e => by cases e) (by simp) (by simp)
        (fun hle => ⟨b, _, ty, hb, setRow_heap E.w b C _ ty (0, 0) k2, RepL.mono _ hle (by simpa using k6), k4⟩)
      exact ⟨_, run_storeAt ht hyl hst, rfl, rfl, g2, g1⟩
    · cases h
  · rename_i i ver idx sz off
    split at h
    · rename_i sz' es v' hi
      split at h
      · rename_i hver
        obtain ⟨rfl, rfl⟩ := hver
        simp only [Option.bind_eq_some_iff] at h
        obtain ⟨xs', hfz, e, he, cs', hsp, h⟩ := h
        have hx' := fzL_sound hE _ hv hfz
        simp only [Rep, hi] at hp
        obtain ⟨_, _, hp⟩ := hp
        obtain ⟨b, hb, rfl⟩ := hp trivial
        obtain ⟨a', n, c, k1, k2, k3, k4, k5, k6⟩ := hE.blk i _ hi
        rcases k6 with ⟨k6, _⟩ | ⟨b', C, ty, k6, k7, k8, k9, k10, k11, k12⟩
        · have : es = [] := List.eq_nil_of_length_eq_zero (by omega)
          subst this; simp at he
        · rw [hb] at k6; injection k6 with k6; subst k6
          have key : ∃ e', cs' = e'.cells ∧ u = ⟨[(i, .row sz (es.set idx e') ver false)], none⟩ := by
            split at h
            · injection h with h; exact ⟨.agg cs', rfl, h.symm⟩
            · cases h
            · rename_i c' _ _
              injection h with h
              exact ⟨c', by cases c' <;> first | rfl | (exfalso; simp_all), h.symm⟩
            · cases h
          obtain ⟨e', rfl, rfl⟩ := key
          obtain ⟨m1, m0, m2⟩ := flat_set hx' k5.1 k10 he hsp
          have hel : e'.cells.length = sz := by rw [splice_length hsp]; exact k5.1 e (List.mem_of_getElem? he)
          have hCl : C.toList.length = c * sz := by simpa using k9
          have hzl : (C.toList.take (n * sz)).length = n * sz := by
            rw [List.length_take, hCl]; exact Nat.min_eq_left (Nat.mul_le_mul_right _ k3)
          rw [hzl] at m1
          have hle2 : n * sz ≤ c * sz := Nat.mul_le_mul_right _ k3
          have hys : y.cells.toList.length = y.cells.size := Array.length_toList
          have hCs : C.toList.length = C.size := Array.length_toList
          have hst := run_storeCells_at P b (idx * sz + off) ty y.cells.toList 0 C E.w k8 (by omega) hone
          simp only [Nat.add_zero] at hst
          have hM : ∀ o, E.M b o := fun o => by
            rcases Nat.lt_or_ge o (n * sz) with ho | ho
            · exact (k12 o ho).2 rfl
            · exact k11 o ho
          have hC' : ((C.toList.take (idx * sz + off) ++ y.cells.toList ++ C.toList.drop (idx * sz + off + y.cells.toList.length)).take (n * sz)) =
              ((C.toList.take (n * sz)).take (idx * sz + off) ++ y.cells.toList ++ (C.toList.take (n * sz)).drop (idx * sz + off + y.cells.toList.length)) := by
            rw [List.append_assoc, List.append_assoc, List.take_append, List.take_append, List.length_take, Nat.min_eq_left (by omega), List.take_of_length_le (l := List.take _ _) (by simp; omega),
              List.take_of_length_le (l := y.cells.toList) (by omega), List.take_take, Nat.min_eq_left (by omega), List.drop_take]
            congr 3; omega
          obtain ⟨g1, g2⟩ := hE.write (E.w.setRow b (C.toList.take (idx * sz + off) ++ y.cells.toList ++ C.toList.drop (idx * sz + off + y.cells.toList.length)).toArray) i b _ (.row sz (es.set idx e') ver false) hb hi (by simp) rfl rfl rfl
            (fun k hk => setRow_other E.w b k _ hk) (fun o u hs => absurd (hM o) hs.2) (fun sz1 es1 v1 m1 e => by injection e with e1 e2 e3 e4; exact ⟨sz, _, false, by rw [e3]⟩) (by simp) (by simp)
            (fun hle => ⟨a', n, c, k1, by simpa using k2, k3, k4, ⟨set_cells k5.1 hel, k5.2⟩, .inr ⟨b, _, ty, hb, k7, setRow_heap E.w b C _ ty (0, 0) k8, by simp only [List.size_toArray, List.length_append, List.length_take, List.length_drop]; omega,
              by rw [List.toList_toArray, hC']; exact RepL.mono _ hle.bare m2, fun o _ => hM o, fun o _ => ⟨fun _ => rfl, fun _ => hM o⟩⟩⟩)
          exact ⟨_, run_storeAt ht hyl hst, rfl, rfl, g2, g1⟩
      · cases h
    · cases h
end
end Go.Ab
