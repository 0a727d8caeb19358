/- The abstract machine: every operation of 'eff', sound. -/
import Derived.Test.YtjohhgopnpoboaaAbEff
import Derived.Great.BuildSlice
set_option linter.unusedVariables false
set_option linter.unusedSimpArgs false
namespace Go.Ab
open Go Go.RowKit
section
variable {P : Program} {G : Glob} {w0 : World} {M0 : Nat → Nat → Prop} {E : Env} {a : Act} {fr : List V}

theorem partV_sound {E : Env} {t : TypeId} {agg : Bool} {n : Nat} {cs : List V} {xs : Array Value} {off : Nat} {v : V} {w : World} {i : TypeInfo} (hi : P.info? t = some i) (hn : n = i.size) (hu : aggOf P t = agg) (hun : (P.underlying t).isSome = true)
    (hr : RepL E cs xs.toList) (h : partV agg n (cs.drop off) = some v) : ∃ x, (part t xs off).run P w = .ok x w ∧ Rep E v x := by
  obtain ⟨ds, hds⟩ := Option.isSome_iff_exists.1 hun
  have hd := hr.drop off
  cases agg with
  | true =>
    simp only [partV, if_true, Option.map_eq_some_iff] at h
    obtain ⟨es, h1, rfl⟩ := h
    obtain ⟨rfl, h2⟩ := takeN_eq h1
    have hag : (isAgg t).run P w = .ok true w := by
      unfold isAgg; rw [Sem.run_bind, run_underlying hds w]
      unfold aggOf at hu; rw [hds] at hu
      cases ds <;> simp_all
    have hsz : (sizeOf t).run P w = .ok i.size w := by simp [sizeOf, typeInfo, hi]
    refine ⟨.agg (xs.extract off (off + n)), by simp [part, hag, hsz, hn], ?_⟩
    simp only [Rep]
    refine ⟨(xs.toList.drop off).take n, ?_, hd.take n⟩
    congr 1
    apply Array.ext'
    simp [List.take_drop, Array.toList_extract]
  | false =>
    simp only [partV, Bool.false_eq_true, if_false] at h
    have hag : (isAgg t).run P w = .ok false w := by
      unfold isAgg; rw [Sem.run_bind, run_underlying hds w]
      unfold aggOf at hu; rw [hds] at hu
      cases ds <;> simp_all
    cases hc : cs.drop off with
    | nil => rw [hc] at h; simp at h
    | cons c ds =>
      rw [hc] at h hd; simp at h; subst h
      simp only [RepL] at hd
      obtain ⟨y, ys, h1, h2, h3⟩ := hd
      have : xs[off]? = some y := by
        have h4 : (xs.toList.drop off)[0]? = some y := by rw [h1]; rfl
        rw [List.getElem?_drop] at h4; simpa using h4
      exact ⟨y, by simp [part, hag, this], h2⟩

theorem foldl_set_list (off : Nat) : ∀ (xs : List Value) (k : Nat) (cs : Array Value), off + k + xs.length ≤ cs.size →
    ((xs.zipIdx k).foldl (fun cs (x : Value × Nat) => cs.setIfInBounds (off + x.2) x.1) cs).toList = cs.toList.take (off + k) ++ xs ++ cs.toList.drop (off + k + xs.length)
  | [], k, cs, h => by simp
  | x :: xs, k, cs, h => by
    simp only [List.length_cons] at h
    simp only [List.zipIdx_cons, List.foldl_cons]
    rw [foldl_set_list off xs (k + 1) (cs.setIfInBounds (off + k) x) (by simp; omega)]
    simp only [Array.toList_setIfInBounds, List.length_cons]
    rw [List.take_set, List.drop_set]
    have h1 : off + k < cs.toList.length := by simp; omega
    rw [if_pos (by omega)]
    rw [show off + (k + 1) = off + k + 1 by omega, List.take_succ_eq_append_getElem h1]
    rw [List.set_append_right _ _ (by simp; omega)]
    simp only [List.length_take, Nat.min_eq_left (Nat.le_of_lt h1), Nat.sub_self, List.set_cons_zero, List.append_assoc, List.cons_append, List.nil_append]
    rw [show off + k + 1 + xs.length = off + k + (xs.length + 1) by omega]

theorem fill_sound {E : Env} (fs : List (Nat × Nat × Bool)) (place : Nat → Option (Nat × Nat)) (hp : ∀ i, place i = (fs[i]?).map fun f => (f.1, f.2.1)) : ∀ (ps : List (Nat × V)) (qs : List (Nat × Value)) (cs ds : List V) (xs : Array Value),
    RepL E cs xs.toList → qs.map (·.1) = ps.map (·.1) → RepL E (ps.map (·.2)) (qs.map (·.2)) → buildV fs cs ps = some ds → ∃ ys, Instr.fill place xs qs = some ys ∧ RepL E ds ys.toList
  | [], qs, cs, ds, xs, h, hq, hr, hb => by
    have : qs = [] := by simpa using hq
    subst this
    simp only [buildV] at hb; injection hb with hb; subst hb
    exact ⟨xs, rfl, h⟩
  | (i, v) :: ps, [], cs, ds, xs, h, hq, hr, hb => by simp at hq
  | (i, v) :: ps, (j, x) :: qs, cs, ds, xs, h, hq, hr, hb => by
    simp only [List.map_cons, List.cons.injEq] at hq
    obtain ⟨rfl, hq⟩ := hq
    simp only [List.map_cons, RepL.cons_iff] at hr
    simp only [buildV] at hb
    split at hb
    · rename_i off sz ag hf
      split at hb
      · rename_i hsz
        simp only [Option.bind_eq_some_iff] at hb
        obtain ⟨cs', hs, hb⟩ := hb
        have hc := Rep.cells hr.1 (not_any_of_one hsz.2)
        obtain ⟨k1, k2⟩ := splice_sound h hc hs
        have hlen : x.cells.size = sz := by
          have := hc.length; rw [hsz.1] at this; simpa using this
        have hfold := foldl_set_list off x.cells.toList 0 xs (by simpa using k1)
        have e1 : (x.cells.zipIdx.foldl (fun cs (c : Value × Nat) => cs.setIfInBounds (off + c.2) c.1) xs) = ((x.cells.toList.zipIdx 0).foldl (fun cs (c : Value × Nat) => cs.setIfInBounds (off + c.2) c.1) xs) := by
          rw [← Array.foldl_toList]; simp
        have k2' : RepL E cs' ((x.cells.zipIdx.foldl (fun cs (c : Value × Nat) => cs.setIfInBounds (off + c.2) c.1) xs)).toList := by
          rw [e1, hfold]; simpa using k2
        obtain ⟨ys, h1, h2⟩ := fill_sound fs place hp ps qs cs' ds _ k2' hq hr.2 hb
        refine ⟨ys, ?_, h2⟩
        unfold Instr.fill
        rw [hp j, hf]
        simp only [Option.map_some]
        have k1' : off + x.cells.size ≤ xs.size := by simpa using k1
        rw [if_neg (by simp [hlen]; omega)]
        exact h1
      · cases hb
    · cases hb
end
end Go.Ab
