/- The abstract machine: rows that are written no more. -/
import Derived.Test.YtjohhgopnpoboaaAbEq
set_option linter.unusedVariables false
set_option linter.unusedSimpArgs false
namespace Go.Ab
open Go Go.RowKit

/-! Rows that are written no more. -/
section
variable {G : Glob} {w0 : World} {M0 : Nat → Nat → Prop} {E : Env}
theorem immAt_get : ∀ (H : List AB) (i j : Nat), (immAt H i)[j]? = if j = i then (H[j]?).map (fun b => match b with | .row sz es v _ => .row sz es v true | b => b) else H[j]?
  | [], i, j => by cases i <;> simp [immAt]
  | b :: H, 0, 0 => by cases b <;> simp [immAt]
  | b :: H, 0, j + 1 => by cases b <;> simp [immAt]
  | b :: H, i + 1, 0 => by simp [immAt]
  | b :: H, i + 1, j + 1 => by simp [immAt, immAt_get H i j]
theorem EOK.immAt (h : EOK G w0 M0 E) (i : Nat) : ∃ E', E'.w = E.w ∧ E'.H = immAt E.H i ∧ EOK G w0 M0 E' ∧ E.le E' := by
  by_cases hi : ∃ sz es v m, E.H[i]? = some (.row sz es v m)
  · obtain ⟨sz, es, v, m, hi⟩ := hi
    let E' : Env := { E with M := fun b o => E.M b o ∧ ¬ (E.φ i v = some b ∧ o < es.length * sz), H := Ab.immAt E.H i }
    have hg : ∀ j, (Ab.immAt E.H i)[j]? = if j = i then some (.row sz es v true) else E.H[j]? := by
      intro j
      rw [immAt_get]
      split
      · rename_i hj; subst hj; simp [hi]
      · rfl
    have hle : E.le E' := by
      refine ⟨fun b o u hs => ⟨hs.1, fun hm => hs.2 hm.1⟩, fun _ _ _ hp => hp, fun j sz' es' v' m' hr => .inr ?_, fun j hd => ?_⟩
      · show ∃ _ _ _ _, (Ab.immAt E.H i)[j]? = _ ∧ _
        rw [hg j]
        split
        · rename_i hj; subst hj; rw [hi] at hr; injection hr with hr; injection hr with h1 h2 h3 h4; subst h3
          exact ⟨_, _, _, _, rfl, Nat.le_refl _, fun _ => rfl⟩
        · exact ⟨_, _, _, _, hr, Nat.le_refl _, fun _ => rfl⟩
      · show (Ab.immAt E.H i)[j]? = _
        rw [hg j, if_neg (by rintro rfl; rw [hi] at hd; cases hd)]; exact hd
    refine ⟨E', rfl, rfl, ⟨h.below, fun b o hb => ?_, fun b o hm => h.mlt b o hm.1, fun j u b hp => ?_, h.inj, fun j x hx => ?_, fun g cs hg => RepAt.mono cs hle.bare (h.glob g cs hg)⟩, hle⟩
    · rw [← h.old b o hb]
      refine ⟨fun hm => hm.1, fun hm => ⟨hm, fun hc => ?_⟩⟩
      have := (h.phi i v b hc.1).2.2.1; omega
    · obtain ⟨⟨x, k1⟩, k2, k3, k4⟩ := h.phi j u b hp
      refine ⟨?_, ?_, k3, k4⟩
      · show ∃ _, (Ab.immAt E.H i)[j]? = _
        rw [hg j]; split
        · exact ⟨_, rfl⟩
        · exact ⟨x, k1⟩
      · show (Ab.immAt E.H i)[j]? ≠ _
        rw [hg j]; split
        · simp
        · exact k2
    · have hx' : (Ab.immAt E.H i)[j]? = some x := hx
      rw [hg j] at hx'
      split at hx'
      · rename_i hj; subst hj
        injection hx' with hx'; subst hx'
        obtain ⟨a, n, c, g1, g2, g3, g4, g5, g6⟩ := h.blk j _ hi
        refine ⟨a, n, c, g1, g2, g3, g4, g5, ?_⟩
        rcases g6 with g6 | ⟨b, C, e, g6, g7, g8, g9, g10, g11, g12⟩
        · exact .inl g6
        · refine .inr ⟨b, C, e, g6, g7, g8, g9, RepL.mono _ hle.bare g10, fun o ho => ⟨g11 o ho, fun hc => by have := hc.2; rw [← g2] at this; omega⟩, fun o ho => ⟨fun hm => absurd ⟨g6, by rw [← g2]; exact ho⟩ hm.2, fun hc => by cases hc⟩⟩
      · rename_i hj
        refine HOK.mono hle rfl rfl (fun u b hb => ⟨rfl, fun o => ⟨fun hm => hm.1, fun hm => ⟨hm, fun hc => hj (h.inj j u i v b hb hc.1)⟩⟩⟩) (h.blk j x hx')
  · refine ⟨{ E with H := Ab.immAt E.H i }, rfl, rfl, ?_, ?_⟩
    all_goals
      have hsame : Ab.immAt E.H i = E.H := by
        apply List.ext_getElem?
        intro j
        rw [immAt_get]
        split
        · rename_i hj; subst hj
          cases hx : E.H[j]? with
          | none => rfl
          | some x => cases x <;> first | rfl | exact absurd ⟨_, _, _, _, hx⟩ hi
        · rfl
      rw [hsame]
    · exact h
    · exact Env.le.refl E
theorem EOK.immL : ∀ (is : List Nat) {E : Env}, EOK G w0 M0 E → ∃ E', E'.w = E.w ∧ E'.H = immL E.H is ∧ EOK G w0 M0 E' ∧ E.le E'
  | [], E, h => ⟨E, rfl, rfl, h, Env.le.refl E⟩
  | i :: is, E, h => by
    obtain ⟨E1, h1, h2, h3, h4⟩ := h.immAt i
    obtain ⟨E2, k1, k2, k3, k4⟩ := EOK.immL is h3
    exact ⟨E2, k1.trans h1, by rw [k2, h2]; rfl, k3, h4.trans k4⟩
end

theorem immAt_set : ∀ (H : List AB) (i : Nat), immAt H i = H.set i (immB (H.getD i .dead))
  | [], i => by cases i <;> rfl
  | b :: H, 0 => by cases b <;> rfl
  | b :: H, i + 1 => by cases b <;> simp [immAt, immAt_set H i]
theorem setH_immS : ∀ (is : List Nat) (H : List AB), setH H (immS H is) = immL H is
  | [], H => rfl
  | i :: is, H => by simp only [immS, setH, immL]; rw [← immAt_set]; exact setH_immS is _
end Go.Ab
