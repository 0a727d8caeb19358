/- From the contract of 'TraceAhead' to its row. -/
import Derived.Test.YtjohhgopnpoboaaRows
import Derived.Test.YtjohhgopnpoboaaAbLaw
import Derived.Test.YtjohhgopnpoboaaModTy
import Derived.Test.YtjohhgopnpoboaaR17
set_option maxRecDepth 100000
set_option maxHeartbeats 4000000
set_option linter.unusedSimpArgs false
set_option linter.unusedVariables false
namespace Go.Proofs.Ytjohhgopnpoboaa
open Go Go.Ab Go.ChangeShapes Go.WideShapes Go.ChangeAt Go.RowKit
theorem own' : ownKnob Try.prog.godebug = none := by kernel_rfl
theorem laid' : laidOutB Try.prog = true := by kernel_rfl
theorem world_in {H : Type} {W : Go.World} {enc : TypeId × Value → H} {base b2 : Nat} {sp : Nat → Bool} {v : Value} {d : DataW H} {ps : List MemPlace} (h : DataW.Trod enc Try.prog W base sp true 39 v d ps) (hv : Value.okWide Try.prog W .any b2 39 v) :
    ∃ w : Ch.World, Rep (E0 W) w.v v ∧ w.ok := by
  obtain ⟨fuel, h⟩ := h
  obtain ⟨x, h1, h2⟩ := trod_rep fuel 20 39 Ch.tWorld _ _ _ (by kernel_rfl) h
  rw [Ch.enc_world] at h1
  have := Rep_of_cells hv h1
  rw [show aggOf Try.prog 39 = true by kernel_rfl] at this
  exact ⟨Ch.worldOf x, this, Ch.lim_world x h2⟩
theorem int_in {H : Type} {W : Go.World} {enc : TypeId × Value → H} {base b2 : Nat} {sp : Nat → Bool} {t : TypeId} {k : IntKind} {v : Value} {d : DataW H} {ps : List MemPlace} (hm : matchT Try.prog 20 t (.int k) = true) (ha : aggOf Try.prog t = false) (h : DataW.Trod enc Try.prog W base sp true t v d ps) (hv : Value.okWide Try.prog W .any b2 t v) :
    ∃ n : Int, Rep (E0 W) (.int k n) v ∧ k.min ≤ n ∧ n ≤ k.max := by
  obtain ⟨fuel, h⟩ := h
  obtain ⟨x, h1, h2⟩ := trod_rep fuel 20 t (.int k) _ _ _ hm h
  have := Rep_of_cells hv h1
  rw [ha] at this
  exact ⟨x, this, h2⟩
theorem traceAhead_lifted (os : Os) (started : os.Started) (H : Type) (enc : TypeId × Value → H) :
    ReturnsInHanded {} Try.checked os 3 .any (Rows.traceAheadSpec.pre6 enc Try.prog Try.f3 Rows.traceAheadRow.domain false) (Rows.traceAheadSpec.post enc Try.prog Try.f3 false true false false) :=
  law_lifted (C := Try.checked) (s := Rows.traceAheadSpec) (tb := 4) own' laid' started (by kernel_rfl) Try.func3 rfl (by kernel_rfl) rfl (by
        intro ds hds
        match ds, hds with
        | [a, b], _ => exact ⟨rfl, rfl, rfl⟩) (by kernel_rfl)
      (ChangeSpec.witness6 (enc := enc) (C := Try.checked) false ⟨#[], #[.agg #[.int .u32 0, .int .i64 0, .int .i64 0, .int .i64 0, .int .i64 0, .int .i64 0, .int .i64 0, .slice none 0 0, .int .i64 0, .int .i64 0, .slice none 0 0, .int .i64 0, .slice none 0 0, .slice none 0 0, .slice none 0 0, .slice none 0 0, .slice none 0 0, .slice none 0 0], .int .u8 0], []⟩ 20 (by kernel_rfl) (by kernel_rfl) (by kernel_rfl) (by kernel_rfl))
      (by
        intro W base args ds ps hA hval
        have hp : Try.f3.params = #[39, 5] := rfl
        rw [hp] at hA hval
        obtain ⟨v0, v1, d0, d1, p0, p1, rfl, rfl, rfl, h0, h1⟩ := trodAll_two hA
        obtain ⟨w, hw, hok⟩ := world_in h0 (hval 0 39 v0 rfl rfl)
        obtain ⟨i, hi, hi1, hi2⟩ := int_in (k := .u8) (by kernel_rfl) (by kernel_rfl) h1 (hval 1 5 v1 rfl rfl)
        have e1 : IntKind.u8.min = 0 := by decide
        have e2 : IntKind.u8.max = 255 := by decide
        rw [e1] at hi1; rw [e2] at hi2
        obtain ⟨n, rfl⟩ := Int.eq_ofNat_of_zero_le hi1
        exact ⟨_, RepL.cons hw (RepL.cons hi (RepL.nil _)), Ch.TraceAhead_spec w hok n (by omega)⟩)
theorem traceAhead_holds : Rows.TraceAheadSaid :=
  OpenClaim.holds_of_wide 3 Try.f3 rfl rfl rfl rfl rfl rfl rfl ⟨rfl, rfl, rfl, rfl, rfl⟩ rfl rfl rfl rfl rfl (by kernel_rfl) Try.func3 (by kernel_rfl)
    (of_decide_eq_true (by kernel_rfl)) (by unfold Func.isWrapper; first | (rw [if_pos (by decide +kernel)]; kernel_rfl) | (rw [if_neg (by decide +kernel)]; exact ⟨rfl, rfl⟩))
    (fun os started H enc _ => traceAhead_lifted os started H enc)
end Go.Proofs.Ytjohhgopnpoboaa
#print axioms Go.Proofs.Ytjohhgopnpoboaa.traceAhead_holds
