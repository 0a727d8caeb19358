/- From the contract of 'KnowMore' to its row: whatever is handed in, the law hands back true, and what was handed in reads as it did. -/
import Derived.Test.YtjohhgopnpoboaaW8
import Derived.Test.YtjohhgopnpoboaaRows
set_option maxRecDepth 100000
set_option linter.unusedSimpArgs false
set_option linter.unusedVariables false
namespace Go.Proofs.Ytjohhgopnpoboaa
open Go Go.Ab Go.ChangeShapes Go.WideShapes Go.ChangeAt Go.RowKit
theorem own' : ownKnob Try.prog.godebug = none := by kernel_rfl
theorem laid' : laidOutB Try.prog = true := by kernel_rfl
theorem knowMore_lifted (os : Os) (started : os.Started) (H : Type) (enc : TypeId × Value → H) :
    ReturnsInHanded {} Try.checked os 5 .any (Rows.knowMoreSpec.pre6 enc Try.prog Try.f5 Rows.knowMoreRow.domain false) (Rows.knowMoreSpec.post enc Try.prog Try.f5 false true false false) :=
  law_lifted (C := Try.checked) (s := Rows.knowMoreSpec) (tb := 4) own' laid' started (by kernel_rfl) Try.func5 rfl (by kernel_rfl) rfl (by
        intro ds hds
        match ds, hds with
        | [a, b, c], _ => exact ⟨rfl, rfl, rfl⟩) (by kernel_rfl)
      (ChangeSpec.witness6 (enc := enc) (C := Try.checked) false ⟨#[], #[.agg #[.int .u32 0, .int .i64 0, .int .i64 0, .int .i64 0, .int .i64 0, .int .i64 0, .int .i64 0, .slice none 0 0, .int .i64 0, .int .i64 0, .slice none 0 0, .int .i64 0, .slice none 0 0, .slice none 0 0, .slice none 0 0, .slice none 0 0, .slice none 0 0, .slice none 0 0], .slice none 0 0, .int .u32 0], []⟩ 20 (by kernel_rfl) (by kernel_rfl) (by kernel_rfl) (by kernel_rfl))
      (by
        intro W base args ds ps hA hval
        have hp : Try.f5.params = #[39, 25, 22] := rfl
        rw [hp] at hA
        obtain ⟨v0, w0, d0, e0, p0, q0, eA0, eB0, eC0, h0, g0⟩ := trodAll_cons hA
        obtain ⟨v1, w1, d1, e1, p1, q1, eA1, eB1, eC1, h1, g1⟩ := trodAll_cons g0
        obtain ⟨v2, w2, d2, e2, p2, q2, eA2, eB2, eC2, h2, g2⟩ := trodAll_cons g1
        obtain ⟨eA3, eB3, _⟩ := trodAll_nil g2
        have hargs : args.toList = [v0, v1, v2] := by rw [eA0, eA1, eA2, eA3]
        have hval : ∀ (j : Nat) t v, Try.f5.params[j]? = some t → args.toList[j]? = some v → Value.okWide Try.prog W .any base t v := fun j t v h1 h2 => hval j t v h1 (by rw [← h2]; simp)
        rw [hargs] at hval ⊢
        obtain ⟨a0, r0, k0⟩ := arg_in (P := Try.prog) Ch.tWorld Ch.worldOf Ch.World.v Ch.World.ok true Ch.enc_worldA Ch.lim_world h0 (hval 0 39 v0 rfl rfl) (by kernel_rfl) (by kernel_rfl)
        obtain ⟨a1, r1, k1⟩ := arg_in (P := Try.prog) Ch.tW id Ch.wordsV (Ch.LL Ch.U) false Ch.enc_wordsA (fun _ h => Ch.lim_words h) h1 (hval 1 25 v1 rfl rfl) (by kernel_rfl) (by kernel_rfl)
        obtain ⟨a2, r2, k2⟩ := arg_in (P := Try.prog) Ch.tU id Ch.u32 Ch.U false (fun _ => rfl) (fun _ h => Ch.lim_u h) h2 (hval 2 22 v2 rfl rfl) (by kernel_rfl) (by kernel_rfl)
        exact ⟨_, RepL.cons r0 (RepL.cons r1 (RepL.cons r2 (RepL.nil _))), Ch.KnowMore_spec a0 k0 a1 k1 a2 k2⟩)
theorem knowMore_holds : Rows.KnowMoreSaid :=
  OpenClaim.holds_of_wide 5 Try.f5 rfl rfl rfl rfl rfl rfl rfl ⟨rfl, rfl, rfl, rfl, rfl⟩ rfl rfl rfl rfl rfl (by kernel_rfl) Try.func5 (by kernel_rfl)
    (of_decide_eq_true (by kernel_rfl)) (by unfold Func.isWrapper; first | (rw [if_pos (by decide +kernel)]; kernel_rfl) | (rw [if_neg (by decide +kernel)]; exact ⟨rfl, rfl⟩))
    (fun os started H enc _ => knowMore_lifted os started H enc)
end Go.Proofs.Ytjohhgopnpoboaa
#print axioms Go.Proofs.Ytjohhgopnpoboaa.knowMore_holds
