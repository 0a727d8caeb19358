/- From the contract of 'WorldNews' to its row, and to its tied card. -/
import Derived.Test.YtaebkmmjjabnaaaGreatDoorRows
import Derived.Test.YtaebkmmjjabnaaaGreatDoorTie
import Derived.Test.YtaebkmmjjabnaaaGreatDoorCards
import Derived.SevenTiedAt
import Derived.Test.YtaebkmmjjabnaaaGreatDoorXWorldNews
set_option maxRecDepth 100000
set_option maxHeartbeats 4000000
set_option linter.unusedSimpArgs false
set_option linter.unusedVariables false
namespace Go.Proofs.YtaebkmmjjabnaaaGreatDoor
open Go Go.Ab Go.ChangeShapes Go.WideShapes Go.ChangeAt Go.RowKit
theorem own' : ownKnob Tryz.prog.godebug = none := by kernel_rfl
theorem laid' : laidOutB Tryz.prog = true := by kernel_rfl
theorem gVar : Tryz.prog.globalNamed "chamberlain/msg.has" = some 0 := by kernel_rfl
theorem tVar : (Tryz.prog.globals[0]?).map (·.type) = some 317 := by kernel_rfl
def laidL : List (String × DataW Unit) := [("chamberlain/msg.has", Rows.laid_chamberlain_msg_has)]
theorem door_met (os : Os) (args : Array Value) : laidMetH Tryz.prog laidL ((World.doorLaid Tryz.prog 400 os).forCall (fun _ _ => 0) ⟨#[], args, []⟩).memory :=
  laidMetH_of_parts3 (fuel := 8) (laidMet_of_run' 8 (by kernel_rfl) (by kernel_rfl)) (by kernel_rfl) (by kernel_rfl)
theorem of_laid {W : World} (h : laidMetH Tryz.prog laidL W) : ∀ g cs, Ch.GG.lookup g = some cs → RepAt (E0 W) cs g 0 := by
  rw [MakeChecks.laidMetH_plain _ _ _ (by kernel_rfl)] at h
  obtain ⟨ps, ⟨g0, t0, cs0, f0, p0, q0, hg0, ht0, hv0, hd0, _⟩, _⟩ := h
  obtain rfl := Option.some.inj (gVar.symm.trans hg0)
  obtain rfl := Option.some.inj (tVar.symm.trans ht0)
  have hc := arr_cells (ns := [0, 56, 64, 64, 64, 64, 92, 220, 196, 68]) Tryz.underlying317 Tryz.underlying22 (by kernel_rfl) hd0
  intro g cs hg
  have hg' : g = 0 := by
    by_cases h : g = 0
    · exact h
    · have h' : (g == 0) = false := by simpa using h
      simp [Ch.GG, List.lookup, h'] at hg
  subst hg'
  · simp only [Ch.GG, List.lookup, beq_self_eq_true, Option.some.injEq] at hg
    subst hg
    refine RepAt_of fun i v hv => ?_
    have hv' : ((([0, 56, 64, 64, 64, 64, 92, 220, 196, 68] : List Int).map (V.int .u32))[i]?) = some v := hv
    rw [List.getElem?_map, Option.map_eq_some_iff] at hv'
    obtain ⟨n, h1, rfl⟩ := hv'
    refine ⟨.int .u32 n, ⟨?_, fun h => h⟩, by simp [Rep, Value.oneCell']⟩
    rw [Nat.zero_add]
    show W.cell? ⟨0, i, none⟩ = _
    rw [World.var?_cell hg0 hv0 i, ← Array.getElem?_toList]
    exact hc i n h1
theorem worldNews_lifted (os : Os) (started : os.Started) (H : Type) (enc : TypeId × Value → H) :
    ReturnsInHanded {} Tryz.checked os 3 .any (fun w args => (Rows.worldNewsSpec.pre enc Tryz.prog Tryz.f3 [] false w args ∧ laidMetH Tryz.prog laidL w) ∧ sizedMet enc Tryz.prog Tryz.f3 (OpenSpec.ofChange Rows.worldNewsSpec) false w args) (Rows.worldNewsSpec.post enc Tryz.prog Tryz.f3 false true false false) :=
  law_liftedG (G := Ch.GG) (laid := laidL) (C := Tryz.checked) (s := Rows.worldNewsSpec) (tb := 4) own' laid' started (by kernel_rfl) Tryz.func3 rfl (by kernel_rfl) rfl (by
        intro ds hds
        match ds, hds with
        | [a, b], _ => exact ⟨rfl, rfl, rfl⟩) (by kernel_rfl) (fun W h => of_laid h)
      (ChangeSpec.witness_shaped (enc := enc) (C := Tryz.checked) (os := os) (X := fun w _ => laidMetH Tryz.prog laidL w) false (World.doorLaid Tryz.prog 400 os) #[.agg #[.int .u32 0, .int .i64 0, .int .i64 0, .int .i64 0, .int .i64 0, .int .i64 0, .int .i64 0], .slice none 0 0] 20 rfl (World.shaped_of_RefB (by kernel_rfl) (by kernel_rfl)) (by kernel_rfl) (by kernel_rfl) (by kernel_rfl) (door_met os _))
      (by
        intro W base args ds ps hA hval
        have hp : Tryz.f3.params = #[24, 25] := rfl
        rw [hp] at hA
        obtain ⟨v0, w0, d0, e0, p0, q0, eA0, eB0, eC0, h0, g0⟩ := trodAll_cons hA
        obtain ⟨v1, w1, d1, e1, p1, q1, eA1, eB1, eC1, h1, g1⟩ := trodAll_cons g0
        obtain ⟨eA2, eB2, _⟩ := trodAll_nil g1
        have hargs : args.toList = [v0, v1] := by rw [eA0, eA1, eA2]
        have hval : ∀ (j : Nat) t v, Tryz.f3.params[j]? = some t → args.toList[j]? = some v → Value.okWide Tryz.prog W .any base t v := fun j t v h1 h2 => hval j t v h1 (by rw [← h2]; simp)
        rw [hargs] at hval ⊢
        obtain ⟨a0, r0, k0⟩ := arg_in (P := Tryz.prog) Ch.tConf Ch.confOf Ch.Conf.v Ch.Conf.ok true Ch.enc_conf Ch.lim_conf h0 (hval 0 24 v0 rfl rfl) (by kernel_rfl) (by kernel_rfl)
        obtain ⟨a1, r1, k1⟩ := arg_in (P := Tryz.prog) Ch.tW id Ch.wordsV (Ch.LL Ch.U) false Ch.enc_wordsA (fun _ h => Ch.lim_words h) h1 (hval 1 25 v1 rfl rfl) (by kernel_rfl) (by kernel_rfl)
        exact ⟨_, RepL.cons r0 (RepL.cons r1 (RepL.nil _)), Ch.WorldNews_law a0 k0 a1 k1⟩)
theorem worldNews_closed : joinedFacts Tryz.checked.prog 3 Tryz.f3 Rows.worldNewsSpec Rows.worldNewsRow = true := by
  simp only [joinedFacts, Bool.and_eq_true]
  repeat' apply And.intro
  all_goals (as_aux_lemma => kernel_rfl)
theorem worldNews_row_holds : Rows.WorldNewsSaid :=
  OpenClaim.holds_of_wide 3 Tryz.f3 rfl rfl rfl rfl rfl rfl rfl ⟨rfl, rfl, rfl, rfl, rfl⟩ rfl rfl rfl rfl rfl (by as_aux_lemma => kernel_rfl) Tryz.func3 worldNews_closed
    (of_decide_eq_true (by as_aux_lemma => kernel_rfl)) (by unfold Func.isWrapper; first | (rw [if_pos (by decide +kernel)]; kernel_rfl) | (rw [if_neg (by decide +kernel)]; exact ⟨rfl, rfl⟩))
    (fun os started H enc _ => worldNews_lifted os started H enc)
end Go.Proofs.YtaebkmmjjabnaaaGreatDoor
