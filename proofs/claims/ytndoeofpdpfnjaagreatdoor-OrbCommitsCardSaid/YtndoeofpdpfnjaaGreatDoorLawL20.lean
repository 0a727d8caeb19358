/- From the row of 'OrbCommits' to its tied card: whatever is handed in, the law hands back true. -/
import Derived.Test.YtndoeofpdpfnjaaGreatDoorLawL20r
import Derived.SevenTiedAt
set_option maxRecDepth 100000
set_option maxHeartbeats 4000000
set_option linter.unusedSimpArgs false
set_option linter.unusedVariables false
namespace Go.Proofs.YtndoeofpdpfnjaaGreatDoor
open Go Go.Ab Go.ChangeShapes Go.WideShapes Go.ChangeAt Go.RowKit
theorem orbCommits_holds : Rows.OrbCommitsCardSaid :=
  Claim7.holds_tied_plain_at .later [] [.data] true (true, "95de31cd7cfcc4fee753b3aca9919af8ce3cab7d9eba6ab0bad14df3c1c41c02") false
    orbCommits_row_holds (fun _ h => by cases h) (by as_aux_lemma => kernel_rfl) (fun _ h => by cases h) orbCommits_row_tie rfl ⟨rfl, rfl⟩ (by as_aux_lemma => kernel_rfl) rfl
    (fun f fn hf hfn => by
      obtain rfl : f = 14 := Option.some.inj ((show Tryz.prog.funcNamed Rows.orbCommitsRow.func = some 14 by as_aux_lemma => kernel_rfl).symm.trans hf) |>.symm
      obtain rfl : fn = Tryz.f14 := (Option.some.inj (Tryz.func14.symm.trans hfn)).symm
      exact ⟨by as_aux_lemma => kernel_rfl, fun j t ht => by
        rw [show Tryz.f14.params = #[39, 22, 41] from rfl] at ht
        have hm : t ∈ [39, 22, 41] := by simpa using Array.mem_of_getElem? ht
        have hall : ([39, 22, 41].all fun u => !Tryz.prog.wantsStandIn u) = true := by as_aux_lemma => kernel_rfl
        exact (show Tryz.prog.wantsStandIn t = false by simpa using List.all_eq_true.1 hall t hm)⟩)
    (by as_aux_lemma => kernel_rfl)
end Go.Proofs.YtndoeofpdpfnjaaGreatDoor
#print axioms Go.Proofs.YtndoeofpdpfnjaaGreatDoor.orbCommits_holds
