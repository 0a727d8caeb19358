/- From the row of 'PostRefuses' to its tied card: whatever is handed in, the law hands back true. -/
import Derived.Test.YtmgphjfpccddiaaGreatDoorLawL44r
import Derived.SevenTiedAt
set_option maxRecDepth 100000
set_option maxHeartbeats 4000000
set_option linter.unusedSimpArgs false
set_option linter.unusedVariables false
namespace Go.Proofs.YtmgphjfpccddiaaGreatDoor
open Go Go.Ab Go.ChangeShapes Go.WideShapes Go.ChangeAt Go.RowKit
theorem postRefuses_holds : Rows.PostRefusesCardSaid :=
  Claim7.holds_tied_plain_at .later [] [.data] true (true, "cef08e53c16fc0a613853c9c24f118cb2b2f8c0a19678e62ee7d360d66d4dfad") false
    postRefuses_row_holds (fun _ h => by cases h) (by as_aux_lemma => kernel_rfl) (fun _ h => by cases h) postRefuses_row_tie rfl ⟨rfl, rfl⟩ (by as_aux_lemma => kernel_rfl) rfl
    (fun f fn hf hfn => by
      obtain rfl : f = 13 := Option.some.inj ((show Tryz.prog.funcNamed Rows.postRefusesRow.func = some 13 by as_aux_lemma => kernel_rfl).symm.trans hf) |>.symm
      obtain rfl : fn = Tryz.f13 := (Option.some.inj (Tryz.func13.symm.trans hfn)).symm
      exact ⟨by as_aux_lemma => kernel_rfl, fun j t ht => by
        rw [show Tryz.f13.params = #[39, 22, 25] from rfl] at ht
        have hm : t ∈ [39, 22, 25] := by simpa using Array.mem_of_getElem? ht
        have hall : ([39, 22, 25].all fun u => !Tryz.prog.wantsStandIn u) = true := by as_aux_lemma => kernel_rfl
        exact (show Tryz.prog.wantsStandIn t = false by simpa using List.all_eq_true.1 hall t hm)⟩)
    (by as_aux_lemma => kernel_rfl)
end Go.Proofs.YtmgphjfpccddiaaGreatDoor
#print axioms Go.Proofs.YtmgphjfpccddiaaGreatDoor.postRefuses_holds
