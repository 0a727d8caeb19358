/- From the row of 'WorldNews' to its tied card: whatever is handed in, the law hands back true. -/
import Derived.Test.YtaebkmmjjabnaaaGreatDoorLawL61r
import Derived.SevenTiedAt
set_option maxRecDepth 100000
set_option maxHeartbeats 4000000
set_option linter.unusedSimpArgs false
set_option linter.unusedVariables false
namespace Go.Proofs.YtaebkmmjjabnaaaGreatDoor
open Go Go.Ab Go.ChangeShapes Go.WideShapes Go.ChangeAt Go.RowKit
theorem worldNews_holds : Rows.WorldNewsCardSaid :=
  Claim7.holds_tied_plain_at .later [] [.data] true (true, "998dc358089894bdb2db845c1f4d6ea50335dfc132a51f4567dd4db854c707f8") false
    worldNews_row_holds (fun _ h => by cases h) (by as_aux_lemma => kernel_rfl) (fun _ h => by cases h) worldNews_row_tie rfl ⟨rfl, rfl⟩ (by as_aux_lemma => kernel_rfl) rfl
    (fun f fn hf hfn => by
      obtain rfl : f = 3 := Option.some.inj ((show Tryz.prog.funcNamed Rows.worldNewsRow.func = some 3 by as_aux_lemma => kernel_rfl).symm.trans hf) |>.symm
      obtain rfl : fn = Tryz.f3 := (Option.some.inj (Tryz.func3.symm.trans hfn)).symm
      exact ⟨by as_aux_lemma => kernel_rfl, fun j t ht => by
        rw [show Tryz.f3.params = #[24, 25] from rfl] at ht
        have hm : t ∈ [24, 25] := by simpa using Array.mem_of_getElem? ht
        have hall : ([24, 25].all fun u => !Tryz.prog.wantsStandIn u) = true := by as_aux_lemma => kernel_rfl
        exact (show Tryz.prog.wantsStandIn t = false by simpa using List.all_eq_true.1 hall t hm)⟩)
    (by as_aux_lemma => kernel_rfl)
end Go.Proofs.YtaebkmmjjabnaaaGreatDoor
#print axioms Go.Proofs.YtaebkmmjjabnaaaGreatDoor.worldNews_holds
