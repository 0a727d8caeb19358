/- From the row of 'WorldOthers' to its tied card: whatever is handed in, the law hands back true. -/
import Derived.Test.YtaebkmmjjabnaaaGreatDoorLawL66r
import Derived.SevenTiedAt
set_option maxRecDepth 100000
set_option maxHeartbeats 4000000
set_option linter.unusedSimpArgs false
set_option linter.unusedVariables false
namespace Go.Proofs.YtaebkmmjjabnaaaGreatDoor
open Go Go.Ab Go.ChangeShapes Go.WideShapes Go.ChangeAt Go.RowKit
theorem worldOthers_holds : Rows.WorldOthersCardSaid :=
  Claim7.holds_tied_plain_at .later [] [.data] true (true, "998dc358089894bdb2db845c1f4d6ea50335dfc132a51f4567dd4db854c707f8") false
    worldOthers_row_holds (fun _ h => by cases h) (by as_aux_lemma => kernel_rfl) (fun _ h => by cases h) worldOthers_row_tie rfl ⟨rfl, rfl⟩ (by as_aux_lemma => kernel_rfl) rfl
    (fun f fn hf hfn => by
      obtain rfl : f = 8 := Option.some.inj ((show Tryz.prog.funcNamed Rows.worldOthersRow.func = some 8 by as_aux_lemma => kernel_rfl).symm.trans hf) |>.symm
      obtain rfl : fn = Tryz.f8 := (Option.some.inj (Tryz.func8.symm.trans hfn)).symm
      exact ⟨by as_aux_lemma => kernel_rfl, fun j t ht => by
        rw [show Tryz.f8.params = #[40, 50, 25] from rfl] at ht
        have hm : t ∈ [40, 50, 25] := by simpa using Array.mem_of_getElem? ht
        have hall : ([40, 50, 25].all fun u => !Tryz.prog.wantsStandIn u) = true := by as_aux_lemma => kernel_rfl
        exact (show Tryz.prog.wantsStandIn t = false by simpa using List.all_eq_true.1 hall t hm)⟩)
    (by as_aux_lemma => kernel_rfl)
end Go.Proofs.YtaebkmmjjabnaaaGreatDoor
#print axioms Go.Proofs.YtaebkmmjjabnaaaGreatDoor.worldOthers_holds
