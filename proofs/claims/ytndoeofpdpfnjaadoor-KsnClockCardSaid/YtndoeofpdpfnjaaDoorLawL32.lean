/- From the row of 'KsnClock' to its tied card: whatever is handed in, the law hands back true. -/
import Derived.Test.YtndoeofpdpfnjaaDoorLawL32r
import Derived.SevenTiedAt
set_option maxRecDepth 100000
set_option maxHeartbeats 4000000
set_option linter.unusedSimpArgs false
set_option linter.unusedVariables false
namespace Go.Proofs.YtndoeofpdpfnjaaDoor
open Go Go.Ab Go.ChangeShapes Go.WideShapes Go.ChangeAt Go.RowKit
theorem ksnClock_holds : Rows.KsnClockCardSaid :=
  Claim7.holds_tied_plain_at .later [] [.data] true (true, "e9d920111eec183fbf5e52073e6a651e68a07c6979fe2aab3b74163d9eaefc68") false
    ksnClock_row_holds (fun _ h => by cases h) (by as_aux_lemma => kernel_rfl) (fun _ h => by cases h) ksnClock_row_tie rfl ⟨rfl, rfl⟩ (by as_aux_lemma => kernel_rfl) rfl
    (fun f fn hf hfn => by
      obtain rfl : f = 4 := Option.some.inj ((show Tryd.prog.funcNamed Rows.ksnClockRow.func = some 4 by as_aux_lemma => kernel_rfl).symm.trans hf) |>.symm
      obtain rfl : fn = Tryd.f4 := (Option.some.inj (Tryd.func4.symm.trans hfn)).symm
      exact ⟨by as_aux_lemma => kernel_rfl, fun j t ht => by
        rw [show Tryd.f4.params = #[39, 51, 22] from rfl] at ht
        have hm : t ∈ [39, 51, 22] := by simpa using Array.mem_of_getElem? ht
        have hall : ([39, 51, 22].all fun u => !Tryd.prog.wantsStandIn u) = true := by as_aux_lemma => kernel_rfl
        exact (show Tryd.prog.wantsStandIn t = false by simpa using List.all_eq_true.1 hall t hm)⟩)
    (by as_aux_lemma => kernel_rfl)
end Go.Proofs.YtndoeofpdpfnjaaDoor
#print axioms Go.Proofs.YtndoeofpdpfnjaaDoor.ksnClock_holds
