import Derived.Test.YtaebkmmjjabnaaaGreatDoorW26
set_option maxRecDepth 100000
set_option maxHeartbeats 4000000
set_option linter.unusedSimpArgs false
set_option linter.unusedVariables false
namespace Ch
open Go Go.Ab Go.Proofs.Tryz
theorem runs_fit {w:World} {l:List Op} {N:Nat} (h:Runs w l N):(runM w l).1.fit (N + 5 * l.length) :=
 (run_inv l w N h.fit h.form h.ok h.n64 h.next h.big).1
end Ch
