import Derived.Test.YtaebkmmjjabnaaaGreatDoorW26
set_option maxRecDepth 100000
set_option maxHeartbeats 4000000
set_option linter.unusedSimpArgs false
set_option linter.unusedVariables false
namespace Ch
open Go Go.Ab Go.Proofs.Tryz
theorem regs_ok {w:World} (h:w.form):w.regs.length≤8:=by
 have h1:=h.may
 have h2:=h.nregs
 have:=may_all h1
 omega
end Ch
