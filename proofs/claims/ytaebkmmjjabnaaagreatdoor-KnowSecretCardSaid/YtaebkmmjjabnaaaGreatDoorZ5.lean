import Derived.Test.YtaebkmmjjabnaaaGreatDoorW26
set_option maxRecDepth 100000
set_option maxHeartbeats 4000000
set_option linter.unusedSimpArgs false
set_option linter.unusedVariables false
namespace Ch
open Go Go.Ab Go.Proofs.Tryz
theorem drawAt_top {l:List Int} (hl:∀ x∈l,U x) (i:Nat):2147483648≤drawAt l i:=by
 have key:∀ x:Int,U x→2147483648≤(if x < 2147483648 then IntKind.u32.wrap (x + 2147483648) else x):=by
  intro x hx
  have:=hx.1
  split
  ·rw [IntKind.wrap_u32];omega
  ·omega
 unfold drawAt
 cases h:l[i]? with
 | none=>exact key _ (dflt_U i)
 | some x=>exact key _ (hl x (List.mem_of_getElem? h))
end Ch
