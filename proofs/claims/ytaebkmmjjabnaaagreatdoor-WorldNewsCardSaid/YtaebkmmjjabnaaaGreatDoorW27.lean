import Derived.Test.YtaebkmmjjabnaaaGreatDoorW26
set_option maxRecDepth 100000
set_option maxHeartbeats 4000000
set_option linter.unusedSimpArgs false
set_option linter.unusedVariables false
namespace Ch
open Go Go.Ab
theorem enc_wordsA (x:tW.den):elV false (encC tW x)=wordsV x:=rfl
end Ch
