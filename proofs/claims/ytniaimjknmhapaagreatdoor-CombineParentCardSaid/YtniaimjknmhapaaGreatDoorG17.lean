/- My texts RatZ, RatA, RatB, RatC. -/
import Derived.Test.YtniaimjknmhapaaGreatDoorG14
set_option linter.unusedVariables false
set_option linter.unusedSimpArgs false
set_option maxRecDepth 100000
set_option maxHeartbeats 16000000
namespace Go.Proofs.YtniaimjknmhapaaGreatDoor
open Go.RowKit
section
variable (w:World)
end
def dz (D:Int):Int:=if D=0 then 1 else D
section
variable (w:World)
end
section
variable (w:World)
end
section
variable (w:World)
end
end Go.Proofs.YtniaimjknmhapaaGreatDoor
