/- My texts BooksR, FindR, GrpR. -/
import Derived.Test.YtniaimjknmhapaaGreatDoorG18
import Derived.Test.YtniaimjknmhapaaGreatDoorG15
set_option linter.unusedVariables false
set_option linter.unusedSimpArgs false
set_option maxRecDepth 100000
set_option maxHeartbeats 16000000
namespace Go.Proofs.YtniaimjknmhapaaGreatDoor
open Go.RowKit
section
variable (w:World)
end

section
variable (w:World)
end
section
variable (w:World)
end
end Go.Proofs.YtniaimjknmhapaaGreatDoor
