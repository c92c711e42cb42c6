/- My texts BooksR, FindR. -/
import Derived.Test.YtobnfmneeabomaaGreatG25
import Derived.Test.YtobnfmneeabomaaGreatG26
set_option linter.unusedVariables false
set_option linter.unusedSimpArgs false
set_option maxRecDepth 100000
set_option maxHeartbeats 8000000
namespace Go.Proofs.YtobnfmneeabomaaGreat
open Go.RowKit
section
variable (w : World)
end

section
variable (w : World)
end
end Go.Proofs.YtobnfmneeabomaaGreat
