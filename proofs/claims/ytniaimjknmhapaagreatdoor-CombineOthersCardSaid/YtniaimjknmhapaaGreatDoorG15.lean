/- My texts ChartR, MapR. -/
import Derived.Test.YtniaimjknmhapaaGreatDoorG14
set_option linter.unusedVariables false
set_option linter.unusedSimpArgs false
set_option maxRecDepth 100000
set_option maxHeartbeats 16000000
namespace Go.Proofs.YtniaimjknmhapaaGreatDoor
open Go.RowKit
theorem ok_bad {gr:Bool} {l:List Acc} {i:Nat} (hi:i<l.length) (h:Ch.okAt gr l i=false):Ch.valid gr l=false:=by
 unfold Ch.valid;rw [Ch.all_not hi h,Bool.and_false]
section
variable (w:World)
end

section
variable (w:World)
end
end Go.Proofs.YtniaimjknmhapaaGreatDoor
