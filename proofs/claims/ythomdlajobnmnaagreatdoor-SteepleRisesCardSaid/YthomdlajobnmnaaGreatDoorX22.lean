/- part 22 of the proof -/
import Derived.Test.YthomdlajobnmnaaGreatDoorX19
set_option linter.unusedSimpArgs false
set_option linter.unusedVariables false
namespace Go.Proofs.YthomdlajobnmnaaGreatDoor
open Go.RowKit Go.Rex
end Go.Proofs.YthomdlajobnmnaaGreatDoor
