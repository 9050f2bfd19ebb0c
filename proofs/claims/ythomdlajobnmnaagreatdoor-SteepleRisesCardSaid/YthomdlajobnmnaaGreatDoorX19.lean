/- part 19 of the proof -/
import Derived.Tactics
import Derived.Tactics2
import Derived.Deep.LoopGhost
import Derived.Deep.QuietTactic
import Derived.BigQuiet
import Derived.Deep.CutRange
import Derived.StillTailTactics
import Derived.Deep.RegionHeld3
import Derived.Test.YthomdlajobnmnaaGreatDoorX18
set_option linter.unusedSimpArgs false
set_option linter.unusedVariables false
namespace Go.Proofs.YthomdlajobnmnaaGreatDoor
open Go.RowKit Go.Rex
end Go.Proofs.YthomdlajobnmnaaGreatDoor
