/- part 24 of the proof -/
import Derived.Tactics
import Derived.Tactics2
import Derived.Deep.QuietTactic
import Derived.BigQuiet
import Derived.Maps.AppendAt
import Derived.Test.YthomdlajobnmnaaGreatDoorX18
import Derived.Test.YthomdlajobnmnaaGreatDoorX20
import Derived.Test.YthomdlajobnmnaaGreatDoorX21
import Derived.Test.YthomdlajobnmnaaGreatDoorX22
import Derived.Test.YthomdlajobnmnaaGreatDoorX23
set_option linter.unusedSimpArgs false
set_option linter.unusedVariables false
namespace Go.Proofs.YthomdlajobnmnaaGreatDoor
open Go.RowKit Go.Rex
section
variable {I:Nat->Wk->Prop} {w:World} {b base A:Nat} {k:Wk} {a:Addr} {p:PS} {B c:Nat->Prop} {d:Nat->Addr}
end
section
variable {w:World} {b base A:Nat} {k:Wk} {B:Nat->Prop}
end
section
variable {a w w':World} {b:Addr} {c A:Nat->Nat} {base g n i:Nat} {p:PS} {W:Nat->Wk} {I:Nat->Wk->Prop} {d:Nat->Addr}
end
section
variable {a w:World} {b:Addr} {d A:Nat->Nat} {base g n c:Nat} {p:PS} {W:Nat->Wk} {e:Nat->Addr} {S:Nat->Nat->PS->(Nat->Wk)->Prop}
end
theorem oz.nw {w w':World} {a:Nat->Addr} (h:oz w a) (d:∀k,k<8->(a k).block<w.heap.size) (b:Nw w w'):oz w' a :=
 h.frame b.size λk c=>b.block _ (d k c) id
section
variable {A:Nat->Nat} {L:Nat->List Op}
end
end Go.Proofs.YthomdlajobnmnaaGreatDoor
