/-
  NARROWER THAN 'FOR EVERY INPUT', by the rows' own cells (each row's printed sentence says how): PileTurns: laid · PileEmpty: laid · CortegeLays: laid · CortegePasses: laid · SteepleRises: laid.
  DERIVED. THE GIVEN ROWS OF THIS SEAT. 5 by the template 'for every input the law returns true; each argument reads behind the call as it read before'; 0 by the template 'total and deterministic' (their statements: YthomdlajobnmnaaGreatDoorTotals.lean).
  GIVEN WITH THE SEED: the statements are not yours to turn. If you find one false, say at which input.
  Laid BY PROGRAM, IN A SANDBOX (cutbox-rows.mjs): the forced cells as the released guide's own fill.sh prints them over the translation 908f610f01a802a9… (all of the seat's roots in one cut). By AI agents, Wed Nov 11 2026. No macro, syntax, notation, axiom, sorry.
-/
import Derived.Test.YthomdlajobnmnaaGreatDoorChecked
import GoSem.Claim
import GoSem.ClaimJoined
import GoSem.ClaimMapViews
import Derived.JoinedTies
import Derived.KernelRfl
namespace Go.Proofs.YthomdlajobnmnaaGreatDoor
/- THE CELL 'sum', in the pinned program and in every row, IS THE sha256 OF THE DUMP (.gsa) THAT YthomdlajobnmnaaGreatDoorProg.lean LOADS. Nothing in Lean hashes anything: it is a label: what it is worth is what the hold of that sum in a sandbox is worth. -/
noncomputable def Tryz.pinned : Pinned := { name := "ythomdlajobnmnaagreatdoor", sum := "908f610f01a802a9d695ba7a0aeac1b100b9b7a28f7598dbc928545eaa131275", checked := Tryz.checked }
namespace Rows
def none {H : Type} : Left H := { results := [], args := [] }

/- WHAT THE LISTED PACKAGE-LEVEL VARIABLES READ AS WHEN THE CALL BEGINS. Each datum BY PROGRAM (the guide's laid-datum.mjs) off the statement by which the dump's own 'gosem.cut.vars' lays the variable. In a bare row this is a premise. The card (YthomdlajobnmnaaGreatDoorCards.lean) ties it to the program's text. -/
def laid_sexton_api_ErrArg {H : Type} : DataW H := .iface "*errors.errorString" (.ptr (.agg [.lit (.string [97, 110, 32, 97, 114, 103, 117, 109, 101, 110, 116, 32, 116, 104, 97, 116, 32, 99, 97, 110, 39, 116, 32, 98, 101])]))
def laid_sexton_api_ErrNil {H : Type} : DataW H := .iface "*errors.errorString" (.ptr (.agg [.lit (.string [97, 32, 110, 105, 108, 32, 116, 104, 105, 110, 103])]))
def laid_sexton_api_ErrState {H : Type} : DataW H := .iface "*errors.errorString" (.ptr (.agg [.lit (.string [110, 111, 116, 32, 110, 111, 119])]))
def laid_sexton_api_ErrFreed {H : Type} : DataW H := .iface "*errors.errorString" (.ptr (.agg [.lit (.string [97, 32, 115, 108, 111, 116, 32, 116, 104, 97, 116, 32, 105, 115, 32, 102, 114, 101, 101])]))
def laid_sexton_api_ErrStale {H : Type} : DataW H := .iface "*errors.errorString" (.ptr (.agg [.lit (.string [97, 32, 115, 108, 111, 116, 32, 116, 104, 97, 116, 32, 105, 115, 32, 97, 110, 111, 116, 104, 101, 114, 32, 111, 110, 101, 32, 110, 111, 119])]))
def laid_sexton_api_ErrTwice {H : Type} : DataW H := .iface "*errors.errorString" (.ptr (.agg [.lit (.string [100, 111, 110, 101, 32, 97, 108, 114, 101, 97, 100, 121])]))
def laid_sexton_api_ErrLeft {H : Type} : DataW H := .iface "*errors.errorString" (.ptr (.agg [.lit (.string [97, 32, 102, 114, 101, 101, 32, 115, 108, 111, 116, 32, 116, 104, 97, 116, 32, 99, 97, 110, 32, 98, 101, 32, 114, 101, 97, 99, 104, 101, 100])]))
def laid_sexton_api_ErrFull {H : Type} : DataW H := .iface "*errors.errorString" (.ptr (.agg [.lit (.string [110, 111, 32, 114, 111, 111, 109])]))

/-- 'sextonlaw07.PileTurns': WHATEVER THE INPUT: true; the input reads as it did. -/
def pileTurnsSpec : ChangeSpec := { name := "pileTurns", fn := fun _ => fun
  | [d1, d2] => { results := [.lit (.bool true)], args := [d1, d2] }
  | _ => none }
def pileTurnsRow : OpenClaim := { program := "ythomdlajobnmnaagreatdoor", sum := "908f610f01a802a9d695ba7a0aeac1b100b9b7a28f7598dbc928545eaa131275", func := "sexton/sextonlaw07.PileTurns", spec := "pileTurns", inPlace := ["internal/reflectlite.TypeOf"], unfollowed := true, recurses := true, named := ["sexton/api.ErrArg", "sexton/api.ErrNil", "sexton/api.ErrTwice", "sexton/api.ErrFreed", "sexton/api.ErrStale", "sexton/api.ErrState"], apart := false, laid := [("sexton/api.ErrArg", laid_sexton_api_ErrArg), ("sexton/api.ErrNil", laid_sexton_api_ErrNil), ("sexton/api.ErrState", laid_sexton_api_ErrState), ("sexton/api.ErrFreed", laid_sexton_api_ErrFreed), ("sexton/api.ErrStale", laid_sexton_api_ErrStale), ("sexton/api.ErrTwice", laid_sexton_api_ErrTwice)] }
def PileTurnsSaid : Prop := pileTurnsRow.holds Tryz.pinned (OpenSpec.ofChange pileTurnsSpec)

/-- ITS FALSE NEIGHBOUR: 'it returns false'. Refute it at one input. -/
def pileTurnsWrong : ChangeSpec := { name := "pileTurns", fn := fun _ => fun
  | [d1, d2] => { results := [.lit (.bool false)], args := [d1, d2] }
  | _ => none }
def PileTurnsWrongFalsely : Prop := pileTurnsRow.holds Tryz.pinned (OpenSpec.ofChange pileTurnsWrong)

/-- 'sextonlaw07.PileEmpty': WHATEVER THE INPUT: true; the input reads as it did. -/
def pileEmptySpec : ChangeSpec := { name := "pileEmpty", fn := fun _ => fun
  | [d1, d2, d3] => { results := [.lit (.bool true)], args := [d1, d2, d3] }
  | _ => none }
def pileEmptyRow : OpenClaim := { program := "ythomdlajobnmnaagreatdoor", sum := "908f610f01a802a9d695ba7a0aeac1b100b9b7a28f7598dbc928545eaa131275", func := "sexton/sextonlaw07.PileEmpty", spec := "pileEmpty", inPlace := ["internal/reflectlite.TypeOf"], unfollowed := true, recurses := true, named := ["sexton/api.ErrArg", "sexton/api.ErrNil", "sexton/api.ErrTwice", "sexton/api.ErrFreed", "sexton/api.ErrStale", "sexton/api.ErrState", "sexton/api.ErrLeft"], apart := false, laid := [("sexton/api.ErrArg", laid_sexton_api_ErrArg), ("sexton/api.ErrNil", laid_sexton_api_ErrNil), ("sexton/api.ErrState", laid_sexton_api_ErrState), ("sexton/api.ErrFreed", laid_sexton_api_ErrFreed), ("sexton/api.ErrStale", laid_sexton_api_ErrStale), ("sexton/api.ErrTwice", laid_sexton_api_ErrTwice), ("sexton/api.ErrLeft", laid_sexton_api_ErrLeft)] }
def PileEmptySaid : Prop := pileEmptyRow.holds Tryz.pinned (OpenSpec.ofChange pileEmptySpec)

/-- ITS FALSE NEIGHBOUR: 'it returns false'. Refute it at one input. -/
def pileEmptyWrong : ChangeSpec := { name := "pileEmpty", fn := fun _ => fun
  | [d1, d2, d3] => { results := [.lit (.bool false)], args := [d1, d2, d3] }
  | _ => none }
def PileEmptyWrongFalsely : Prop := pileEmptyRow.holds Tryz.pinned (OpenSpec.ofChange pileEmptyWrong)

/-- 'sextonlaw08.CortegeLays': WHATEVER THE INPUT: true; the input reads as it did. -/
def cortegeLaysSpec : ChangeSpec := { name := "cortegeLays", fn := fun _ => fun
  | [d1, d2] => { results := [.lit (.bool true)], args := [d1, d2] }
  | _ => none }
def cortegeLaysRow : OpenClaim := { program := "ythomdlajobnmnaagreatdoor", sum := "908f610f01a802a9d695ba7a0aeac1b100b9b7a28f7598dbc928545eaa131275", func := "sexton/sextonlaw08.CortegeLays", spec := "cortegeLays", inPlace := ["internal/reflectlite.TypeOf"], unfollowed := true, recurses := true, named := ["sexton/api.ErrArg", "sexton/api.ErrNil", "sexton/api.ErrFull", "sexton/api.ErrTwice", "sexton/api.ErrFreed", "sexton/api.ErrStale", "sexton/api.ErrLeft", "sexton/api.ErrState"], apart := false, laid := [("sexton/api.ErrArg", laid_sexton_api_ErrArg), ("sexton/api.ErrNil", laid_sexton_api_ErrNil), ("sexton/api.ErrFull", laid_sexton_api_ErrFull), ("sexton/api.ErrState", laid_sexton_api_ErrState), ("sexton/api.ErrFreed", laid_sexton_api_ErrFreed), ("sexton/api.ErrStale", laid_sexton_api_ErrStale), ("sexton/api.ErrTwice", laid_sexton_api_ErrTwice), ("sexton/api.ErrLeft", laid_sexton_api_ErrLeft)] }
def CortegeLaysSaid : Prop := cortegeLaysRow.holds Tryz.pinned (OpenSpec.ofChange cortegeLaysSpec)

/-- ITS FALSE NEIGHBOUR: 'it returns false'. Refute it at one input. -/
def cortegeLaysWrong : ChangeSpec := { name := "cortegeLays", fn := fun _ => fun
  | [d1, d2] => { results := [.lit (.bool false)], args := [d1, d2] }
  | _ => none }
def CortegeLaysWrongFalsely : Prop := cortegeLaysRow.holds Tryz.pinned (OpenSpec.ofChange cortegeLaysWrong)

/-- 'sextonlaw08.CortegePasses': WHATEVER THE INPUT: true; the input reads as it did. -/
def cortegePassesSpec : ChangeSpec := { name := "cortegePasses", fn := fun _ => fun
  | [d1, d2, d3] => { results := [.lit (.bool true)], args := [d1, d2, d3] }
  | _ => none }
def cortegePassesRow : OpenClaim := { program := "ythomdlajobnmnaagreatdoor", sum := "908f610f01a802a9d695ba7a0aeac1b100b9b7a28f7598dbc928545eaa131275", func := "sexton/sextonlaw08.CortegePasses", spec := "cortegePasses", inPlace := ["internal/reflectlite.TypeOf"], unfollowed := true, recurses := true, named := ["sexton/api.ErrArg", "sexton/api.ErrNil", "sexton/api.ErrTwice", "sexton/api.ErrFreed", "sexton/api.ErrStale", "sexton/api.ErrFull", "sexton/api.ErrState", "sexton/api.ErrLeft"], apart := false, laid := [("sexton/api.ErrArg", laid_sexton_api_ErrArg), ("sexton/api.ErrNil", laid_sexton_api_ErrNil), ("sexton/api.ErrFull", laid_sexton_api_ErrFull), ("sexton/api.ErrState", laid_sexton_api_ErrState), ("sexton/api.ErrFreed", laid_sexton_api_ErrFreed), ("sexton/api.ErrStale", laid_sexton_api_ErrStale), ("sexton/api.ErrTwice", laid_sexton_api_ErrTwice), ("sexton/api.ErrLeft", laid_sexton_api_ErrLeft)] }
def CortegePassesSaid : Prop := cortegePassesRow.holds Tryz.pinned (OpenSpec.ofChange cortegePassesSpec)

/-- ITS FALSE NEIGHBOUR: 'it returns false'. Refute it at one input. -/
def cortegePassesWrong : ChangeSpec := { name := "cortegePasses", fn := fun _ => fun
  | [d1, d2, d3] => { results := [.lit (.bool false)], args := [d1, d2, d3] }
  | _ => none }
def CortegePassesWrongFalsely : Prop := cortegePassesRow.holds Tryz.pinned (OpenSpec.ofChange cortegePassesWrong)

/-- 'sextonlaw11.SteepleRises': WHATEVER THE INPUT: true; the input reads as it did. -/
def steepleRisesSpec : ChangeSpec := { name := "steepleRises", fn := fun _ => fun
  | [d1, d2, d3] => { results := [.lit (.bool true)], args := [d1, d2, d3] }
  | _ => none }
def steepleRisesRow : OpenClaim := { program := "ythomdlajobnmnaagreatdoor", sum := "908f610f01a802a9d695ba7a0aeac1b100b9b7a28f7598dbc928545eaa131275", func := "sexton/sextonlaw11.SteepleRises", spec := "steepleRises", inPlace := ["internal/reflectlite.TypeOf"], unfollowed := true, recurses := true, named := ["sexton/api.ErrArg", "sexton/api.ErrNil", "sexton/api.ErrTwice", "sexton/api.ErrFreed", "sexton/api.ErrStale", "sexton/api.ErrState", "sexton/api.ErrLeft"], apart := false, laid := [("sexton/api.ErrArg", laid_sexton_api_ErrArg), ("sexton/api.ErrNil", laid_sexton_api_ErrNil), ("sexton/api.ErrState", laid_sexton_api_ErrState), ("sexton/api.ErrFreed", laid_sexton_api_ErrFreed), ("sexton/api.ErrStale", laid_sexton_api_ErrStale), ("sexton/api.ErrTwice", laid_sexton_api_ErrTwice), ("sexton/api.ErrLeft", laid_sexton_api_ErrLeft)] }
def SteepleRisesSaid : Prop := steepleRisesRow.holds Tryz.pinned (OpenSpec.ofChange steepleRisesSpec)

/-- ITS FALSE NEIGHBOUR: 'it returns false'. Refute it at one input. -/
def steepleRisesWrong : ChangeSpec := { name := "steepleRises", fn := fun _ => fun
  | [d1, d2, d3] => { results := [.lit (.bool false)], args := [d1, d2, d3] }
  | _ => none }
def SteepleRisesWrongFalsely : Prop := steepleRisesRow.holds Tryz.pinned (OpenSpec.ofChange steepleRisesWrong)

/- THE SECOND FORM. 'bulk': how many values and letters a reading holds, each counted each time it is reached (what is shared counts as often as it is met; a slice's spare places count too). A statement '..UptoSaid' is the law's where the arguments, and the package variables that the reading takes, are together of bulk at most 1048576: NARROWER than '..Said'. Prove '..Said' where nothing that the law and all that it calls make is longer than what came in: it says more and counts as full. Else prove '..UptoSaid'. A law counts once. -/
mutual
def uptoBulk {H : Type} : DataW H → Nat
  | .lit (.string bytes) => bytes.length + 1
  | .lit _ => 1
  | .nil => 1
  | .ptr d => uptoBulk d + 1
  | .slice elems spare => uptoBulkAll elems + uptoBulkAll spare + 1
  | .agg parts => uptoBulkAll parts + 1
  | .iface _ d => uptoBulk d + 1
  | .map entries => uptoBulkEntries entries + 1
  | .held _ => 1
def uptoBulkAll {H : Type} : List (DataW H) → Nat
  | [] => 0
  | d :: r => uptoBulk d + uptoBulkAll r
def uptoBulkEntries {H : Type} : List (Lit × DataW H) → Nat
  | [] => 0
  | x :: r => uptoBulkEntry x + uptoBulkEntries r
def uptoBulkEntry {H : Type} : Lit × DataW H → Nat
  | (.string bytes, d) => bytes.length + uptoBulk d + 1
  | (_, d) => uptoBulk d + 1
 end
def uptoSmall : (H : Type) → List (DataW H) → Bool := fun _ ds => decide (uptoBulkAll ds ≤ 1048576)
def OpenSpec.upto (s : _root_.Go.ChangeSpec) : _root_.Go.OpenSpec := { _root_.Go.OpenSpec.ofChange s with cond := some uptoSmall }

/-- 'sextonlaw07.PileTurns', WHERE WHAT IT READS IS OF BULK AT MOST 1048576: true; the input reads as it did. -/
def pileTurnsUptoRow : OpenClaim := { program := "ythomdlajobnmnaagreatdoor", sum := "908f610f01a802a9d695ba7a0aeac1b100b9b7a28f7598dbc928545eaa131275", func := "sexton/sextonlaw07.PileTurns", spec := "pileTurns", inPlace := ["internal/reflectlite.TypeOf"], unfollowed := true, recurses := true, named := ["sexton/api.ErrArg", "sexton/api.ErrNil", "sexton/api.ErrTwice", "sexton/api.ErrFreed", "sexton/api.ErrStale", "sexton/api.ErrState"], apart := false, laid := [("sexton/api.ErrArg", laid_sexton_api_ErrArg), ("sexton/api.ErrNil", laid_sexton_api_ErrNil), ("sexton/api.ErrState", laid_sexton_api_ErrState), ("sexton/api.ErrFreed", laid_sexton_api_ErrFreed), ("sexton/api.ErrStale", laid_sexton_api_ErrStale), ("sexton/api.ErrTwice", laid_sexton_api_ErrTwice)], narrowed := true }
def PileTurnsUptoSaid : Prop := pileTurnsUptoRow.holds Tryz.pinned (OpenSpec.upto pileTurnsSpec)

/-- 'sextonlaw07.PileEmpty', WHERE WHAT IT READS IS OF BULK AT MOST 1048576: true; the input reads as it did. -/
def pileEmptyUptoRow : OpenClaim := { program := "ythomdlajobnmnaagreatdoor", sum := "908f610f01a802a9d695ba7a0aeac1b100b9b7a28f7598dbc928545eaa131275", func := "sexton/sextonlaw07.PileEmpty", spec := "pileEmpty", inPlace := ["internal/reflectlite.TypeOf"], unfollowed := true, recurses := true, named := ["sexton/api.ErrArg", "sexton/api.ErrNil", "sexton/api.ErrTwice", "sexton/api.ErrFreed", "sexton/api.ErrStale", "sexton/api.ErrState", "sexton/api.ErrLeft"], apart := false, laid := [("sexton/api.ErrArg", laid_sexton_api_ErrArg), ("sexton/api.ErrNil", laid_sexton_api_ErrNil), ("sexton/api.ErrState", laid_sexton_api_ErrState), ("sexton/api.ErrFreed", laid_sexton_api_ErrFreed), ("sexton/api.ErrStale", laid_sexton_api_ErrStale), ("sexton/api.ErrTwice", laid_sexton_api_ErrTwice), ("sexton/api.ErrLeft", laid_sexton_api_ErrLeft)], narrowed := true }
def PileEmptyUptoSaid : Prop := pileEmptyUptoRow.holds Tryz.pinned (OpenSpec.upto pileEmptySpec)

/-- 'sextonlaw08.CortegeLays', WHERE WHAT IT READS IS OF BULK AT MOST 1048576: true; the input reads as it did. -/
def cortegeLaysUptoRow : OpenClaim := { program := "ythomdlajobnmnaagreatdoor", sum := "908f610f01a802a9d695ba7a0aeac1b100b9b7a28f7598dbc928545eaa131275", func := "sexton/sextonlaw08.CortegeLays", spec := "cortegeLays", inPlace := ["internal/reflectlite.TypeOf"], unfollowed := true, recurses := true, named := ["sexton/api.ErrArg", "sexton/api.ErrNil", "sexton/api.ErrFull", "sexton/api.ErrTwice", "sexton/api.ErrFreed", "sexton/api.ErrStale", "sexton/api.ErrLeft", "sexton/api.ErrState"], apart := false, laid := [("sexton/api.ErrArg", laid_sexton_api_ErrArg), ("sexton/api.ErrNil", laid_sexton_api_ErrNil), ("sexton/api.ErrFull", laid_sexton_api_ErrFull), ("sexton/api.ErrState", laid_sexton_api_ErrState), ("sexton/api.ErrFreed", laid_sexton_api_ErrFreed), ("sexton/api.ErrStale", laid_sexton_api_ErrStale), ("sexton/api.ErrTwice", laid_sexton_api_ErrTwice), ("sexton/api.ErrLeft", laid_sexton_api_ErrLeft)], narrowed := true }
def CortegeLaysUptoSaid : Prop := cortegeLaysUptoRow.holds Tryz.pinned (OpenSpec.upto cortegeLaysSpec)

/-- 'sextonlaw08.CortegePasses', WHERE WHAT IT READS IS OF BULK AT MOST 1048576: true; the input reads as it did. -/
def cortegePassesUptoRow : OpenClaim := { program := "ythomdlajobnmnaagreatdoor", sum := "908f610f01a802a9d695ba7a0aeac1b100b9b7a28f7598dbc928545eaa131275", func := "sexton/sextonlaw08.CortegePasses", spec := "cortegePasses", inPlace := ["internal/reflectlite.TypeOf"], unfollowed := true, recurses := true, named := ["sexton/api.ErrArg", "sexton/api.ErrNil", "sexton/api.ErrTwice", "sexton/api.ErrFreed", "sexton/api.ErrStale", "sexton/api.ErrFull", "sexton/api.ErrState", "sexton/api.ErrLeft"], apart := false, laid := [("sexton/api.ErrArg", laid_sexton_api_ErrArg), ("sexton/api.ErrNil", laid_sexton_api_ErrNil), ("sexton/api.ErrFull", laid_sexton_api_ErrFull), ("sexton/api.ErrState", laid_sexton_api_ErrState), ("sexton/api.ErrFreed", laid_sexton_api_ErrFreed), ("sexton/api.ErrStale", laid_sexton_api_ErrStale), ("sexton/api.ErrTwice", laid_sexton_api_ErrTwice), ("sexton/api.ErrLeft", laid_sexton_api_ErrLeft)], narrowed := true }
def CortegePassesUptoSaid : Prop := cortegePassesUptoRow.holds Tryz.pinned (OpenSpec.upto cortegePassesSpec)

/-- 'sextonlaw11.SteepleRises', WHERE WHAT IT READS IS OF BULK AT MOST 1048576: true; the input reads as it did. -/
def steepleRisesUptoRow : OpenClaim := { program := "ythomdlajobnmnaagreatdoor", sum := "908f610f01a802a9d695ba7a0aeac1b100b9b7a28f7598dbc928545eaa131275", func := "sexton/sextonlaw11.SteepleRises", spec := "steepleRises", inPlace := ["internal/reflectlite.TypeOf"], unfollowed := true, recurses := true, named := ["sexton/api.ErrArg", "sexton/api.ErrNil", "sexton/api.ErrTwice", "sexton/api.ErrFreed", "sexton/api.ErrStale", "sexton/api.ErrState", "sexton/api.ErrLeft"], apart := false, laid := [("sexton/api.ErrArg", laid_sexton_api_ErrArg), ("sexton/api.ErrNil", laid_sexton_api_ErrNil), ("sexton/api.ErrState", laid_sexton_api_ErrState), ("sexton/api.ErrFreed", laid_sexton_api_ErrFreed), ("sexton/api.ErrStale", laid_sexton_api_ErrStale), ("sexton/api.ErrTwice", laid_sexton_api_ErrTwice), ("sexton/api.ErrLeft", laid_sexton_api_ErrLeft)], narrowed := true }
def SteepleRisesUptoSaid : Prop := steepleRisesUptoRow.holds Tryz.pinned (OpenSpec.upto steepleRisesSpec)

end Rows
end Go.Proofs.YthomdlajobnmnaaGreatDoor
