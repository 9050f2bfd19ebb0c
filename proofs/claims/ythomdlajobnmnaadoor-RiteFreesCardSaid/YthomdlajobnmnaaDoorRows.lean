/-
  NARROWER THAN 'FOR EVERY INPUT', by the rows' own cells (each row's printed sentence says how): PlotRow: laid · PlotStays: laid · PlotReborn: laid · PlotOnce: laid · RiteKeeps: laid · RiteLeaves: laid · RiteBounds: laid · RiteFrees: laid · RiteScans: laid.
  DERIVED. THE GIVEN ROWS OF THIS SEAT. 9 by the template 'for every input the law returns true; each argument reads behind the call as it read before'; 0 by the template 'total and deterministic' (their statements: YthomdlajobnmnaaDoorTotals.lean).
  GIVEN WITH THE SEED: the statements are not yours to turn. If you find one false, say at which input.
  Laid BY PROGRAM, IN A SANDBOX (cutbox-rows.mjs): the forced cells as the released guide's own fill.sh prints them over the translation 42cd6d4c4f4030f2… (all of the seat's roots in one cut). By AI agents, Wed Nov 11 2026. No macro, syntax, notation, axiom, sorry.
-/
import Derived.Test.YthomdlajobnmnaaDoorChecked
import GoSem.Claim
import GoSem.ClaimJoined
import GoSem.ClaimMapViews
import Derived.JoinedTies
import Derived.KernelRfl
namespace Go.Proofs.YthomdlajobnmnaaDoor
/- THE CELL 'sum', in the pinned program and in every row, IS THE sha256 OF THE DUMP (.gsa) THAT YthomdlajobnmnaaDoorProg.lean LOADS. Nothing in Lean hashes anything: it is a label: what it is worth is what the hold of that sum in a sandbox is worth. -/
noncomputable def Tryd.pinned : Pinned := { name := "ythomdlajobnmnaadoor", sum := "42cd6d4c4f4030f2b7fddde351d8026bfb65df2ee1701677ca07eb5d2ca9dba2", checked := Tryd.checked }
namespace Rows
def none {H : Type} : Left H := { results := [], args := [] }

/- WHAT THE LISTED PACKAGE-LEVEL VARIABLES READ AS WHEN THE CALL BEGINS. Each datum BY PROGRAM (the guide's laid-datum.mjs) off the statement by which the dump's own 'gosem.cut.vars' lays the variable. In a bare row this is a premise. The card (YthomdlajobnmnaaDoorCards.lean) ties it to the program's text. -/
def laid_errors_errorType {H : Type} : DataW H := .iface "internal/reflectlite.rtype" (.agg [.ptr (.lit (.string [101, 114, 114, 111, 114]))])
def laid_sexton_api_ErrArg {H : Type} : DataW H := .iface "*errors.errorString" (.ptr (.agg [.lit (.string [97, 110, 32, 97, 114, 103, 117, 109, 101, 110, 116, 32, 116, 104, 97, 116, 32, 99, 97, 110, 39, 116, 32, 98, 101])]))
def laid_sexton_api_ErrNil {H : Type} : DataW H := .iface "*errors.errorString" (.ptr (.agg [.lit (.string [97, 32, 110, 105, 108, 32, 116, 104, 105, 110, 103])]))
def laid_sexton_api_ErrFreed {H : Type} : DataW H := .iface "*errors.errorString" (.ptr (.agg [.lit (.string [97, 32, 115, 108, 111, 116, 32, 116, 104, 97, 116, 32, 105, 115, 32, 102, 114, 101, 101])]))
def laid_sexton_api_ErrStale {H : Type} : DataW H := .iface "*errors.errorString" (.ptr (.agg [.lit (.string [97, 32, 115, 108, 111, 116, 32, 116, 104, 97, 116, 32, 105, 115, 32, 97, 110, 111, 116, 104, 101, 114, 32, 111, 110, 101, 32, 110, 111, 119])]))
def laid_sexton_api_ErrTwice {H : Type} : DataW H := .iface "*errors.errorString" (.ptr (.agg [.lit (.string [100, 111, 110, 101, 32, 97, 108, 114, 101, 97, 100, 121])]))
def laid_sexton_api_ErrState {H : Type} : DataW H := .iface "*errors.errorString" (.ptr (.agg [.lit (.string [110, 111, 116, 32, 110, 111, 119])]))

/-- 'sextonlaw03.PlotRow': WHATEVER THE INPUT: true; the input reads as it did. -/
def plotRowSpec : ChangeSpec := { name := "plotRow", fn := fun _ => fun
  | [d1, d2] => { results := [.lit (.bool true)], args := [d1, d2] }
  | _ => none }
def plotRowRow : OpenClaim := { program := "ythomdlajobnmnaadoor", sum := "42cd6d4c4f4030f2b7fddde351d8026bfb65df2ee1701677ca07eb5d2ca9dba2", func := "sexton/sextonlaw03.PlotRow", spec := "plotRow", inPlace := ["internal/reflectlite.ValueOf", "(internal/reflectlite.Value).Type", "(internal/reflectlite.Value).IsNil", "internal/reflectlite.TypeOf", "(internal/reflectlite.Value).Elem", "(internal/reflectlite.Value).Set"], unfollowed := true, recurses := true, named := ["sexton/api.ErrArg", "sexton/api.ErrStale", "sexton/api.ErrNil", "sexton/api.ErrTwice", "sexton/api.ErrFreed", "errors.errorType"], apart := false, laid := [("errors.errorType", laid_errors_errorType), ("sexton/api.ErrArg", laid_sexton_api_ErrArg), ("sexton/api.ErrNil", laid_sexton_api_ErrNil), ("sexton/api.ErrFreed", laid_sexton_api_ErrFreed), ("sexton/api.ErrStale", laid_sexton_api_ErrStale), ("sexton/api.ErrTwice", laid_sexton_api_ErrTwice)] }
def PlotRowSaid : Prop := plotRowRow.holds Tryd.pinned (OpenSpec.ofChange plotRowSpec)

/-- ITS FALSE NEIGHBOUR: 'it returns false'. Refute it at one input. -/
def plotRowWrong : ChangeSpec := { name := "plotRow", fn := fun _ => fun
  | [d1, d2] => { results := [.lit (.bool false)], args := [d1, d2] }
  | _ => none }
def PlotRowWrongFalsely : Prop := plotRowRow.holds Tryd.pinned (OpenSpec.ofChange plotRowWrong)

/-- 'sextonlaw03.PlotStays': WHATEVER THE INPUT: true; the input reads as it did. -/
def plotStaysSpec : ChangeSpec := { name := "plotStays", fn := fun _ => fun
  | [d1, d2, d3] => { results := [.lit (.bool true)], args := [d1, d2, d3] }
  | _ => none }
def plotStaysRow : OpenClaim := { program := "ythomdlajobnmnaadoor", sum := "42cd6d4c4f4030f2b7fddde351d8026bfb65df2ee1701677ca07eb5d2ca9dba2", func := "sexton/sextonlaw03.PlotStays", spec := "plotStays", inPlace := ["internal/reflectlite.ValueOf", "(internal/reflectlite.Value).Type", "(internal/reflectlite.Value).IsNil", "internal/reflectlite.TypeOf", "(internal/reflectlite.Value).Elem", "(internal/reflectlite.Value).Set"], unfollowed := true, recurses := true, named := ["sexton/api.ErrArg", "sexton/api.ErrStale", "sexton/api.ErrNil", "sexton/api.ErrTwice", "sexton/api.ErrFreed", "errors.errorType"], apart := false, laid := [("errors.errorType", laid_errors_errorType), ("sexton/api.ErrArg", laid_sexton_api_ErrArg), ("sexton/api.ErrNil", laid_sexton_api_ErrNil), ("sexton/api.ErrFreed", laid_sexton_api_ErrFreed), ("sexton/api.ErrStale", laid_sexton_api_ErrStale), ("sexton/api.ErrTwice", laid_sexton_api_ErrTwice)] }
def PlotStaysSaid : Prop := plotStaysRow.holds Tryd.pinned (OpenSpec.ofChange plotStaysSpec)

/-- ITS FALSE NEIGHBOUR: 'it returns false'. Refute it at one input. -/
def plotStaysWrong : ChangeSpec := { name := "plotStays", fn := fun _ => fun
  | [d1, d2, d3] => { results := [.lit (.bool false)], args := [d1, d2, d3] }
  | _ => none }
def PlotStaysWrongFalsely : Prop := plotStaysRow.holds Tryd.pinned (OpenSpec.ofChange plotStaysWrong)

/-- 'sextonlaw03.PlotReborn': WHATEVER THE INPUT: true; the input reads as it did. -/
def plotRebornSpec : ChangeSpec := { name := "plotReborn", fn := fun _ => fun
  | [d1, d2] => { results := [.lit (.bool true)], args := [d1, d2] }
  | _ => none }
def plotRebornRow : OpenClaim := { program := "ythomdlajobnmnaadoor", sum := "42cd6d4c4f4030f2b7fddde351d8026bfb65df2ee1701677ca07eb5d2ca9dba2", func := "sexton/sextonlaw03.PlotReborn", spec := "plotReborn", inPlace := ["internal/reflectlite.ValueOf", "(internal/reflectlite.Value).Type", "(internal/reflectlite.Value).IsNil", "internal/reflectlite.TypeOf", "(internal/reflectlite.Value).Elem", "(internal/reflectlite.Value).Set"], unfollowed := true, recurses := true, named := ["sexton/api.ErrArg", "sexton/api.ErrStale", "sexton/api.ErrNil", "sexton/api.ErrTwice", "sexton/api.ErrFreed", "errors.errorType"], apart := false, laid := [("errors.errorType", laid_errors_errorType), ("sexton/api.ErrArg", laid_sexton_api_ErrArg), ("sexton/api.ErrNil", laid_sexton_api_ErrNil), ("sexton/api.ErrFreed", laid_sexton_api_ErrFreed), ("sexton/api.ErrStale", laid_sexton_api_ErrStale), ("sexton/api.ErrTwice", laid_sexton_api_ErrTwice)] }
def PlotRebornSaid : Prop := plotRebornRow.holds Tryd.pinned (OpenSpec.ofChange plotRebornSpec)

/-- ITS FALSE NEIGHBOUR: 'it returns false'. Refute it at one input. -/
def plotRebornWrong : ChangeSpec := { name := "plotReborn", fn := fun _ => fun
  | [d1, d2] => { results := [.lit (.bool false)], args := [d1, d2] }
  | _ => none }
def PlotRebornWrongFalsely : Prop := plotRebornRow.holds Tryd.pinned (OpenSpec.ofChange plotRebornWrong)

/-- 'sextonlaw03.PlotOnce': WHATEVER THE INPUT: true; the input reads as it did. -/
def plotOnceSpec : ChangeSpec := { name := "plotOnce", fn := fun _ => fun
  | [d1, d2] => { results := [.lit (.bool true)], args := [d1, d2] }
  | _ => none }
def plotOnceRow : OpenClaim := { program := "ythomdlajobnmnaadoor", sum := "42cd6d4c4f4030f2b7fddde351d8026bfb65df2ee1701677ca07eb5d2ca9dba2", func := "sexton/sextonlaw03.PlotOnce", spec := "plotOnce", inPlace := ["internal/reflectlite.ValueOf", "(internal/reflectlite.Value).Type", "(internal/reflectlite.Value).IsNil", "internal/reflectlite.TypeOf", "(internal/reflectlite.Value).Elem", "(internal/reflectlite.Value).Set"], unfollowed := true, recurses := true, named := ["sexton/api.ErrArg", "sexton/api.ErrStale", "sexton/api.ErrNil", "sexton/api.ErrTwice", "sexton/api.ErrFreed", "errors.errorType"], apart := false, laid := [("errors.errorType", laid_errors_errorType), ("sexton/api.ErrArg", laid_sexton_api_ErrArg), ("sexton/api.ErrNil", laid_sexton_api_ErrNil), ("sexton/api.ErrFreed", laid_sexton_api_ErrFreed), ("sexton/api.ErrStale", laid_sexton_api_ErrStale), ("sexton/api.ErrTwice", laid_sexton_api_ErrTwice)] }
def PlotOnceSaid : Prop := plotOnceRow.holds Tryd.pinned (OpenSpec.ofChange plotOnceSpec)

/-- ITS FALSE NEIGHBOUR: 'it returns false'. Refute it at one input. -/
def plotOnceWrong : ChangeSpec := { name := "plotOnce", fn := fun _ => fun
  | [d1, d2] => { results := [.lit (.bool false)], args := [d1, d2] }
  | _ => none }
def PlotOnceWrongFalsely : Prop := plotOnceRow.holds Tryd.pinned (OpenSpec.ofChange plotOnceWrong)

/-- 'sextonlaw06.RiteKeeps': WHATEVER THE INPUT: true; the input reads as it did. -/
def riteKeepsSpec : ChangeSpec := { name := "riteKeeps", fn := fun _ => fun
  | [d1, d2] => { results := [.lit (.bool true)], args := [d1, d2] }
  | _ => none }
def riteKeepsRow : OpenClaim := { program := "ythomdlajobnmnaadoor", sum := "42cd6d4c4f4030f2b7fddde351d8026bfb65df2ee1701677ca07eb5d2ca9dba2", func := "sexton/sextonlaw06.RiteKeeps", spec := "riteKeeps", inPlace := ["internal/reflectlite.TypeOf"], unfollowed := true, recurses := true, named := ["sexton/api.ErrArg", "sexton/api.ErrNil", "sexton/api.ErrState", "sexton/api.ErrTwice", "sexton/api.ErrFreed", "sexton/api.ErrStale"], apart := false, laid := [("sexton/api.ErrArg", laid_sexton_api_ErrArg), ("sexton/api.ErrNil", laid_sexton_api_ErrNil), ("sexton/api.ErrState", laid_sexton_api_ErrState), ("sexton/api.ErrFreed", laid_sexton_api_ErrFreed), ("sexton/api.ErrStale", laid_sexton_api_ErrStale), ("sexton/api.ErrTwice", laid_sexton_api_ErrTwice)] }
def RiteKeepsSaid : Prop := riteKeepsRow.holds Tryd.pinned (OpenSpec.ofChange riteKeepsSpec)

/-- ITS FALSE NEIGHBOUR: 'it returns false'. Refute it at one input. -/
def riteKeepsWrong : ChangeSpec := { name := "riteKeeps", fn := fun _ => fun
  | [d1, d2] => { results := [.lit (.bool false)], args := [d1, d2] }
  | _ => none }
def RiteKeepsWrongFalsely : Prop := riteKeepsRow.holds Tryd.pinned (OpenSpec.ofChange riteKeepsWrong)

/-- 'sextonlaw06.RiteLeaves': WHATEVER THE INPUT: true; the input reads as it did. -/
def riteLeavesSpec : ChangeSpec := { name := "riteLeaves", fn := fun _ => fun
  | [d1, d2] => { results := [.lit (.bool true)], args := [d1, d2] }
  | _ => none }
def riteLeavesRow : OpenClaim := { program := "ythomdlajobnmnaadoor", sum := "42cd6d4c4f4030f2b7fddde351d8026bfb65df2ee1701677ca07eb5d2ca9dba2", func := "sexton/sextonlaw06.RiteLeaves", spec := "riteLeaves", inPlace := ["internal/reflectlite.TypeOf"], unfollowed := true, recurses := true, named := ["sexton/api.ErrArg", "sexton/api.ErrNil", "sexton/api.ErrState", "sexton/api.ErrTwice", "sexton/api.ErrFreed", "sexton/api.ErrStale"], apart := false, laid := [("sexton/api.ErrArg", laid_sexton_api_ErrArg), ("sexton/api.ErrNil", laid_sexton_api_ErrNil), ("sexton/api.ErrState", laid_sexton_api_ErrState), ("sexton/api.ErrFreed", laid_sexton_api_ErrFreed), ("sexton/api.ErrStale", laid_sexton_api_ErrStale), ("sexton/api.ErrTwice", laid_sexton_api_ErrTwice)] }
def RiteLeavesSaid : Prop := riteLeavesRow.holds Tryd.pinned (OpenSpec.ofChange riteLeavesSpec)

/-- ITS FALSE NEIGHBOUR: 'it returns false'. Refute it at one input. -/
def riteLeavesWrong : ChangeSpec := { name := "riteLeaves", fn := fun _ => fun
  | [d1, d2] => { results := [.lit (.bool false)], args := [d1, d2] }
  | _ => none }
def RiteLeavesWrongFalsely : Prop := riteLeavesRow.holds Tryd.pinned (OpenSpec.ofChange riteLeavesWrong)

/-- 'sextonlaw06.RiteBounds': WHATEVER THE INPUT: true; the input reads as it did. -/
def riteBoundsSpec : ChangeSpec := { name := "riteBounds", fn := fun _ => fun
  | [d1, d2] => { results := [.lit (.bool true)], args := [d1, d2] }
  | _ => none }
def riteBoundsRow : OpenClaim := { program := "ythomdlajobnmnaadoor", sum := "42cd6d4c4f4030f2b7fddde351d8026bfb65df2ee1701677ca07eb5d2ca9dba2", func := "sexton/sextonlaw06.RiteBounds", spec := "riteBounds", inPlace := ["internal/reflectlite.TypeOf"], unfollowed := true, recurses := true, named := ["sexton/api.ErrArg", "sexton/api.ErrNil", "sexton/api.ErrState", "sexton/api.ErrTwice", "sexton/api.ErrFreed", "sexton/api.ErrStale"], apart := false, laid := [("sexton/api.ErrArg", laid_sexton_api_ErrArg), ("sexton/api.ErrNil", laid_sexton_api_ErrNil), ("sexton/api.ErrState", laid_sexton_api_ErrState), ("sexton/api.ErrFreed", laid_sexton_api_ErrFreed), ("sexton/api.ErrStale", laid_sexton_api_ErrStale), ("sexton/api.ErrTwice", laid_sexton_api_ErrTwice)] }
def RiteBoundsSaid : Prop := riteBoundsRow.holds Tryd.pinned (OpenSpec.ofChange riteBoundsSpec)

/-- ITS FALSE NEIGHBOUR: 'it returns false'. Refute it at one input. -/
def riteBoundsWrong : ChangeSpec := { name := "riteBounds", fn := fun _ => fun
  | [d1, d2] => { results := [.lit (.bool false)], args := [d1, d2] }
  | _ => none }
def RiteBoundsWrongFalsely : Prop := riteBoundsRow.holds Tryd.pinned (OpenSpec.ofChange riteBoundsWrong)

/-- 'sextonlaw06.RiteFrees': WHATEVER THE INPUT: true; the input reads as it did. -/
def riteFreesSpec : ChangeSpec := { name := "riteFrees", fn := fun _ => fun
  | [d1, d2] => { results := [.lit (.bool true)], args := [d1, d2] }
  | _ => none }
def riteFreesRow : OpenClaim := { program := "ythomdlajobnmnaadoor", sum := "42cd6d4c4f4030f2b7fddde351d8026bfb65df2ee1701677ca07eb5d2ca9dba2", func := "sexton/sextonlaw06.RiteFrees", spec := "riteFrees", inPlace := ["internal/reflectlite.TypeOf"], unfollowed := true, recurses := true, named := ["sexton/api.ErrArg", "sexton/api.ErrNil", "sexton/api.ErrState", "sexton/api.ErrTwice", "sexton/api.ErrFreed", "sexton/api.ErrStale"], apart := false, laid := [("sexton/api.ErrArg", laid_sexton_api_ErrArg), ("sexton/api.ErrNil", laid_sexton_api_ErrNil), ("sexton/api.ErrState", laid_sexton_api_ErrState), ("sexton/api.ErrFreed", laid_sexton_api_ErrFreed), ("sexton/api.ErrStale", laid_sexton_api_ErrStale), ("sexton/api.ErrTwice", laid_sexton_api_ErrTwice)] }
def RiteFreesSaid : Prop := riteFreesRow.holds Tryd.pinned (OpenSpec.ofChange riteFreesSpec)

/-- ITS FALSE NEIGHBOUR: 'it returns false'. Refute it at one input. -/
def riteFreesWrong : ChangeSpec := { name := "riteFrees", fn := fun _ => fun
  | [d1, d2] => { results := [.lit (.bool false)], args := [d1, d2] }
  | _ => none }
def RiteFreesWrongFalsely : Prop := riteFreesRow.holds Tryd.pinned (OpenSpec.ofChange riteFreesWrong)

/-- 'sextonlaw06.RiteScans': WHATEVER THE INPUT: true; the input reads as it did. -/
def riteScansSpec : ChangeSpec := { name := "riteScans", fn := fun _ => fun
  | [d1, d2] => { results := [.lit (.bool true)], args := [d1, d2] }
  | _ => none }
def riteScansRow : OpenClaim := { program := "ythomdlajobnmnaadoor", sum := "42cd6d4c4f4030f2b7fddde351d8026bfb65df2ee1701677ca07eb5d2ca9dba2", func := "sexton/sextonlaw06.RiteScans", spec := "riteScans", inPlace := ["internal/reflectlite.TypeOf"], unfollowed := true, recurses := true, named := ["sexton/api.ErrArg", "sexton/api.ErrNil", "sexton/api.ErrState", "sexton/api.ErrTwice", "sexton/api.ErrFreed", "sexton/api.ErrStale"], apart := false, laid := [("sexton/api.ErrArg", laid_sexton_api_ErrArg), ("sexton/api.ErrNil", laid_sexton_api_ErrNil), ("sexton/api.ErrState", laid_sexton_api_ErrState), ("sexton/api.ErrFreed", laid_sexton_api_ErrFreed), ("sexton/api.ErrStale", laid_sexton_api_ErrStale), ("sexton/api.ErrTwice", laid_sexton_api_ErrTwice)] }
def RiteScansSaid : Prop := riteScansRow.holds Tryd.pinned (OpenSpec.ofChange riteScansSpec)

/-- ITS FALSE NEIGHBOUR: 'it returns false'. Refute it at one input. -/
def riteScansWrong : ChangeSpec := { name := "riteScans", fn := fun _ => fun
  | [d1, d2] => { results := [.lit (.bool false)], args := [d1, d2] }
  | _ => none }
def RiteScansWrongFalsely : Prop := riteScansRow.holds Tryd.pinned (OpenSpec.ofChange riteScansWrong)

/- THE SECOND FORM. 'bulk': how many values and letters a reading holds, each counted each time it is reached (what is shared counts as often as it is met; a slice's spare places count too). A statement '..UptoSaid' is the law's where the arguments, and the package variables that the reading takes, are together of bulk at most 1048576: NARROWER than '..Said'. Prove '..Said' where nothing that the law and all that it calls make is longer than what came in: it says more and counts as full. Else prove '..UptoSaid'. A law counts once. -/
mutual
def uptoBulk {H : Type} : DataW H → Nat
  | .lit (.string bytes) => bytes.length + 1
  | .lit _ => 1
  | .nil => 1
  | .ptr d => uptoBulk d + 1
  | .slice elems spare => uptoBulkAll elems + uptoBulkAll spare + 1
  | .agg parts => uptoBulkAll parts + 1
  | .iface _ d => uptoBulk d + 1
  | .map entries => uptoBulkEntries entries + 1
  | .held _ => 1
def uptoBulkAll {H : Type} : List (DataW H) → Nat
  | [] => 0
  | d :: r => uptoBulk d + uptoBulkAll r
def uptoBulkEntries {H : Type} : List (Lit × DataW H) → Nat
  | [] => 0
  | x :: r => uptoBulkEntry x + uptoBulkEntries r
def uptoBulkEntry {H : Type} : Lit × DataW H → Nat
  | (.string bytes, d) => bytes.length + uptoBulk d + 1
  | (_, d) => uptoBulk d + 1
 end
def uptoSmall : (H : Type) → List (DataW H) → Bool := fun _ ds => decide (uptoBulkAll ds ≤ 1048576)
def OpenSpec.upto (s : _root_.Go.ChangeSpec) : _root_.Go.OpenSpec := { _root_.Go.OpenSpec.ofChange s with cond := some uptoSmall }

/-- 'sextonlaw03.PlotRow', WHERE WHAT IT READS IS OF BULK AT MOST 1048576: true; the input reads as it did. -/
def plotRowUptoRow : OpenClaim := { program := "ythomdlajobnmnaadoor", sum := "42cd6d4c4f4030f2b7fddde351d8026bfb65df2ee1701677ca07eb5d2ca9dba2", func := "sexton/sextonlaw03.PlotRow", spec := "plotRow", inPlace := ["internal/reflectlite.ValueOf", "(internal/reflectlite.Value).Type", "(internal/reflectlite.Value).IsNil", "internal/reflectlite.TypeOf", "(internal/reflectlite.Value).Elem", "(internal/reflectlite.Value).Set"], unfollowed := true, recurses := true, named := ["sexton/api.ErrArg", "sexton/api.ErrStale", "sexton/api.ErrNil", "sexton/api.ErrTwice", "sexton/api.ErrFreed", "errors.errorType"], apart := false, laid := [("errors.errorType", laid_errors_errorType), ("sexton/api.ErrArg", laid_sexton_api_ErrArg), ("sexton/api.ErrNil", laid_sexton_api_ErrNil), ("sexton/api.ErrFreed", laid_sexton_api_ErrFreed), ("sexton/api.ErrStale", laid_sexton_api_ErrStale), ("sexton/api.ErrTwice", laid_sexton_api_ErrTwice)], narrowed := true }
def PlotRowUptoSaid : Prop := plotRowUptoRow.holds Tryd.pinned (OpenSpec.upto plotRowSpec)

/-- 'sextonlaw03.PlotStays', WHERE WHAT IT READS IS OF BULK AT MOST 1048576: true; the input reads as it did. -/
def plotStaysUptoRow : OpenClaim := { program := "ythomdlajobnmnaadoor", sum := "42cd6d4c4f4030f2b7fddde351d8026bfb65df2ee1701677ca07eb5d2ca9dba2", func := "sexton/sextonlaw03.PlotStays", spec := "plotStays", inPlace := ["internal/reflectlite.ValueOf", "(internal/reflectlite.Value).Type", "(internal/reflectlite.Value).IsNil", "internal/reflectlite.TypeOf", "(internal/reflectlite.Value).Elem", "(internal/reflectlite.Value).Set"], unfollowed := true, recurses := true, named := ["sexton/api.ErrArg", "sexton/api.ErrStale", "sexton/api.ErrNil", "sexton/api.ErrTwice", "sexton/api.ErrFreed", "errors.errorType"], apart := false, laid := [("errors.errorType", laid_errors_errorType), ("sexton/api.ErrArg", laid_sexton_api_ErrArg), ("sexton/api.ErrNil", laid_sexton_api_ErrNil), ("sexton/api.ErrFreed", laid_sexton_api_ErrFreed), ("sexton/api.ErrStale", laid_sexton_api_ErrStale), ("sexton/api.ErrTwice", laid_sexton_api_ErrTwice)], narrowed := true }
def PlotStaysUptoSaid : Prop := plotStaysUptoRow.holds Tryd.pinned (OpenSpec.upto plotStaysSpec)

/-- 'sextonlaw03.PlotReborn', WHERE WHAT IT READS IS OF BULK AT MOST 1048576: true; the input reads as it did. -/
def plotRebornUptoRow : OpenClaim := { program := "ythomdlajobnmnaadoor", sum := "42cd6d4c4f4030f2b7fddde351d8026bfb65df2ee1701677ca07eb5d2ca9dba2", func := "sexton/sextonlaw03.PlotReborn", spec := "plotReborn", inPlace := ["internal/reflectlite.ValueOf", "(internal/reflectlite.Value).Type", "(internal/reflectlite.Value).IsNil", "internal/reflectlite.TypeOf", "(internal/reflectlite.Value).Elem", "(internal/reflectlite.Value).Set"], unfollowed := true, recurses := true, named := ["sexton/api.ErrArg", "sexton/api.ErrStale", "sexton/api.ErrNil", "sexton/api.ErrTwice", "sexton/api.ErrFreed", "errors.errorType"], apart := false, laid := [("errors.errorType", laid_errors_errorType), ("sexton/api.ErrArg", laid_sexton_api_ErrArg), ("sexton/api.ErrNil", laid_sexton_api_ErrNil), ("sexton/api.ErrFreed", laid_sexton_api_ErrFreed), ("sexton/api.ErrStale", laid_sexton_api_ErrStale), ("sexton/api.ErrTwice", laid_sexton_api_ErrTwice)], narrowed := true }
def PlotRebornUptoSaid : Prop := plotRebornUptoRow.holds Tryd.pinned (OpenSpec.upto plotRebornSpec)

/-- 'sextonlaw03.PlotOnce', WHERE WHAT IT READS IS OF BULK AT MOST 1048576: true; the input reads as it did. -/
def plotOnceUptoRow : OpenClaim := { program := "ythomdlajobnmnaadoor", sum := "42cd6d4c4f4030f2b7fddde351d8026bfb65df2ee1701677ca07eb5d2ca9dba2", func := "sexton/sextonlaw03.PlotOnce", spec := "plotOnce", inPlace := ["internal/reflectlite.ValueOf", "(internal/reflectlite.Value).Type", "(internal/reflectlite.Value).IsNil", "internal/reflectlite.TypeOf", "(internal/reflectlite.Value).Elem", "(internal/reflectlite.Value).Set"], unfollowed := true, recurses := true, named := ["sexton/api.ErrArg", "sexton/api.ErrStale", "sexton/api.ErrNil", "sexton/api.ErrTwice", "sexton/api.ErrFreed", "errors.errorType"], apart := false, laid := [("errors.errorType", laid_errors_errorType), ("sexton/api.ErrArg", laid_sexton_api_ErrArg), ("sexton/api.ErrNil", laid_sexton_api_ErrNil), ("sexton/api.ErrFreed", laid_sexton_api_ErrFreed), ("sexton/api.ErrStale", laid_sexton_api_ErrStale), ("sexton/api.ErrTwice", laid_sexton_api_ErrTwice)], narrowed := true }
def PlotOnceUptoSaid : Prop := plotOnceUptoRow.holds Tryd.pinned (OpenSpec.upto plotOnceSpec)

/-- 'sextonlaw06.RiteKeeps', WHERE WHAT IT READS IS OF BULK AT MOST 1048576: true; the input reads as it did. -/
def riteKeepsUptoRow : OpenClaim := { program := "ythomdlajobnmnaadoor", sum := "42cd6d4c4f4030f2b7fddde351d8026bfb65df2ee1701677ca07eb5d2ca9dba2", func := "sexton/sextonlaw06.RiteKeeps", spec := "riteKeeps", inPlace := ["internal/reflectlite.TypeOf"], unfollowed := true, recurses := true, named := ["sexton/api.ErrArg", "sexton/api.ErrNil", "sexton/api.ErrState", "sexton/api.ErrTwice", "sexton/api.ErrFreed", "sexton/api.ErrStale"], apart := false, laid := [("sexton/api.ErrArg", laid_sexton_api_ErrArg), ("sexton/api.ErrNil", laid_sexton_api_ErrNil), ("sexton/api.ErrState", laid_sexton_api_ErrState), ("sexton/api.ErrFreed", laid_sexton_api_ErrFreed), ("sexton/api.ErrStale", laid_sexton_api_ErrStale), ("sexton/api.ErrTwice", laid_sexton_api_ErrTwice)], narrowed := true }
def RiteKeepsUptoSaid : Prop := riteKeepsUptoRow.holds Tryd.pinned (OpenSpec.upto riteKeepsSpec)

/-- 'sextonlaw06.RiteLeaves', WHERE WHAT IT READS IS OF BULK AT MOST 1048576: true; the input reads as it did. -/
def riteLeavesUptoRow : OpenClaim := { program := "ythomdlajobnmnaadoor", sum := "42cd6d4c4f4030f2b7fddde351d8026bfb65df2ee1701677ca07eb5d2ca9dba2", func := "sexton/sextonlaw06.RiteLeaves", spec := "riteLeaves", inPlace := ["internal/reflectlite.TypeOf"], unfollowed := true, recurses := true, named := ["sexton/api.ErrArg", "sexton/api.ErrNil", "sexton/api.ErrState", "sexton/api.ErrTwice", "sexton/api.ErrFreed", "sexton/api.ErrStale"], apart := false, laid := [("sexton/api.ErrArg", laid_sexton_api_ErrArg), ("sexton/api.ErrNil", laid_sexton_api_ErrNil), ("sexton/api.ErrState", laid_sexton_api_ErrState), ("sexton/api.ErrFreed", laid_sexton_api_ErrFreed), ("sexton/api.ErrStale", laid_sexton_api_ErrStale), ("sexton/api.ErrTwice", laid_sexton_api_ErrTwice)], narrowed := true }
def RiteLeavesUptoSaid : Prop := riteLeavesUptoRow.holds Tryd.pinned (OpenSpec.upto riteLeavesSpec)

/-- 'sextonlaw06.RiteBounds', WHERE WHAT IT READS IS OF BULK AT MOST 1048576: true; the input reads as it did. -/
def riteBoundsUptoRow : OpenClaim := { program := "ythomdlajobnmnaadoor", sum := "42cd6d4c4f4030f2b7fddde351d8026bfb65df2ee1701677ca07eb5d2ca9dba2", func := "sexton/sextonlaw06.RiteBounds", spec := "riteBounds", inPlace := ["internal/reflectlite.TypeOf"], unfollowed := true, recurses := true, named := ["sexton/api.ErrArg", "sexton/api.ErrNil", "sexton/api.ErrState", "sexton/api.ErrTwice", "sexton/api.ErrFreed", "sexton/api.ErrStale"], apart := false, laid := [("sexton/api.ErrArg", laid_sexton_api_ErrArg), ("sexton/api.ErrNil", laid_sexton_api_ErrNil), ("sexton/api.ErrState", laid_sexton_api_ErrState), ("sexton/api.ErrFreed", laid_sexton_api_ErrFreed), ("sexton/api.ErrStale", laid_sexton_api_ErrStale), ("sexton/api.ErrTwice", laid_sexton_api_ErrTwice)], narrowed := true }
def RiteBoundsUptoSaid : Prop := riteBoundsUptoRow.holds Tryd.pinned (OpenSpec.upto riteBoundsSpec)

/-- 'sextonlaw06.RiteFrees', WHERE WHAT IT READS IS OF BULK AT MOST 1048576: true; the input reads as it did. -/
def riteFreesUptoRow : OpenClaim := { program := "ythomdlajobnmnaadoor", sum := "42cd6d4c4f4030f2b7fddde351d8026bfb65df2ee1701677ca07eb5d2ca9dba2", func := "sexton/sextonlaw06.RiteFrees", spec := "riteFrees", inPlace := ["internal/reflectlite.TypeOf"], unfollowed := true, recurses := true, named := ["sexton/api.ErrArg", "sexton/api.ErrNil", "sexton/api.ErrState", "sexton/api.ErrTwice", "sexton/api.ErrFreed", "sexton/api.ErrStale"], apart := false, laid := [("sexton/api.ErrArg", laid_sexton_api_ErrArg), ("sexton/api.ErrNil", laid_sexton_api_ErrNil), ("sexton/api.ErrState", laid_sexton_api_ErrState), ("sexton/api.ErrFreed", laid_sexton_api_ErrFreed), ("sexton/api.ErrStale", laid_sexton_api_ErrStale), ("sexton/api.ErrTwice", laid_sexton_api_ErrTwice)], narrowed := true }
def RiteFreesUptoSaid : Prop := riteFreesUptoRow.holds Tryd.pinned (OpenSpec.upto riteFreesSpec)

/-- 'sextonlaw06.RiteScans', WHERE WHAT IT READS IS OF BULK AT MOST 1048576: true; the input reads as it did. -/
def riteScansUptoRow : OpenClaim := { program := "ythomdlajobnmnaadoor", sum := "42cd6d4c4f4030f2b7fddde351d8026bfb65df2ee1701677ca07eb5d2ca9dba2", func := "sexton/sextonlaw06.RiteScans", spec := "riteScans", inPlace := ["internal/reflectlite.TypeOf"], unfollowed := true, recurses := true, named := ["sexton/api.ErrArg", "sexton/api.ErrNil", "sexton/api.ErrState", "sexton/api.ErrTwice", "sexton/api.ErrFreed", "sexton/api.ErrStale"], apart := false, laid := [("sexton/api.ErrArg", laid_sexton_api_ErrArg), ("sexton/api.ErrNil", laid_sexton_api_ErrNil), ("sexton/api.ErrState", laid_sexton_api_ErrState), ("sexton/api.ErrFreed", laid_sexton_api_ErrFreed), ("sexton/api.ErrStale", laid_sexton_api_ErrStale), ("sexton/api.ErrTwice", laid_sexton_api_ErrTwice)], narrowed := true }
def RiteScansUptoSaid : Prop := riteScansUptoRow.holds Tryd.pinned (OpenSpec.upto riteScansSpec)

end Rows
end Go.Proofs.YthomdlajobnmnaaDoor
