/-
  NARROWER THAN 'FOR EVERY INPUT', by the rows' own cells (each row's printed sentence says how): WoeTells: laid · WoeNames: laid · WoeParts: laid · WoeStrange: laid · WoeOpens: laid · WoeSeveral: laid.
  DERIVED. THE GIVEN ROWS OF THIS SEAT. 6 by the template 'for every input the law returns true; each argument reads behind the call as it read before'; 0 by the template 'total and deterministic' (their statements: YtkpbbhcdmkmnfaaDoorTotals.lean).
  GIVEN WITH THE SEED: the statements are not yours to turn. If you find one false, say at which input.
  Laid BY PROGRAM, IN A SANDBOX (cutbox-rows.mjs): the forced cells as the released guide's own fill.sh prints them over the translation b2d7c2695019f079… (all of the seat's roots in one cut). By AI agents, Wed Nov 11 2026. No macro, syntax, notation, axiom, sorry.
-/
import Derived.Test.YtkpbbhcdmkmnfaaDoorChecked
import GoSem.Claim
import GoSem.ClaimJoined
import GoSem.ClaimMapViews
import Derived.JoinedTies
import Derived.KernelRfl
namespace Go.Proofs.YtkpbbhcdmkmnfaaDoor
/- THE CELL 'sum', in the pinned program and in every row, IS THE sha256 OF THE DUMP (.gsa) THAT YtkpbbhcdmkmnfaaDoorProg.lean LOADS. Nothing in Lean hashes anything: it is a label: what it is worth is what the hold of that sum in a sandbox is worth. -/
noncomputable def Tryd.pinned : Pinned := { name := "ytkpbbhcdmkmnfaadoor", sum := "b2d7c2695019f079a79775405b01355d59aca567bfdf6756c6a5da29a9d14167", checked := Tryd.checked }
namespace Rows
def none {H : Type} : Left H := { results := [], args := [] }

/- WHAT THE LISTED PACKAGE-LEVEL VARIABLES READ AS WHEN THE CALL BEGINS. Each datum BY PROGRAM (the guide's laid-datum.mjs) off the statement by which the dump's own 'gosem.cut.vars' lays the variable. In a bare row this is a premise. The card (YtkpbbhcdmkmnfaaDoorCards.lean) ties it to the program's text. -/
def laid_errors_errorType {H : Type} : DataW H := .iface "internal/reflectlite.rtype" (.agg [.ptr (.lit (.string [101, 114, 114, 111, 114]))])
def laid_sexton_api_ErrArg {H : Type} : DataW H := .iface "*errors.errorString" (.ptr (.agg [.lit (.string [97, 110, 32, 97, 114, 103, 117, 109, 101, 110, 116, 32, 116, 104, 97, 116, 32, 99, 97, 110, 39, 116, 32, 98, 101])]))
def laid_sexton_api_ErrNil {H : Type} : DataW H := .iface "*errors.errorString" (.ptr (.agg [.lit (.string [97, 32, 110, 105, 108, 32, 116, 104, 105, 110, 103])]))
def laid_sexton_api_ErrFull {H : Type} : DataW H := .iface "*errors.errorString" (.ptr (.agg [.lit (.string [110, 111, 32, 114, 111, 111, 109])]))
def laid_sexton_api_ErrNone {H : Type} : DataW H := .iface "*errors.errorString" (.ptr (.agg [.lit (.string [116, 104, 101, 114, 101, 32, 105, 115, 32, 110, 111, 110, 101])]))
def laid_sexton_api_ErrState {H : Type} : DataW H := .iface "*errors.errorString" (.ptr (.agg [.lit (.string [110, 111, 116, 32, 110, 111, 119])]))
def laid_sexton_api_ErrFreed {H : Type} : DataW H := .iface "*errors.errorString" (.ptr (.agg [.lit (.string [97, 32, 115, 108, 111, 116, 32, 116, 104, 97, 116, 32, 105, 115, 32, 102, 114, 101, 101])]))
def laid_sexton_api_ErrStale {H : Type} : DataW H := .iface "*errors.errorString" (.ptr (.agg [.lit (.string [97, 32, 115, 108, 111, 116, 32, 116, 104, 97, 116, 32, 105, 115, 32, 97, 110, 111, 116, 104, 101, 114, 32, 111, 110, 101, 32, 110, 111, 119])]))
def laid_sexton_api_ErrTwice {H : Type} : DataW H := .iface "*errors.errorString" (.ptr (.agg [.lit (.string [100, 111, 110, 101, 32, 97, 108, 114, 101, 97, 100, 121])]))
def laid_sexton_api_ErrLeft {H : Type} : DataW H := .iface "*errors.errorString" (.ptr (.agg [.lit (.string [97, 32, 102, 114, 101, 101, 32, 115, 108, 111, 116, 32, 116, 104, 97, 116, 32, 99, 97, 110, 32, 98, 101, 32, 114, 101, 97, 99, 104, 101, 100])]))
def laid_sexton_api_ErrLong {H : Type} : DataW H := .iface "*errors.errorString" (.ptr (.agg [.lit (.string [116, 111, 111, 32, 108, 111, 110, 103])]))
def laid_sexton_api_ErrWord {H : Type} : DataW H := .iface "*errors.errorString" (.ptr (.agg [.lit (.string [110, 111, 32, 119, 111, 114, 100])]))

/-- 'sextonlaw01.WoeTells': WHATEVER THE INPUT: true; the input reads as it did. -/
def woeTellsSpec : ChangeSpec := { name := "woeTells", fn := fun _ => fun
  | [d1, d2] => { results := [.lit (.bool true)], args := [d1, d2] }
  | _ => none }
def woeTellsRow : OpenClaim := { program := "ytkpbbhcdmkmnfaadoor", sum := "b2d7c2695019f079a79775405b01355d59aca567bfdf6756c6a5da29a9d14167", func := "sexton/sextonlaw01.WoeTells", spec := "woeTells", inPlace := ["internal/reflectlite.ValueOf", "(internal/reflectlite.Value).Type", "(internal/reflectlite.Value).IsNil", "internal/reflectlite.TypeOf", "(internal/reflectlite.Value).Elem", "(internal/reflectlite.Value).Set"], unfollowed := true, recurses := true, named := ["sexton/api.ErrFull", "sexton/api.ErrArg", "errors.errorType", "sexton/api.ErrNil", "sexton/api.ErrNone", "sexton/api.ErrState", "sexton/api.ErrFreed", "sexton/api.ErrStale", "sexton/api.ErrTwice", "sexton/api.ErrLeft", "sexton/api.ErrLong", "sexton/api.ErrWord"], apart := false, laid := [("errors.errorType", laid_errors_errorType), ("sexton/api.ErrArg", laid_sexton_api_ErrArg), ("sexton/api.ErrNil", laid_sexton_api_ErrNil), ("sexton/api.ErrFull", laid_sexton_api_ErrFull), ("sexton/api.ErrNone", laid_sexton_api_ErrNone), ("sexton/api.ErrState", laid_sexton_api_ErrState), ("sexton/api.ErrFreed", laid_sexton_api_ErrFreed), ("sexton/api.ErrStale", laid_sexton_api_ErrStale), ("sexton/api.ErrTwice", laid_sexton_api_ErrTwice), ("sexton/api.ErrLeft", laid_sexton_api_ErrLeft), ("sexton/api.ErrLong", laid_sexton_api_ErrLong), ("sexton/api.ErrWord", laid_sexton_api_ErrWord)] }
def WoeTellsSaid : Prop := woeTellsRow.holds Tryd.pinned (OpenSpec.ofChange woeTellsSpec)

/-- ITS FALSE NEIGHBOUR: 'it returns false'. Refute it at one input. -/
def woeTellsWrong : ChangeSpec := { name := "woeTells", fn := fun _ => fun
  | [d1, d2] => { results := [.lit (.bool false)], args := [d1, d2] }
  | _ => none }
def WoeTellsWrongFalsely : Prop := woeTellsRow.holds Tryd.pinned (OpenSpec.ofChange woeTellsWrong)

/-- 'sextonlaw01.WoeNames': WHATEVER THE INPUT: true; the input reads as it did. -/
def woeNamesSpec : ChangeSpec := { name := "woeNames", fn := fun _ => fun
  | [d] => { results := [.lit (.bool true)], args := [d] }
  | _ => none }
def woeNamesRow : OpenClaim := { program := "ytkpbbhcdmkmnfaadoor", sum := "b2d7c2695019f079a79775405b01355d59aca567bfdf6756c6a5da29a9d14167", func := "sexton/sextonlaw01.WoeNames", spec := "woeNames", inPlace := ["internal/reflectlite.ValueOf", "(internal/reflectlite.Value).Type", "(internal/reflectlite.Value).IsNil", "internal/reflectlite.TypeOf", "(internal/reflectlite.Value).Elem", "(internal/reflectlite.Value).Set"], unfollowed := true, recurses := true, named := ["sexton/api.ErrArg", "sexton/api.ErrNil", "sexton/api.ErrFull", "sexton/api.ErrNone", "sexton/api.ErrState", "sexton/api.ErrFreed", "sexton/api.ErrStale", "sexton/api.ErrTwice", "sexton/api.ErrLeft", "sexton/api.ErrLong", "sexton/api.ErrWord", "errors.errorType"], apart := false, laid := [("errors.errorType", laid_errors_errorType), ("sexton/api.ErrArg", laid_sexton_api_ErrArg), ("sexton/api.ErrNil", laid_sexton_api_ErrNil), ("sexton/api.ErrFull", laid_sexton_api_ErrFull), ("sexton/api.ErrNone", laid_sexton_api_ErrNone), ("sexton/api.ErrState", laid_sexton_api_ErrState), ("sexton/api.ErrFreed", laid_sexton_api_ErrFreed), ("sexton/api.ErrStale", laid_sexton_api_ErrStale), ("sexton/api.ErrTwice", laid_sexton_api_ErrTwice), ("sexton/api.ErrLeft", laid_sexton_api_ErrLeft), ("sexton/api.ErrLong", laid_sexton_api_ErrLong), ("sexton/api.ErrWord", laid_sexton_api_ErrWord)] }
def WoeNamesSaid : Prop := woeNamesRow.holds Tryd.pinned (OpenSpec.ofChange woeNamesSpec)

/-- ITS FALSE NEIGHBOUR: 'it returns false'. Refute it at one input. -/
def woeNamesWrong : ChangeSpec := { name := "woeNames", fn := fun _ => fun
  | [d] => { results := [.lit (.bool false)], args := [d] }
  | _ => none }
def WoeNamesWrongFalsely : Prop := woeNamesRow.holds Tryd.pinned (OpenSpec.ofChange woeNamesWrong)

/-- 'sextonlaw01.WoeParts': WHATEVER THE INPUT: true; the input reads as it did. -/
def woePartsSpec : ChangeSpec := { name := "woeParts", fn := fun _ => fun
  | [d1, d2, d3] => { results := [.lit (.bool true)], args := [d1, d2, d3] }
  | _ => none }
def woePartsRow : OpenClaim := { program := "ytkpbbhcdmkmnfaadoor", sum := "b2d7c2695019f079a79775405b01355d59aca567bfdf6756c6a5da29a9d14167", func := "sexton/sextonlaw01.WoeParts", spec := "woeParts", inPlace := ["internal/reflectlite.ValueOf", "(internal/reflectlite.Value).Type", "(internal/reflectlite.Value).IsNil", "internal/reflectlite.TypeOf", "(internal/reflectlite.Value).Elem", "(internal/reflectlite.Value).Set"], unfollowed := true, recurses := true, named := ["sexton/api.ErrFull", "sexton/api.ErrArg", "errors.errorType", "sexton/api.ErrNil", "sexton/api.ErrNone", "sexton/api.ErrState", "sexton/api.ErrFreed", "sexton/api.ErrStale", "sexton/api.ErrTwice", "sexton/api.ErrLeft", "sexton/api.ErrLong", "sexton/api.ErrWord"], apart := false, laid := [("errors.errorType", laid_errors_errorType), ("sexton/api.ErrArg", laid_sexton_api_ErrArg), ("sexton/api.ErrNil", laid_sexton_api_ErrNil), ("sexton/api.ErrFull", laid_sexton_api_ErrFull), ("sexton/api.ErrNone", laid_sexton_api_ErrNone), ("sexton/api.ErrState", laid_sexton_api_ErrState), ("sexton/api.ErrFreed", laid_sexton_api_ErrFreed), ("sexton/api.ErrStale", laid_sexton_api_ErrStale), ("sexton/api.ErrTwice", laid_sexton_api_ErrTwice), ("sexton/api.ErrLeft", laid_sexton_api_ErrLeft), ("sexton/api.ErrLong", laid_sexton_api_ErrLong), ("sexton/api.ErrWord", laid_sexton_api_ErrWord)] }
def WoePartsSaid : Prop := woePartsRow.holds Tryd.pinned (OpenSpec.ofChange woePartsSpec)

/-- ITS FALSE NEIGHBOUR: 'it returns false'. Refute it at one input. -/
def woePartsWrong : ChangeSpec := { name := "woeParts", fn := fun _ => fun
  | [d1, d2, d3] => { results := [.lit (.bool false)], args := [d1, d2, d3] }
  | _ => none }
def WoePartsWrongFalsely : Prop := woePartsRow.holds Tryd.pinned (OpenSpec.ofChange woePartsWrong)

/-- 'sextonlaw01.WoeStrange': WHATEVER THE INPUT: true; the input reads as it did. -/
def woeStrangeSpec : ChangeSpec := { name := "woeStrange", fn := fun _ => fun
  | [d] => { results := [.lit (.bool true)], args := [d] }
  | _ => none }
def woeStrangeRow : OpenClaim := { program := "ytkpbbhcdmkmnfaadoor", sum := "b2d7c2695019f079a79775405b01355d59aca567bfdf6756c6a5da29a9d14167", func := "sexton/sextonlaw01.WoeStrange", spec := "woeStrange", inPlace := ["internal/reflectlite.ValueOf", "(internal/reflectlite.Value).Type", "(internal/reflectlite.Value).IsNil", "internal/reflectlite.TypeOf", "(internal/reflectlite.Value).Elem", "(internal/reflectlite.Value).Set"], unfollowed := true, recurses := true, named := ["sexton/api.ErrArg", "sexton/api.ErrFull", "errors.errorType", "sexton/api.ErrNil", "sexton/api.ErrNone", "sexton/api.ErrState", "sexton/api.ErrFreed", "sexton/api.ErrStale", "sexton/api.ErrTwice", "sexton/api.ErrLeft", "sexton/api.ErrLong", "sexton/api.ErrWord"], apart := false, laid := [("errors.errorType", laid_errors_errorType), ("sexton/api.ErrArg", laid_sexton_api_ErrArg), ("sexton/api.ErrNil", laid_sexton_api_ErrNil), ("sexton/api.ErrFull", laid_sexton_api_ErrFull), ("sexton/api.ErrNone", laid_sexton_api_ErrNone), ("sexton/api.ErrState", laid_sexton_api_ErrState), ("sexton/api.ErrFreed", laid_sexton_api_ErrFreed), ("sexton/api.ErrStale", laid_sexton_api_ErrStale), ("sexton/api.ErrTwice", laid_sexton_api_ErrTwice), ("sexton/api.ErrLeft", laid_sexton_api_ErrLeft), ("sexton/api.ErrLong", laid_sexton_api_ErrLong), ("sexton/api.ErrWord", laid_sexton_api_ErrWord)] }
def WoeStrangeSaid : Prop := woeStrangeRow.holds Tryd.pinned (OpenSpec.ofChange woeStrangeSpec)

/-- ITS FALSE NEIGHBOUR: 'it returns false'. Refute it at one input. -/
def woeStrangeWrong : ChangeSpec := { name := "woeStrange", fn := fun _ => fun
  | [d] => { results := [.lit (.bool false)], args := [d] }
  | _ => none }
def WoeStrangeWrongFalsely : Prop := woeStrangeRow.holds Tryd.pinned (OpenSpec.ofChange woeStrangeWrong)

/-- 'sextonlaw01.WoeOpens': WHATEVER THE INPUT: true; the input reads as it did. -/
def woeOpensSpec : ChangeSpec := { name := "woeOpens", fn := fun _ => fun
  | [d1, d2] => { results := [.lit (.bool true)], args := [d1, d2] }
  | _ => none }
def woeOpensRow : OpenClaim := { program := "ytkpbbhcdmkmnfaadoor", sum := "b2d7c2695019f079a79775405b01355d59aca567bfdf6756c6a5da29a9d14167", func := "sexton/sextonlaw01.WoeOpens", spec := "woeOpens", inPlace := ["internal/reflectlite.ValueOf", "(internal/reflectlite.Value).Type", "(internal/reflectlite.Value).IsNil", "internal/reflectlite.TypeOf", "(internal/reflectlite.Value).Elem", "(internal/reflectlite.Value).Set"], unfollowed := true, recurses := true, named := ["sexton/api.ErrFull", "sexton/api.ErrArg", "errors.errorType", "sexton/api.ErrNil", "sexton/api.ErrNone", "sexton/api.ErrState", "sexton/api.ErrFreed", "sexton/api.ErrStale", "sexton/api.ErrTwice", "sexton/api.ErrLeft", "sexton/api.ErrLong", "sexton/api.ErrWord"], apart := false, laid := [("errors.errorType", laid_errors_errorType), ("sexton/api.ErrArg", laid_sexton_api_ErrArg), ("sexton/api.ErrNil", laid_sexton_api_ErrNil), ("sexton/api.ErrFull", laid_sexton_api_ErrFull), ("sexton/api.ErrNone", laid_sexton_api_ErrNone), ("sexton/api.ErrState", laid_sexton_api_ErrState), ("sexton/api.ErrFreed", laid_sexton_api_ErrFreed), ("sexton/api.ErrStale", laid_sexton_api_ErrStale), ("sexton/api.ErrTwice", laid_sexton_api_ErrTwice), ("sexton/api.ErrLeft", laid_sexton_api_ErrLeft), ("sexton/api.ErrLong", laid_sexton_api_ErrLong), ("sexton/api.ErrWord", laid_sexton_api_ErrWord)] }
def WoeOpensSaid : Prop := woeOpensRow.holds Tryd.pinned (OpenSpec.ofChange woeOpensSpec)

/-- ITS FALSE NEIGHBOUR: 'it returns false'. Refute it at one input. -/
def woeOpensWrong : ChangeSpec := { name := "woeOpens", fn := fun _ => fun
  | [d1, d2] => { results := [.lit (.bool false)], args := [d1, d2] }
  | _ => none }
def WoeOpensWrongFalsely : Prop := woeOpensRow.holds Tryd.pinned (OpenSpec.ofChange woeOpensWrong)

/-- 'sextonlaw01.WoeSeveral': WHATEVER THE INPUT: true; the input reads as it did. -/
def woeSeveralSpec : ChangeSpec := { name := "woeSeveral", fn := fun _ => fun
  | [d1, d2, d3] => { results := [.lit (.bool true)], args := [d1, d2, d3] }
  | _ => none }
def woeSeveralRow : OpenClaim := { program := "ytkpbbhcdmkmnfaadoor", sum := "b2d7c2695019f079a79775405b01355d59aca567bfdf6756c6a5da29a9d14167", func := "sexton/sextonlaw01.WoeSeveral", spec := "woeSeveral", inPlace := ["internal/reflectlite.ValueOf", "(internal/reflectlite.Value).Type", "(internal/reflectlite.Value).IsNil", "internal/reflectlite.TypeOf", "(internal/reflectlite.Value).Elem", "(internal/reflectlite.Value).Set"], unfollowed := true, recurses := true, named := ["sexton/api.ErrFull", "sexton/api.ErrArg", "errors.errorType", "sexton/api.ErrNil", "sexton/api.ErrNone", "sexton/api.ErrState", "sexton/api.ErrFreed", "sexton/api.ErrStale", "sexton/api.ErrTwice", "sexton/api.ErrLeft", "sexton/api.ErrLong", "sexton/api.ErrWord"], apart := false, laid := [("errors.errorType", laid_errors_errorType), ("sexton/api.ErrArg", laid_sexton_api_ErrArg), ("sexton/api.ErrNil", laid_sexton_api_ErrNil), ("sexton/api.ErrFull", laid_sexton_api_ErrFull), ("sexton/api.ErrNone", laid_sexton_api_ErrNone), ("sexton/api.ErrState", laid_sexton_api_ErrState), ("sexton/api.ErrFreed", laid_sexton_api_ErrFreed), ("sexton/api.ErrStale", laid_sexton_api_ErrStale), ("sexton/api.ErrTwice", laid_sexton_api_ErrTwice), ("sexton/api.ErrLeft", laid_sexton_api_ErrLeft), ("sexton/api.ErrLong", laid_sexton_api_ErrLong), ("sexton/api.ErrWord", laid_sexton_api_ErrWord)] }
def WoeSeveralSaid : Prop := woeSeveralRow.holds Tryd.pinned (OpenSpec.ofChange woeSeveralSpec)

/-- ITS FALSE NEIGHBOUR: 'it returns false'. Refute it at one input. -/
def woeSeveralWrong : ChangeSpec := { name := "woeSeveral", fn := fun _ => fun
  | [d1, d2, d3] => { results := [.lit (.bool false)], args := [d1, d2, d3] }
  | _ => none }
def WoeSeveralWrongFalsely : Prop := woeSeveralRow.holds Tryd.pinned (OpenSpec.ofChange woeSeveralWrong)

/- THE SECOND FORM. 'bulk': how many values and letters a reading holds, each counted each time it is reached (what is shared counts as often as it is met; a slice's spare places count too). A statement '..UptoSaid' is the law's where the arguments, and the package variables that the reading takes, are together of bulk at most 1048576: NARROWER than '..Said'. Prove '..Said' where nothing that the law and all that it calls make is longer than what came in: it says more and counts as full. Else prove '..UptoSaid'. A law counts once. -/
mutual
def uptoBulk {H : Type} : DataW H → Nat
  | .lit (.string bytes) => bytes.length + 1
  | .lit _ => 1
  | .nil => 1
  | .ptr d => uptoBulk d + 1
  | .slice elems spare => uptoBulkAll elems + uptoBulkAll spare + 1
  | .agg parts => uptoBulkAll parts + 1
  | .iface _ d => uptoBulk d + 1
  | .map entries => uptoBulkEntries entries + 1
  | .held _ => 1
def uptoBulkAll {H : Type} : List (DataW H) → Nat
  | [] => 0
  | d :: r => uptoBulk d + uptoBulkAll r
def uptoBulkEntries {H : Type} : List (Lit × DataW H) → Nat
  | [] => 0
  | x :: r => uptoBulkEntry x + uptoBulkEntries r
def uptoBulkEntry {H : Type} : Lit × DataW H → Nat
  | (.string bytes, d) => bytes.length + uptoBulk d + 1
  | (_, d) => uptoBulk d + 1
 end
def uptoSmall : (H : Type) → List (DataW H) → Bool := fun _ ds => decide (uptoBulkAll ds ≤ 1048576)
def OpenSpec.upto (s : _root_.Go.ChangeSpec) : _root_.Go.OpenSpec := { _root_.Go.OpenSpec.ofChange s with cond := some uptoSmall }

/-- 'sextonlaw01.WoeTells', WHERE WHAT IT READS IS OF BULK AT MOST 1048576: true; the input reads as it did. -/
def woeTellsUptoRow : OpenClaim := { program := "ytkpbbhcdmkmnfaadoor", sum := "b2d7c2695019f079a79775405b01355d59aca567bfdf6756c6a5da29a9d14167", func := "sexton/sextonlaw01.WoeTells", spec := "woeTells", inPlace := ["internal/reflectlite.ValueOf", "(internal/reflectlite.Value).Type", "(internal/reflectlite.Value).IsNil", "internal/reflectlite.TypeOf", "(internal/reflectlite.Value).Elem", "(internal/reflectlite.Value).Set"], unfollowed := true, recurses := true, named := ["sexton/api.ErrFull", "sexton/api.ErrArg", "errors.errorType", "sexton/api.ErrNil", "sexton/api.ErrNone", "sexton/api.ErrState", "sexton/api.ErrFreed", "sexton/api.ErrStale", "sexton/api.ErrTwice", "sexton/api.ErrLeft", "sexton/api.ErrLong", "sexton/api.ErrWord"], apart := false, laid := [("errors.errorType", laid_errors_errorType), ("sexton/api.ErrArg", laid_sexton_api_ErrArg), ("sexton/api.ErrNil", laid_sexton_api_ErrNil), ("sexton/api.ErrFull", laid_sexton_api_ErrFull), ("sexton/api.ErrNone", laid_sexton_api_ErrNone), ("sexton/api.ErrState", laid_sexton_api_ErrState), ("sexton/api.ErrFreed", laid_sexton_api_ErrFreed), ("sexton/api.ErrStale", laid_sexton_api_ErrStale), ("sexton/api.ErrTwice", laid_sexton_api_ErrTwice), ("sexton/api.ErrLeft", laid_sexton_api_ErrLeft), ("sexton/api.ErrLong", laid_sexton_api_ErrLong), ("sexton/api.ErrWord", laid_sexton_api_ErrWord)], narrowed := true }
def WoeTellsUptoSaid : Prop := woeTellsUptoRow.holds Tryd.pinned (OpenSpec.upto woeTellsSpec)

/-- 'sextonlaw01.WoeNames', WHERE WHAT IT READS IS OF BULK AT MOST 1048576: true; the input reads as it did. -/
def woeNamesUptoRow : OpenClaim := { program := "ytkpbbhcdmkmnfaadoor", sum := "b2d7c2695019f079a79775405b01355d59aca567bfdf6756c6a5da29a9d14167", func := "sexton/sextonlaw01.WoeNames", spec := "woeNames", inPlace := ["internal/reflectlite.ValueOf", "(internal/reflectlite.Value).Type", "(internal/reflectlite.Value).IsNil", "internal/reflectlite.TypeOf", "(internal/reflectlite.Value).Elem", "(internal/reflectlite.Value).Set"], unfollowed := true, recurses := true, named := ["sexton/api.ErrArg", "sexton/api.ErrNil", "sexton/api.ErrFull", "sexton/api.ErrNone", "sexton/api.ErrState", "sexton/api.ErrFreed", "sexton/api.ErrStale", "sexton/api.ErrTwice", "sexton/api.ErrLeft", "sexton/api.ErrLong", "sexton/api.ErrWord", "errors.errorType"], apart := false, laid := [("errors.errorType", laid_errors_errorType), ("sexton/api.ErrArg", laid_sexton_api_ErrArg), ("sexton/api.ErrNil", laid_sexton_api_ErrNil), ("sexton/api.ErrFull", laid_sexton_api_ErrFull), ("sexton/api.ErrNone", laid_sexton_api_ErrNone), ("sexton/api.ErrState", laid_sexton_api_ErrState), ("sexton/api.ErrFreed", laid_sexton_api_ErrFreed), ("sexton/api.ErrStale", laid_sexton_api_ErrStale), ("sexton/api.ErrTwice", laid_sexton_api_ErrTwice), ("sexton/api.ErrLeft", laid_sexton_api_ErrLeft), ("sexton/api.ErrLong", laid_sexton_api_ErrLong), ("sexton/api.ErrWord", laid_sexton_api_ErrWord)], narrowed := true }
def WoeNamesUptoSaid : Prop := woeNamesUptoRow.holds Tryd.pinned (OpenSpec.upto woeNamesSpec)

/-- 'sextonlaw01.WoeParts', WHERE WHAT IT READS IS OF BULK AT MOST 1048576: true; the input reads as it did. -/
def woePartsUptoRow : OpenClaim := { program := "ytkpbbhcdmkmnfaadoor", sum := "b2d7c2695019f079a79775405b01355d59aca567bfdf6756c6a5da29a9d14167", func := "sexton/sextonlaw01.WoeParts", spec := "woeParts", inPlace := ["internal/reflectlite.ValueOf", "(internal/reflectlite.Value).Type", "(internal/reflectlite.Value).IsNil", "internal/reflectlite.TypeOf", "(internal/reflectlite.Value).Elem", "(internal/reflectlite.Value).Set"], unfollowed := true, recurses := true, named := ["sexton/api.ErrFull", "sexton/api.ErrArg", "errors.errorType", "sexton/api.ErrNil", "sexton/api.ErrNone", "sexton/api.ErrState", "sexton/api.ErrFreed", "sexton/api.ErrStale", "sexton/api.ErrTwice", "sexton/api.ErrLeft", "sexton/api.ErrLong", "sexton/api.ErrWord"], apart := false, laid := [("errors.errorType", laid_errors_errorType), ("sexton/api.ErrArg", laid_sexton_api_ErrArg), ("sexton/api.ErrNil", laid_sexton_api_ErrNil), ("sexton/api.ErrFull", laid_sexton_api_ErrFull), ("sexton/api.ErrNone", laid_sexton_api_ErrNone), ("sexton/api.ErrState", laid_sexton_api_ErrState), ("sexton/api.ErrFreed", laid_sexton_api_ErrFreed), ("sexton/api.ErrStale", laid_sexton_api_ErrStale), ("sexton/api.ErrTwice", laid_sexton_api_ErrTwice), ("sexton/api.ErrLeft", laid_sexton_api_ErrLeft), ("sexton/api.ErrLong", laid_sexton_api_ErrLong), ("sexton/api.ErrWord", laid_sexton_api_ErrWord)], narrowed := true }
def WoePartsUptoSaid : Prop := woePartsUptoRow.holds Tryd.pinned (OpenSpec.upto woePartsSpec)

/-- 'sextonlaw01.WoeStrange', WHERE WHAT IT READS IS OF BULK AT MOST 1048576: true; the input reads as it did. -/
def woeStrangeUptoRow : OpenClaim := { program := "ytkpbbhcdmkmnfaadoor", sum := "b2d7c2695019f079a79775405b01355d59aca567bfdf6756c6a5da29a9d14167", func := "sexton/sextonlaw01.WoeStrange", spec := "woeStrange", inPlace := ["internal/reflectlite.ValueOf", "(internal/reflectlite.Value).Type", "(internal/reflectlite.Value).IsNil", "internal/reflectlite.TypeOf", "(internal/reflectlite.Value).Elem", "(internal/reflectlite.Value).Set"], unfollowed := true, recurses := true, named := ["sexton/api.ErrArg", "sexton/api.ErrFull", "errors.errorType", "sexton/api.ErrNil", "sexton/api.ErrNone", "sexton/api.ErrState", "sexton/api.ErrFreed", "sexton/api.ErrStale", "sexton/api.ErrTwice", "sexton/api.ErrLeft", "sexton/api.ErrLong", "sexton/api.ErrWord"], apart := false, laid := [("errors.errorType", laid_errors_errorType), ("sexton/api.ErrArg", laid_sexton_api_ErrArg), ("sexton/api.ErrNil", laid_sexton_api_ErrNil), ("sexton/api.ErrFull", laid_sexton_api_ErrFull), ("sexton/api.ErrNone", laid_sexton_api_ErrNone), ("sexton/api.ErrState", laid_sexton_api_ErrState), ("sexton/api.ErrFreed", laid_sexton_api_ErrFreed), ("sexton/api.ErrStale", laid_sexton_api_ErrStale), ("sexton/api.ErrTwice", laid_sexton_api_ErrTwice), ("sexton/api.ErrLeft", laid_sexton_api_ErrLeft), ("sexton/api.ErrLong", laid_sexton_api_ErrLong), ("sexton/api.ErrWord", laid_sexton_api_ErrWord)], narrowed := true }
def WoeStrangeUptoSaid : Prop := woeStrangeUptoRow.holds Tryd.pinned (OpenSpec.upto woeStrangeSpec)

/-- 'sextonlaw01.WoeOpens', WHERE WHAT IT READS IS OF BULK AT MOST 1048576: true; the input reads as it did. -/
def woeOpensUptoRow : OpenClaim := { program := "ytkpbbhcdmkmnfaadoor", sum := "b2d7c2695019f079a79775405b01355d59aca567bfdf6756c6a5da29a9d14167", func := "sexton/sextonlaw01.WoeOpens", spec := "woeOpens", inPlace := ["internal/reflectlite.ValueOf", "(internal/reflectlite.Value).Type", "(internal/reflectlite.Value).IsNil", "internal/reflectlite.TypeOf", "(internal/reflectlite.Value).Elem", "(internal/reflectlite.Value).Set"], unfollowed := true, recurses := true, named := ["sexton/api.ErrFull", "sexton/api.ErrArg", "errors.errorType", "sexton/api.ErrNil", "sexton/api.ErrNone", "sexton/api.ErrState", "sexton/api.ErrFreed", "sexton/api.ErrStale", "sexton/api.ErrTwice", "sexton/api.ErrLeft", "sexton/api.ErrLong", "sexton/api.ErrWord"], apart := false, laid := [("errors.errorType", laid_errors_errorType), ("sexton/api.ErrArg", laid_sexton_api_ErrArg), ("sexton/api.ErrNil", laid_sexton_api_ErrNil), ("sexton/api.ErrFull", laid_sexton_api_ErrFull), ("sexton/api.ErrNone", laid_sexton_api_ErrNone), ("sexton/api.ErrState", laid_sexton_api_ErrState), ("sexton/api.ErrFreed", laid_sexton_api_ErrFreed), ("sexton/api.ErrStale", laid_sexton_api_ErrStale), ("sexton/api.ErrTwice", laid_sexton_api_ErrTwice), ("sexton/api.ErrLeft", laid_sexton_api_ErrLeft), ("sexton/api.ErrLong", laid_sexton_api_ErrLong), ("sexton/api.ErrWord", laid_sexton_api_ErrWord)], narrowed := true }
def WoeOpensUptoSaid : Prop := woeOpensUptoRow.holds Tryd.pinned (OpenSpec.upto woeOpensSpec)

/-- 'sextonlaw01.WoeSeveral', WHERE WHAT IT READS IS OF BULK AT MOST 1048576: true; the input reads as it did. -/
def woeSeveralUptoRow : OpenClaim := { program := "ytkpbbhcdmkmnfaadoor", sum := "b2d7c2695019f079a79775405b01355d59aca567bfdf6756c6a5da29a9d14167", func := "sexton/sextonlaw01.WoeSeveral", spec := "woeSeveral", inPlace := ["internal/reflectlite.ValueOf", "(internal/reflectlite.Value).Type", "(internal/reflectlite.Value).IsNil", "internal/reflectlite.TypeOf", "(internal/reflectlite.Value).Elem", "(internal/reflectlite.Value).Set"], unfollowed := true, recurses := true, named := ["sexton/api.ErrFull", "sexton/api.ErrArg", "errors.errorType", "sexton/api.ErrNil", "sexton/api.ErrNone", "sexton/api.ErrState", "sexton/api.ErrFreed", "sexton/api.ErrStale", "sexton/api.ErrTwice", "sexton/api.ErrLeft", "sexton/api.ErrLong", "sexton/api.ErrWord"], apart := false, laid := [("errors.errorType", laid_errors_errorType), ("sexton/api.ErrArg", laid_sexton_api_ErrArg), ("sexton/api.ErrNil", laid_sexton_api_ErrNil), ("sexton/api.ErrFull", laid_sexton_api_ErrFull), ("sexton/api.ErrNone", laid_sexton_api_ErrNone), ("sexton/api.ErrState", laid_sexton_api_ErrState), ("sexton/api.ErrFreed", laid_sexton_api_ErrFreed), ("sexton/api.ErrStale", laid_sexton_api_ErrStale), ("sexton/api.ErrTwice", laid_sexton_api_ErrTwice), ("sexton/api.ErrLeft", laid_sexton_api_ErrLeft), ("sexton/api.ErrLong", laid_sexton_api_ErrLong), ("sexton/api.ErrWord", laid_sexton_api_ErrWord)], narrowed := true }
def WoeSeveralUptoSaid : Prop := woeSeveralUptoRow.holds Tryd.pinned (OpenSpec.upto woeSeveralSpec)

end Rows
end Go.Proofs.YtkpbbhcdmkmnfaaDoor
