/-
  NARROWER THAN 'FOR EVERY INPUT', by the rows' own cells (each row's printed sentence says how): BoardApart: laid · BoardExact: laid · BoardOnce: laid · BoardThreads: laid · BoardHears: laid.
  DERIVED. THE GIVEN ROWS OF THIS SEAT. 5 by the template 'for every input the law returns true; each argument reads behind the call as it read before'; 0 by the template 'total and deterministic' (their statements: YtlfhjmfelbomaaaDoorTotals.lean).
  GIVEN WITH THE SEED: the statements are not yours to turn. If you find one false, say at which input.
  Laid BY PROGRAM, IN A SANDBOX (cutbox-rows.mjs): the forced cells as the released guide's own fill.sh prints them over the translation 845b443a851e76c3… (all of the seat's roots in one cut). By AI agents, Wed Nov 11 2026. No macro, syntax, notation, axiom, sorry.
-/
import Derived.Test.YtlfhjmfelbomaaaDoorChecked
import GoSem.Claim
import GoSem.ClaimJoined
import GoSem.ClaimMapViews
import Derived.JoinedTies
import Derived.KernelRfl
namespace Go.Proofs.YtlfhjmfelbomaaaDoor
/- THE CELL 'sum', in the pinned program and in every row, IS THE sha256 OF THE DUMP (.gsa) THAT YtlfhjmfelbomaaaDoorProg.lean LOADS. Nothing in Lean hashes anything: it is a label: what it is worth is what the hold of that sum in a sandbox is worth. -/
noncomputable def Tryd.pinned : Pinned := { name := "ytlfhjmfelbomaaadoor", sum := "845b443a851e76c3e8aa2a865e63bca40e72c500f7de6f32ea735005f731b490", checked := Tryd.checked }
namespace Rows
def none {H : Type} : Left H := { results := [], args := [] }

/- WHAT THE LISTED PACKAGE-LEVEL VARIABLES READ AS WHEN THE CALL BEGINS. Each datum BY PROGRAM (the guide's laid-datum.mjs) off the statement by which the dump's own 'gosem.cut.vars' lays the variable. In a bare row this is a premise. The card (YtlfhjmfelbomaaaDoorCards.lean) ties it to the program's text. -/
def laid_sexton_api_ErrArg {H : Type} : DataW H := .iface "*errors.errorString" (.ptr (.agg [.lit (.string [97, 110, 32, 97, 114, 103, 117, 109, 101, 110, 116, 32, 116, 104, 97, 116, 32, 99, 97, 110, 39, 116, 32, 98, 101])]))
def laid_sexton_api_ErrNone {H : Type} : DataW H := .iface "*errors.errorString" (.ptr (.agg [.lit (.string [116, 104, 101, 114, 101, 32, 105, 115, 32, 110, 111, 110, 101])]))

/-- 'sextonlaw04.BoardApart': WHATEVER THE INPUT: true; the input reads as it did. -/
def boardApartSpec : ChangeSpec := { name := "boardApart", fn := fun _ => fun
  | [d1, d2] => { results := [.lit (.bool true)], args := [d1, d2] }
  | _ => none }
def boardApartRow : OpenClaim := { program := "ytlfhjmfelbomaaadoor", sum := "845b443a851e76c3e8aa2a865e63bca40e72c500f7de6f32ea735005f731b490", func := "sexton/sextonlaw04.BoardApart", spec := "boardApart", inPlace := ["internal/reflectlite.TypeOf"], unfollowed := true, recurses := true, named := ["sexton/api.ErrArg"], apart := false, laid := [("sexton/api.ErrArg", laid_sexton_api_ErrArg)] }
def BoardApartSaid : Prop := boardApartRow.holds Tryd.pinned (OpenSpec.ofChange boardApartSpec)

/-- ITS FALSE NEIGHBOUR: 'it returns false'. Refute it at one input. -/
def boardApartWrong : ChangeSpec := { name := "boardApart", fn := fun _ => fun
  | [d1, d2] => { results := [.lit (.bool false)], args := [d1, d2] }
  | _ => none }
def BoardApartWrongFalsely : Prop := boardApartRow.holds Tryd.pinned (OpenSpec.ofChange boardApartWrong)

/-- 'sextonlaw04.BoardExact': WHATEVER THE INPUT: true; the input reads as it did. -/
def boardExactSpec : ChangeSpec := { name := "boardExact", fn := fun _ => fun
  | [d1, d2, d3] => { results := [.lit (.bool true)], args := [d1, d2, d3] }
  | _ => none }
def boardExactRow : OpenClaim := { program := "ytlfhjmfelbomaaadoor", sum := "845b443a851e76c3e8aa2a865e63bca40e72c500f7de6f32ea735005f731b490", func := "sexton/sextonlaw04.BoardExact", spec := "boardExact", inPlace := ["internal/reflectlite.TypeOf"], unfollowed := true, recurses := true, named := ["sexton/api.ErrNone", "sexton/api.ErrArg"], apart := false, laid := [("sexton/api.ErrArg", laid_sexton_api_ErrArg), ("sexton/api.ErrNone", laid_sexton_api_ErrNone)] }
def BoardExactSaid : Prop := boardExactRow.holds Tryd.pinned (OpenSpec.ofChange boardExactSpec)

/-- ITS FALSE NEIGHBOUR: 'it returns false'. Refute it at one input. -/
def boardExactWrong : ChangeSpec := { name := "boardExact", fn := fun _ => fun
  | [d1, d2, d3] => { results := [.lit (.bool false)], args := [d1, d2, d3] }
  | _ => none }
def BoardExactWrongFalsely : Prop := boardExactRow.holds Tryd.pinned (OpenSpec.ofChange boardExactWrong)

/-- 'sextonlaw04.BoardOnce': WHATEVER THE INPUT: true; the input reads as it did. -/
def boardOnceSpec : ChangeSpec := { name := "boardOnce", fn := fun _ => fun
  | [d] => { results := [.lit (.bool true)], args := [d] }
  | _ => none }
def boardOnceRow : OpenClaim := { program := "ytlfhjmfelbomaaadoor", sum := "845b443a851e76c3e8aa2a865e63bca40e72c500f7de6f32ea735005f731b490", func := "sexton/sextonlaw04.BoardOnce", spec := "boardOnce", inPlace := ["internal/reflectlite.TypeOf"], unfollowed := true, recurses := true, named := ["sexton/api.ErrArg", "sexton/api.ErrNone"], apart := false, laid := [("sexton/api.ErrArg", laid_sexton_api_ErrArg), ("sexton/api.ErrNone", laid_sexton_api_ErrNone)] }
def BoardOnceSaid : Prop := boardOnceRow.holds Tryd.pinned (OpenSpec.ofChange boardOnceSpec)

/-- ITS FALSE NEIGHBOUR: 'it returns false'. Refute it at one input. -/
def boardOnceWrong : ChangeSpec := { name := "boardOnce", fn := fun _ => fun
  | [d] => { results := [.lit (.bool false)], args := [d] }
  | _ => none }
def BoardOnceWrongFalsely : Prop := boardOnceRow.holds Tryd.pinned (OpenSpec.ofChange boardOnceWrong)

/-- 'sextonlaw04.BoardThreads': WHATEVER THE INPUT: true; the input reads as it did. -/
def boardThreadsSpec : ChangeSpec := { name := "boardThreads", fn := fun _ => fun
  | [d] => { results := [.lit (.bool true)], args := [d] }
  | _ => none }
def boardThreadsRow : OpenClaim := { program := "ytlfhjmfelbomaaadoor", sum := "845b443a851e76c3e8aa2a865e63bca40e72c500f7de6f32ea735005f731b490", func := "sexton/sextonlaw04.BoardThreads", spec := "boardThreads", inPlace := ["internal/reflectlite.TypeOf"], unfollowed := true, recurses := true, named := ["sexton/api.ErrArg", "sexton/api.ErrNone"], apart := false, laid := [("sexton/api.ErrArg", laid_sexton_api_ErrArg), ("sexton/api.ErrNone", laid_sexton_api_ErrNone)] }
def BoardThreadsSaid : Prop := boardThreadsRow.holds Tryd.pinned (OpenSpec.ofChange boardThreadsSpec)

/-- ITS FALSE NEIGHBOUR: 'it returns false'. Refute it at one input. -/
def boardThreadsWrong : ChangeSpec := { name := "boardThreads", fn := fun _ => fun
  | [d] => { results := [.lit (.bool false)], args := [d] }
  | _ => none }
def BoardThreadsWrongFalsely : Prop := boardThreadsRow.holds Tryd.pinned (OpenSpec.ofChange boardThreadsWrong)

/-- 'sextonlaw04.BoardHears': WHATEVER THE INPUT: true; the input reads as it did. -/
def boardHearsSpec : ChangeSpec := { name := "boardHears", fn := fun _ => fun
  | [d1, d2] => { results := [.lit (.bool true)], args := [d1, d2] }
  | _ => none }
def boardHearsRow : OpenClaim := { program := "ytlfhjmfelbomaaadoor", sum := "845b443a851e76c3e8aa2a865e63bca40e72c500f7de6f32ea735005f731b490", func := "sexton/sextonlaw04.BoardHears", spec := "boardHears", inPlace := ["internal/reflectlite.TypeOf"], unfollowed := true, recurses := true, named := ["sexton/api.ErrArg"], apart := false, laid := [("sexton/api.ErrArg", laid_sexton_api_ErrArg)] }
def BoardHearsSaid : Prop := boardHearsRow.holds Tryd.pinned (OpenSpec.ofChange boardHearsSpec)

/-- ITS FALSE NEIGHBOUR: 'it returns false'. Refute it at one input. -/
def boardHearsWrong : ChangeSpec := { name := "boardHears", fn := fun _ => fun
  | [d1, d2] => { results := [.lit (.bool false)], args := [d1, d2] }
  | _ => none }
def BoardHearsWrongFalsely : Prop := boardHearsRow.holds Tryd.pinned (OpenSpec.ofChange boardHearsWrong)

/- THE SECOND FORM. 'bulk': how many values and letters a reading holds, each counted each time it is reached (what is shared counts as often as it is met; a slice's spare places count too). A statement '..UptoSaid' is the law's where the arguments, and the package variables that the reading takes, are together of bulk at most 1048576: NARROWER than '..Said'. Prove '..Said' where nothing that the law and all that it calls make is longer than what came in: it says more and counts as full. Else prove '..UptoSaid'. A law counts once. -/
mutual
def uptoBulk {H : Type} : DataW H → Nat
  | .lit (.string bytes) => bytes.length + 1
  | .lit _ => 1
  | .nil => 1
  | .ptr d => uptoBulk d + 1
  | .slice elems spare => uptoBulkAll elems + uptoBulkAll spare + 1
  | .agg parts => uptoBulkAll parts + 1
  | .iface _ d => uptoBulk d + 1
  | .map entries => uptoBulkEntries entries + 1
  | .held _ => 1
def uptoBulkAll {H : Type} : List (DataW H) → Nat
  | [] => 0
  | d :: r => uptoBulk d + uptoBulkAll r
def uptoBulkEntries {H : Type} : List (Lit × DataW H) → Nat
  | [] => 0
  | x :: r => uptoBulkEntry x + uptoBulkEntries r
def uptoBulkEntry {H : Type} : Lit × DataW H → Nat
  | (.string bytes, d) => bytes.length + uptoBulk d + 1
  | (_, d) => uptoBulk d + 1
 end
def uptoSmall : (H : Type) → List (DataW H) → Bool := fun _ ds => decide (uptoBulkAll ds ≤ 1048576)
def OpenSpec.upto (s : _root_.Go.ChangeSpec) : _root_.Go.OpenSpec := { _root_.Go.OpenSpec.ofChange s with cond := some uptoSmall }

/-- 'sextonlaw04.BoardApart', WHERE WHAT IT READS IS OF BULK AT MOST 1048576: true; the input reads as it did. -/
def boardApartUptoRow : OpenClaim := { program := "ytlfhjmfelbomaaadoor", sum := "845b443a851e76c3e8aa2a865e63bca40e72c500f7de6f32ea735005f731b490", func := "sexton/sextonlaw04.BoardApart", spec := "boardApart", inPlace := ["internal/reflectlite.TypeOf"], unfollowed := true, recurses := true, named := ["sexton/api.ErrArg"], apart := false, laid := [("sexton/api.ErrArg", laid_sexton_api_ErrArg)], narrowed := true }
def BoardApartUptoSaid : Prop := boardApartUptoRow.holds Tryd.pinned (OpenSpec.upto boardApartSpec)

/-- 'sextonlaw04.BoardExact', WHERE WHAT IT READS IS OF BULK AT MOST 1048576: true; the input reads as it did. -/
def boardExactUptoRow : OpenClaim := { program := "ytlfhjmfelbomaaadoor", sum := "845b443a851e76c3e8aa2a865e63bca40e72c500f7de6f32ea735005f731b490", func := "sexton/sextonlaw04.BoardExact", spec := "boardExact", inPlace := ["internal/reflectlite.TypeOf"], unfollowed := true, recurses := true, named := ["sexton/api.ErrNone", "sexton/api.ErrArg"], apart := false, laid := [("sexton/api.ErrArg", laid_sexton_api_ErrArg), ("sexton/api.ErrNone", laid_sexton_api_ErrNone)], narrowed := true }
def BoardExactUptoSaid : Prop := boardExactUptoRow.holds Tryd.pinned (OpenSpec.upto boardExactSpec)

/-- 'sextonlaw04.BoardOnce', WHERE WHAT IT READS IS OF BULK AT MOST 1048576: true; the input reads as it did. -/
def boardOnceUptoRow : OpenClaim := { program := "ytlfhjmfelbomaaadoor", sum := "845b443a851e76c3e8aa2a865e63bca40e72c500f7de6f32ea735005f731b490", func := "sexton/sextonlaw04.BoardOnce", spec := "boardOnce", inPlace := ["internal/reflectlite.TypeOf"], unfollowed := true, recurses := true, named := ["sexton/api.ErrArg", "sexton/api.ErrNone"], apart := false, laid := [("sexton/api.ErrArg", laid_sexton_api_ErrArg), ("sexton/api.ErrNone", laid_sexton_api_ErrNone)], narrowed := true }
def BoardOnceUptoSaid : Prop := boardOnceUptoRow.holds Tryd.pinned (OpenSpec.upto boardOnceSpec)

/-- 'sextonlaw04.BoardThreads', WHERE WHAT IT READS IS OF BULK AT MOST 1048576: true; the input reads as it did. -/
def boardThreadsUptoRow : OpenClaim := { program := "ytlfhjmfelbomaaadoor", sum := "845b443a851e76c3e8aa2a865e63bca40e72c500f7de6f32ea735005f731b490", func := "sexton/sextonlaw04.BoardThreads", spec := "boardThreads", inPlace := ["internal/reflectlite.TypeOf"], unfollowed := true, recurses := true, named := ["sexton/api.ErrArg", "sexton/api.ErrNone"], apart := false, laid := [("sexton/api.ErrArg", laid_sexton_api_ErrArg), ("sexton/api.ErrNone", laid_sexton_api_ErrNone)], narrowed := true }
def BoardThreadsUptoSaid : Prop := boardThreadsUptoRow.holds Tryd.pinned (OpenSpec.upto boardThreadsSpec)

/-- 'sextonlaw04.BoardHears', WHERE WHAT IT READS IS OF BULK AT MOST 1048576: true; the input reads as it did. -/
def boardHearsUptoRow : OpenClaim := { program := "ytlfhjmfelbomaaadoor", sum := "845b443a851e76c3e8aa2a865e63bca40e72c500f7de6f32ea735005f731b490", func := "sexton/sextonlaw04.BoardHears", spec := "boardHears", inPlace := ["internal/reflectlite.TypeOf"], unfollowed := true, recurses := true, named := ["sexton/api.ErrArg"], apart := false, laid := [("sexton/api.ErrArg", laid_sexton_api_ErrArg)], narrowed := true }
def BoardHearsUptoSaid : Prop := boardHearsUptoRow.holds Tryd.pinned (OpenSpec.upto boardHearsSpec)

end Rows
end Go.Proofs.YtlfhjmfelbomaaaDoor
