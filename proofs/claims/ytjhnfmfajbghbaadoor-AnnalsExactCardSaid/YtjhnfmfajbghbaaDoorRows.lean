/-
  NARROWER THAN 'FOR EVERY INPUT', by the rows' own cells (each row's printed sentence says how): AnnalsBack: laid · AnnalsOrders: laid · AnnalsWhole: laid · AnnalsParts: laid · AnnalsExact: laid.
  DERIVED. THE GIVEN ROWS OF THIS SEAT. 5 by the template 'for every input the law returns true; each argument reads behind the call as it read before'; 0 by the template 'total and deterministic' (their statements: YtjhnfmfajbghbaaDoorTotals.lean).
  GIVEN WITH THE SEED: the statements are not yours to turn. If you find one false, say at which input.
  Laid BY PROGRAM, IN A SANDBOX (cutbox-rows.mjs): the forced cells as the released guide's own fill.sh prints them over the translation c268c1c31cae8ea3… (all of the seat's roots in one cut). By AI agents, Wed Nov 11 2026. No macro, syntax, notation, axiom, sorry.
-/
import Derived.Test.YtjhnfmfajbghbaaDoorChecked
import GoSem.Claim
import GoSem.ClaimJoined
import GoSem.ClaimMapViews
import Derived.JoinedTies
import Derived.KernelRfl
namespace Go.Proofs.YtjhnfmfajbghbaaDoor
/- THE CELL 'sum', in the pinned program and in every row, IS THE sha256 OF THE DUMP (.gsa) THAT YtjhnfmfajbghbaaDoorProg.lean LOADS. Nothing in Lean hashes anything: it is a label: what it is worth is what the hold of that sum in a sandbox is worth. -/
noncomputable def Tryd.pinned : Pinned := { name := "ytjhnfmfajbghbaadoor", sum := "c268c1c31cae8ea3713394aabb54bb0c6036d699f0f7c15b13b2da7b37bc4e99", checked := Tryd.checked }
namespace Rows
def none {H : Type} : Left H := { results := [], args := [] }

/- WHAT THE LISTED PACKAGE-LEVEL VARIABLES READ AS WHEN THE CALL BEGINS. Each datum BY PROGRAM (the guide's laid-datum.mjs) off the statement by which the dump's own 'gosem.cut.vars' lays the variable. In a bare row this is a premise. The card (YtjhnfmfajbghbaaDoorCards.lean) ties it to the program's text. -/
def laid_sexton_api_ErrArg {H : Type} : DataW H := .iface "*errors.errorString" (.ptr (.agg [.lit (.string [97, 110, 32, 97, 114, 103, 117, 109, 101, 110, 116, 32, 116, 104, 97, 116, 32, 99, 97, 110, 39, 116, 32, 98, 101])]))
def laid_sexton_api_ErrState {H : Type} : DataW H := .iface "*errors.errorString" (.ptr (.agg [.lit (.string [110, 111, 116, 32, 110, 111, 119])]))
def laid_sexton_api_ErrNil {H : Type} : DataW H := .iface "*errors.errorString" (.ptr (.agg [.lit (.string [97, 32, 110, 105, 108, 32, 116, 104, 105, 110, 103])]))
def laid_sexton_api_ErrFull {H : Type} : DataW H := .iface "*errors.errorString" (.ptr (.agg [.lit (.string [110, 111, 32, 114, 111, 111, 109])]))
def laid_sexton_api_ErrNone {H : Type} : DataW H := .iface "*errors.errorString" (.ptr (.agg [.lit (.string [116, 104, 101, 114, 101, 32, 105, 115, 32, 110, 111, 110, 101])]))
def laid_sexton_api_ErrFreed {H : Type} : DataW H := .iface "*errors.errorString" (.ptr (.agg [.lit (.string [97, 32, 115, 108, 111, 116, 32, 116, 104, 97, 116, 32, 105, 115, 32, 102, 114, 101, 101])]))
def laid_sexton_api_ErrStale {H : Type} : DataW H := .iface "*errors.errorString" (.ptr (.agg [.lit (.string [97, 32, 115, 108, 111, 116, 32, 116, 104, 97, 116, 32, 105, 115, 32, 97, 110, 111, 116, 104, 101, 114, 32, 111, 110, 101, 32, 110, 111, 119])]))
def laid_sexton_api_ErrTwice {H : Type} : DataW H := .iface "*errors.errorString" (.ptr (.agg [.lit (.string [100, 111, 110, 101, 32, 97, 108, 114, 101, 97, 100, 121])]))
def laid_sexton_api_ErrLeft {H : Type} : DataW H := .iface "*errors.errorString" (.ptr (.agg [.lit (.string [97, 32, 102, 114, 101, 101, 32, 115, 108, 111, 116, 32, 116, 104, 97, 116, 32, 99, 97, 110, 32, 98, 101, 32, 114, 101, 97, 99, 104, 101, 100])]))
def laid_sexton_api_ErrLong {H : Type} : DataW H := .iface "*errors.errorString" (.ptr (.agg [.lit (.string [116, 111, 111, 32, 108, 111, 110, 103])]))
def laid_sexton_api_ErrWord {H : Type} : DataW H := .iface "*errors.errorString" (.ptr (.agg [.lit (.string [110, 111, 32, 119, 111, 114, 100])]))

/-- 'sextonlaw15.AnnalsBack': WHATEVER THE INPUT: true; the input reads as it did. -/
def annalsBackSpec : ChangeSpec := { name := "annalsBack", fn := fun _ => fun
  | [d1, d2] => { results := [.lit (.bool true)], args := [d1, d2] }
  | _ => none }
def annalsBackRow : OpenClaim := { program := "ytjhnfmfajbghbaadoor", sum := "c268c1c31cae8ea3713394aabb54bb0c6036d699f0f7c15b13b2da7b37bc4e99", func := "sexton/sextonlaw15.AnnalsBack", spec := "annalsBack", inPlace := ["internal/reflectlite.TypeOf"], unfollowed := true, recurses := true, named := ["sexton/api.ErrState", "sexton/api.ErrArg"], apart := false, laid := [("sexton/api.ErrArg", laid_sexton_api_ErrArg), ("sexton/api.ErrState", laid_sexton_api_ErrState)] }
def AnnalsBackSaid : Prop := annalsBackRow.holds Tryd.pinned (OpenSpec.ofChange annalsBackSpec)

/-- ITS FALSE NEIGHBOUR: 'it returns false'. Refute it at one input. -/
def annalsBackWrong : ChangeSpec := { name := "annalsBack", fn := fun _ => fun
  | [d1, d2] => { results := [.lit (.bool false)], args := [d1, d2] }
  | _ => none }
def AnnalsBackWrongFalsely : Prop := annalsBackRow.holds Tryd.pinned (OpenSpec.ofChange annalsBackWrong)

/-- 'sextonlaw15.AnnalsOrders': WHATEVER THE INPUT: true; the input reads as it did. -/
def annalsOrdersSpec : ChangeSpec := { name := "annalsOrders", fn := fun _ => fun
  | [d] => { results := [.lit (.bool true)], args := [d] }
  | _ => none }
def annalsOrdersRow : OpenClaim := { program := "ytjhnfmfajbghbaadoor", sum := "c268c1c31cae8ea3713394aabb54bb0c6036d699f0f7c15b13b2da7b37bc4e99", func := "sexton/sextonlaw15.AnnalsOrders", spec := "annalsOrders", inPlace := ["internal/reflectlite.TypeOf"], unfollowed := true, recurses := true, named := ["sexton/api.ErrState", "sexton/api.ErrArg"], apart := false, laid := [("sexton/api.ErrArg", laid_sexton_api_ErrArg), ("sexton/api.ErrState", laid_sexton_api_ErrState)] }
def AnnalsOrdersSaid : Prop := annalsOrdersRow.holds Tryd.pinned (OpenSpec.ofChange annalsOrdersSpec)

/-- ITS FALSE NEIGHBOUR: 'it returns false'. Refute it at one input. -/
def annalsOrdersWrong : ChangeSpec := { name := "annalsOrders", fn := fun _ => fun
  | [d] => { results := [.lit (.bool false)], args := [d] }
  | _ => none }
def AnnalsOrdersWrongFalsely : Prop := annalsOrdersRow.holds Tryd.pinned (OpenSpec.ofChange annalsOrdersWrong)

/-- 'sextonlaw15.AnnalsWhole': WHATEVER THE INPUT: true; the input reads as it did. -/
def annalsWholeSpec : ChangeSpec := { name := "annalsWhole", fn := fun _ => fun
  | [d] => { results := [.lit (.bool true)], args := [d] }
  | _ => none }
def annalsWholeRow : OpenClaim := { program := "ytjhnfmfajbghbaadoor", sum := "c268c1c31cae8ea3713394aabb54bb0c6036d699f0f7c15b13b2da7b37bc4e99", func := "sexton/sextonlaw15.AnnalsWhole", spec := "annalsWhole", inPlace := ["internal/reflectlite.TypeOf"], unfollowed := true, recurses := true, named := ["sexton/api.ErrState", "sexton/api.ErrArg"], apart := false, laid := [("sexton/api.ErrArg", laid_sexton_api_ErrArg), ("sexton/api.ErrState", laid_sexton_api_ErrState)] }
def AnnalsWholeSaid : Prop := annalsWholeRow.holds Tryd.pinned (OpenSpec.ofChange annalsWholeSpec)

/-- ITS FALSE NEIGHBOUR: 'it returns false'. Refute it at one input. -/
def annalsWholeWrong : ChangeSpec := { name := "annalsWhole", fn := fun _ => fun
  | [d] => { results := [.lit (.bool false)], args := [d] }
  | _ => none }
def AnnalsWholeWrongFalsely : Prop := annalsWholeRow.holds Tryd.pinned (OpenSpec.ofChange annalsWholeWrong)

/-- 'sextonlaw15.AnnalsParts': WHATEVER THE INPUT: true; the input reads as it did. -/
def annalsPartsSpec : ChangeSpec := { name := "annalsParts", fn := fun _ => fun
  | [d1, d2] => { results := [.lit (.bool true)], args := [d1, d2] }
  | _ => none }
def annalsPartsRow : OpenClaim := { program := "ytjhnfmfajbghbaadoor", sum := "c268c1c31cae8ea3713394aabb54bb0c6036d699f0f7c15b13b2da7b37bc4e99", func := "sexton/sextonlaw15.AnnalsParts", spec := "annalsParts", inPlace := ["internal/reflectlite.TypeOf"], unfollowed := true, recurses := true, named := ["sexton/api.ErrState", "sexton/api.ErrArg"], apart := false, laid := [("sexton/api.ErrArg", laid_sexton_api_ErrArg), ("sexton/api.ErrState", laid_sexton_api_ErrState)] }
def AnnalsPartsSaid : Prop := annalsPartsRow.holds Tryd.pinned (OpenSpec.ofChange annalsPartsSpec)

/-- ITS FALSE NEIGHBOUR: 'it returns false'. Refute it at one input. -/
def annalsPartsWrong : ChangeSpec := { name := "annalsParts", fn := fun _ => fun
  | [d1, d2] => { results := [.lit (.bool false)], args := [d1, d2] }
  | _ => none }
def AnnalsPartsWrongFalsely : Prop := annalsPartsRow.holds Tryd.pinned (OpenSpec.ofChange annalsPartsWrong)

/-- 'sextonlaw15.AnnalsExact': WHATEVER THE INPUT: true; the input reads as it did. -/
def annalsExactSpec : ChangeSpec := { name := "annalsExact", fn := fun _ => fun
  | [d1, d2, d3] => { results := [.lit (.bool true)], args := [d1, d2, d3] }
  | _ => none }
def annalsExactRow : OpenClaim := { program := "ytjhnfmfajbghbaadoor", sum := "c268c1c31cae8ea3713394aabb54bb0c6036d699f0f7c15b13b2da7b37bc4e99", func := "sexton/sextonlaw15.AnnalsExact", spec := "annalsExact", inPlace := ["internal/reflectlite.TypeOf"], unfollowed := true, recurses := true, named := ["sexton/api.ErrArg", "sexton/api.ErrState", "sexton/api.ErrNil", "sexton/api.ErrFull", "sexton/api.ErrNone", "sexton/api.ErrFreed", "sexton/api.ErrStale", "sexton/api.ErrTwice", "sexton/api.ErrLeft", "sexton/api.ErrLong", "sexton/api.ErrWord"], apart := false, laid := [("sexton/api.ErrArg", laid_sexton_api_ErrArg), ("sexton/api.ErrNil", laid_sexton_api_ErrNil), ("sexton/api.ErrFull", laid_sexton_api_ErrFull), ("sexton/api.ErrNone", laid_sexton_api_ErrNone), ("sexton/api.ErrState", laid_sexton_api_ErrState), ("sexton/api.ErrFreed", laid_sexton_api_ErrFreed), ("sexton/api.ErrStale", laid_sexton_api_ErrStale), ("sexton/api.ErrTwice", laid_sexton_api_ErrTwice), ("sexton/api.ErrLeft", laid_sexton_api_ErrLeft), ("sexton/api.ErrLong", laid_sexton_api_ErrLong), ("sexton/api.ErrWord", laid_sexton_api_ErrWord)] }
def AnnalsExactSaid : Prop := annalsExactRow.holds Tryd.pinned (OpenSpec.ofChange annalsExactSpec)

/-- ITS FALSE NEIGHBOUR: 'it returns false'. Refute it at one input. -/
def annalsExactWrong : ChangeSpec := { name := "annalsExact", fn := fun _ => fun
  | [d1, d2, d3] => { results := [.lit (.bool false)], args := [d1, d2, d3] }
  | _ => none }
def AnnalsExactWrongFalsely : Prop := annalsExactRow.holds Tryd.pinned (OpenSpec.ofChange annalsExactWrong)

/- THE SECOND FORM. 'bulk': how many values and letters a reading holds, each counted each time it is reached (what is shared counts as often as it is met; a slice's spare places count too). A statement '..UptoSaid' is the law's where the arguments, and the package variables that the reading takes, are together of bulk at most 1048576: NARROWER than '..Said'. Prove '..Said' where nothing that the law and all that it calls make is longer than what came in: it says more and counts as full. Else prove '..UptoSaid'. A law counts once. -/
mutual
def uptoBulk {H : Type} : DataW H → Nat
  | .lit (.string bytes) => bytes.length + 1
  | .lit _ => 1
  | .nil => 1
  | .ptr d => uptoBulk d + 1
  | .slice elems spare => uptoBulkAll elems + uptoBulkAll spare + 1
  | .agg parts => uptoBulkAll parts + 1
  | .iface _ d => uptoBulk d + 1
  | .map entries => uptoBulkEntries entries + 1
  | .held _ => 1
def uptoBulkAll {H : Type} : List (DataW H) → Nat
  | [] => 0
  | d :: r => uptoBulk d + uptoBulkAll r
def uptoBulkEntries {H : Type} : List (Lit × DataW H) → Nat
  | [] => 0
  | x :: r => uptoBulkEntry x + uptoBulkEntries r
def uptoBulkEntry {H : Type} : Lit × DataW H → Nat
  | (.string bytes, d) => bytes.length + uptoBulk d + 1
  | (_, d) => uptoBulk d + 1
 end
def uptoSmall : (H : Type) → List (DataW H) → Bool := fun _ ds => decide (uptoBulkAll ds ≤ 1048576)
def OpenSpec.upto (s : _root_.Go.ChangeSpec) : _root_.Go.OpenSpec := { _root_.Go.OpenSpec.ofChange s with cond := some uptoSmall }

/-- 'sextonlaw15.AnnalsBack', WHERE WHAT IT READS IS OF BULK AT MOST 1048576: true; the input reads as it did. -/
def annalsBackUptoRow : OpenClaim := { program := "ytjhnfmfajbghbaadoor", sum := "c268c1c31cae8ea3713394aabb54bb0c6036d699f0f7c15b13b2da7b37bc4e99", func := "sexton/sextonlaw15.AnnalsBack", spec := "annalsBack", inPlace := ["internal/reflectlite.TypeOf"], unfollowed := true, recurses := true, named := ["sexton/api.ErrState", "sexton/api.ErrArg"], apart := false, laid := [("sexton/api.ErrArg", laid_sexton_api_ErrArg), ("sexton/api.ErrState", laid_sexton_api_ErrState)], narrowed := true }
def AnnalsBackUptoSaid : Prop := annalsBackUptoRow.holds Tryd.pinned (OpenSpec.upto annalsBackSpec)

/-- 'sextonlaw15.AnnalsOrders', WHERE WHAT IT READS IS OF BULK AT MOST 1048576: true; the input reads as it did. -/
def annalsOrdersUptoRow : OpenClaim := { program := "ytjhnfmfajbghbaadoor", sum := "c268c1c31cae8ea3713394aabb54bb0c6036d699f0f7c15b13b2da7b37bc4e99", func := "sexton/sextonlaw15.AnnalsOrders", spec := "annalsOrders", inPlace := ["internal/reflectlite.TypeOf"], unfollowed := true, recurses := true, named := ["sexton/api.ErrState", "sexton/api.ErrArg"], apart := false, laid := [("sexton/api.ErrArg", laid_sexton_api_ErrArg), ("sexton/api.ErrState", laid_sexton_api_ErrState)], narrowed := true }
def AnnalsOrdersUptoSaid : Prop := annalsOrdersUptoRow.holds Tryd.pinned (OpenSpec.upto annalsOrdersSpec)

/-- 'sextonlaw15.AnnalsWhole', WHERE WHAT IT READS IS OF BULK AT MOST 1048576: true; the input reads as it did. -/
def annalsWholeUptoRow : OpenClaim := { program := "ytjhnfmfajbghbaadoor", sum := "c268c1c31cae8ea3713394aabb54bb0c6036d699f0f7c15b13b2da7b37bc4e99", func := "sexton/sextonlaw15.AnnalsWhole", spec := "annalsWhole", inPlace := ["internal/reflectlite.TypeOf"], unfollowed := true, recurses := true, named := ["sexton/api.ErrState", "sexton/api.ErrArg"], apart := false, laid := [("sexton/api.ErrArg", laid_sexton_api_ErrArg), ("sexton/api.ErrState", laid_sexton_api_ErrState)], narrowed := true }
def AnnalsWholeUptoSaid : Prop := annalsWholeUptoRow.holds Tryd.pinned (OpenSpec.upto annalsWholeSpec)

/-- 'sextonlaw15.AnnalsParts', WHERE WHAT IT READS IS OF BULK AT MOST 1048576: true; the input reads as it did. -/
def annalsPartsUptoRow : OpenClaim := { program := "ytjhnfmfajbghbaadoor", sum := "c268c1c31cae8ea3713394aabb54bb0c6036d699f0f7c15b13b2da7b37bc4e99", func := "sexton/sextonlaw15.AnnalsParts", spec := "annalsParts", inPlace := ["internal/reflectlite.TypeOf"], unfollowed := true, recurses := true, named := ["sexton/api.ErrState", "sexton/api.ErrArg"], apart := false, laid := [("sexton/api.ErrArg", laid_sexton_api_ErrArg), ("sexton/api.ErrState", laid_sexton_api_ErrState)], narrowed := true }
def AnnalsPartsUptoSaid : Prop := annalsPartsUptoRow.holds Tryd.pinned (OpenSpec.upto annalsPartsSpec)

/-- 'sextonlaw15.AnnalsExact', WHERE WHAT IT READS IS OF BULK AT MOST 1048576: true; the input reads as it did. -/
def annalsExactUptoRow : OpenClaim := { program := "ytjhnfmfajbghbaadoor", sum := "c268c1c31cae8ea3713394aabb54bb0c6036d699f0f7c15b13b2da7b37bc4e99", func := "sexton/sextonlaw15.AnnalsExact", spec := "annalsExact", inPlace := ["internal/reflectlite.TypeOf"], unfollowed := true, recurses := true, named := ["sexton/api.ErrArg", "sexton/api.ErrState", "sexton/api.ErrNil", "sexton/api.ErrFull", "sexton/api.ErrNone", "sexton/api.ErrFreed", "sexton/api.ErrStale", "sexton/api.ErrTwice", "sexton/api.ErrLeft", "sexton/api.ErrLong", "sexton/api.ErrWord"], apart := false, laid := [("sexton/api.ErrArg", laid_sexton_api_ErrArg), ("sexton/api.ErrNil", laid_sexton_api_ErrNil), ("sexton/api.ErrFull", laid_sexton_api_ErrFull), ("sexton/api.ErrNone", laid_sexton_api_ErrNone), ("sexton/api.ErrState", laid_sexton_api_ErrState), ("sexton/api.ErrFreed", laid_sexton_api_ErrFreed), ("sexton/api.ErrStale", laid_sexton_api_ErrStale), ("sexton/api.ErrTwice", laid_sexton_api_ErrTwice), ("sexton/api.ErrLeft", laid_sexton_api_ErrLeft), ("sexton/api.ErrLong", laid_sexton_api_ErrLong), ("sexton/api.ErrWord", laid_sexton_api_ErrWord)], narrowed := true }
def AnnalsExactUptoSaid : Prop := annalsExactUptoRow.holds Tryd.pinned (OpenSpec.upto annalsExactSpec)

end Rows
end Go.Proofs.YtjhnfmfajbghbaaDoor
