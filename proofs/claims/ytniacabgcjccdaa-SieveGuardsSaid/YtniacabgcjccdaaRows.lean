/-
  No cell of these rows narrows 'for every input' (looked for: loops, veiled, ifaces, maps, wideKeys, modest, calm, conditions, laid).
  DERIVED. THE GIVEN ROWS OF THIS SEAT. 5 by the template 'for every input the law returns true; each argument reads behind the call as it read before'; 0 by the template 'total and deterministic' (their statements: YtniacabgcjccdaaTotals.lean).
  GIVEN WITH THE SEED: the statements are not yours to turn. If you find one false, say at which input.
  Laid BY PROGRAM, IN A SANDBOX (cutbox-rows.mjs): the forced cells as the released guide's own fill.sh prints them over the translation aead96362896e3bf… (all of the seat's roots in one cut). By AI agents, Wed Nov 11 2026. No macro, syntax, notation, axiom, sorry.
-/
import Derived.Test.YtniacabgcjccdaaChecked
import GoSem.Claim
import GoSem.ClaimJoined
import GoSem.ClaimMapViews
import Derived.JoinedTies
import Derived.KernelRfl
namespace Go.Proofs.Ytniacabgcjccdaa
/- THE CELL 'sum', in the pinned program and in every row, IS THE sha256 OF THE DUMP (.gsa) THAT YtniacabgcjccdaaProg.lean LOADS. Nothing in Lean hashes anything: it is a label: what it is worth is what the hold of that sum in a sandbox is worth. -/
noncomputable def Try.pinned : Pinned := { name := "ytniacabgcjccdaa", sum := "aead96362896e3bf7fb8019704ceebce740a478319d7993d49a7021c01beb51a", checked := Try.checked }
namespace Rows
def none {H : Type} : Left H := { results := [], args := [] }

/-- 'sextonlaw05.SieveParts': WHATEVER THE INPUT: true; the input reads as it did. -/
def sievePartsSpec : ChangeSpec := { name := "sieveParts", fn := fun _ => fun
  | [d1, d2] => { results := [.lit (.bool true)], args := [d1, d2] }
  | _ => none }
def sievePartsRow : OpenClaim := { program := "ytniacabgcjccdaa", sum := "aead96362896e3bf7fb8019704ceebce740a478319d7993d49a7021c01beb51a", func := "sexton/sextonlaw05.SieveParts", spec := "sieveParts", unfollowed := true, recurses := true, apart := false }
def SievePartsSaid : Prop := sievePartsRow.holds Try.pinned (OpenSpec.ofChange sievePartsSpec)

/-- ITS FALSE NEIGHBOUR: 'it returns false'. Refute it at one input. -/
def sievePartsWrong : ChangeSpec := { name := "sieveParts", fn := fun _ => fun
  | [d1, d2] => { results := [.lit (.bool false)], args := [d1, d2] }
  | _ => none }
def SievePartsWrongFalsely : Prop := sievePartsRow.holds Try.pinned (OpenSpec.ofChange sievePartsWrong)

/-- 'sextonlaw05.SieveMore': WHATEVER THE INPUT: true; the input reads as it did. -/
def sieveMoreSpec : ChangeSpec := { name := "sieveMore", fn := fun _ => fun
  | [d1, d2, d3] => { results := [.lit (.bool true)], args := [d1, d2, d3] }
  | _ => none }
def sieveMoreRow : OpenClaim := { program := "ytniacabgcjccdaa", sum := "aead96362896e3bf7fb8019704ceebce740a478319d7993d49a7021c01beb51a", func := "sexton/sextonlaw05.SieveMore", spec := "sieveMore", unfollowed := true, recurses := true, apart := false }
def SieveMoreSaid : Prop := sieveMoreRow.holds Try.pinned (OpenSpec.ofChange sieveMoreSpec)

/-- ITS FALSE NEIGHBOUR: 'it returns false'. Refute it at one input. -/
def sieveMoreWrong : ChangeSpec := { name := "sieveMore", fn := fun _ => fun
  | [d1, d2, d3] => { results := [.lit (.bool false)], args := [d1, d2, d3] }
  | _ => none }
def SieveMoreWrongFalsely : Prop := sieveMoreRow.holds Try.pinned (OpenSpec.ofChange sieveMoreWrong)

/-- 'sextonlaw05.SieveGuards': WHATEVER THE INPUT: true; the input reads as it did. -/
def sieveGuardsSpec : ChangeSpec := { name := "sieveGuards", fn := fun _ => fun
  | [d1, d2, d3, d4] => { results := [.lit (.bool true)], args := [d1, d2, d3, d4] }
  | _ => none }
def sieveGuardsRow : OpenClaim := { program := "ytniacabgcjccdaa", sum := "aead96362896e3bf7fb8019704ceebce740a478319d7993d49a7021c01beb51a", func := "sexton/sextonlaw05.SieveGuards", spec := "sieveGuards", unfollowed := true, recurses := true, apart := false }
def SieveGuardsSaid : Prop := sieveGuardsRow.holds Try.pinned (OpenSpec.ofChange sieveGuardsSpec)

/-- ITS FALSE NEIGHBOUR: 'it returns false'. Refute it at one input. -/
def sieveGuardsWrong : ChangeSpec := { name := "sieveGuards", fn := fun _ => fun
  | [d1, d2, d3, d4] => { results := [.lit (.bool false)], args := [d1, d2, d3, d4] }
  | _ => none }
def SieveGuardsWrongFalsely : Prop := sieveGuardsRow.holds Try.pinned (OpenSpec.ofChange sieveGuardsWrong)

/-- 'sextonlaw05.SieveEach': WHATEVER THE INPUT: true; the input reads as it did. -/
def sieveEachSpec : ChangeSpec := { name := "sieveEach", fn := fun _ => fun
  | [d1, d2, d3] => { results := [.lit (.bool true)], args := [d1, d2, d3] }
  | _ => none }
def sieveEachRow : OpenClaim := { program := "ytniacabgcjccdaa", sum := "aead96362896e3bf7fb8019704ceebce740a478319d7993d49a7021c01beb51a", func := "sexton/sextonlaw05.SieveEach", spec := "sieveEach", unfollowed := true, recurses := true, apart := false }
def SieveEachSaid : Prop := sieveEachRow.holds Try.pinned (OpenSpec.ofChange sieveEachSpec)

/-- ITS FALSE NEIGHBOUR: 'it returns false'. Refute it at one input. -/
def sieveEachWrong : ChangeSpec := { name := "sieveEach", fn := fun _ => fun
  | [d1, d2, d3] => { results := [.lit (.bool false)], args := [d1, d2, d3] }
  | _ => none }
def SieveEachWrongFalsely : Prop := sieveEachRow.holds Try.pinned (OpenSpec.ofChange sieveEachWrong)

/-- 'sextonlaw05.SieveSpans': WHATEVER THE INPUT: true; the input reads as it did. -/
def sieveSpansSpec : ChangeSpec := { name := "sieveSpans", fn := fun _ => fun
  | [d1, d2, d3] => { results := [.lit (.bool true)], args := [d1, d2, d3] }
  | _ => none }
def sieveSpansRow : OpenClaim := { program := "ytniacabgcjccdaa", sum := "aead96362896e3bf7fb8019704ceebce740a478319d7993d49a7021c01beb51a", func := "sexton/sextonlaw05.SieveSpans", spec := "sieveSpans", unfollowed := true, recurses := true, apart := false }
def SieveSpansSaid : Prop := sieveSpansRow.holds Try.pinned (OpenSpec.ofChange sieveSpansSpec)

/-- ITS FALSE NEIGHBOUR: 'it returns false'. Refute it at one input. -/
def sieveSpansWrong : ChangeSpec := { name := "sieveSpans", fn := fun _ => fun
  | [d1, d2, d3] => { results := [.lit (.bool false)], args := [d1, d2, d3] }
  | _ => none }
def SieveSpansWrongFalsely : Prop := sieveSpansRow.holds Try.pinned (OpenSpec.ofChange sieveSpansWrong)

/- THE SECOND FORM. 'bulk': how many values and letters a reading holds, each counted each time it is reached (what is shared counts as often as it is met; a slice's spare places count too). A statement '..UptoSaid' is the law's where the arguments, and the package variables that the reading takes, are together of bulk at most 1048576: NARROWER than '..Said'. Prove '..Said' where nothing that the law and all that it calls make is longer than what came in: it says more and counts as full. Else prove '..UptoSaid'. A law counts once. -/
mutual
def uptoBulk {H : Type} : DataW H → Nat
  | .lit (.string bytes) => bytes.length + 1
  | .lit _ => 1
  | .nil => 1
  | .ptr d => uptoBulk d + 1
  | .slice elems spare => uptoBulkAll elems + uptoBulkAll spare + 1
  | .agg parts => uptoBulkAll parts + 1
  | .iface _ d => uptoBulk d + 1
  | .map entries => uptoBulkEntries entries + 1
  | .held _ => 1
def uptoBulkAll {H : Type} : List (DataW H) → Nat
  | [] => 0
  | d :: r => uptoBulk d + uptoBulkAll r
def uptoBulkEntries {H : Type} : List (Lit × DataW H) → Nat
  | [] => 0
  | x :: r => uptoBulkEntry x + uptoBulkEntries r
def uptoBulkEntry {H : Type} : Lit × DataW H → Nat
  | (.string bytes, d) => bytes.length + uptoBulk d + 1
  | (_, d) => uptoBulk d + 1
 end
def uptoSmall : (H : Type) → List (DataW H) → Bool := fun _ ds => decide (uptoBulkAll ds ≤ 1048576)
def OpenSpec.upto (s : _root_.Go.ChangeSpec) : _root_.Go.OpenSpec := { _root_.Go.OpenSpec.ofChange s with cond := some uptoSmall }

/-- 'sextonlaw05.SieveParts', WHERE WHAT IT READS IS OF BULK AT MOST 1048576: true; the input reads as it did. -/
def sievePartsUptoRow : OpenClaim := { program := "ytniacabgcjccdaa", sum := "aead96362896e3bf7fb8019704ceebce740a478319d7993d49a7021c01beb51a", func := "sexton/sextonlaw05.SieveParts", spec := "sieveParts", unfollowed := true, recurses := true, apart := false, narrowed := true }
def SievePartsUptoSaid : Prop := sievePartsUptoRow.holds Try.pinned (OpenSpec.upto sievePartsSpec)

/-- 'sextonlaw05.SieveMore', WHERE WHAT IT READS IS OF BULK AT MOST 1048576: true; the input reads as it did. -/
def sieveMoreUptoRow : OpenClaim := { program := "ytniacabgcjccdaa", sum := "aead96362896e3bf7fb8019704ceebce740a478319d7993d49a7021c01beb51a", func := "sexton/sextonlaw05.SieveMore", spec := "sieveMore", unfollowed := true, recurses := true, apart := false, narrowed := true }
def SieveMoreUptoSaid : Prop := sieveMoreUptoRow.holds Try.pinned (OpenSpec.upto sieveMoreSpec)

/-- 'sextonlaw05.SieveGuards', WHERE WHAT IT READS IS OF BULK AT MOST 1048576: true; the input reads as it did. -/
def sieveGuardsUptoRow : OpenClaim := { program := "ytniacabgcjccdaa", sum := "aead96362896e3bf7fb8019704ceebce740a478319d7993d49a7021c01beb51a", func := "sexton/sextonlaw05.SieveGuards", spec := "sieveGuards", unfollowed := true, recurses := true, apart := false, narrowed := true }
def SieveGuardsUptoSaid : Prop := sieveGuardsUptoRow.holds Try.pinned (OpenSpec.upto sieveGuardsSpec)

/-- 'sextonlaw05.SieveEach', WHERE WHAT IT READS IS OF BULK AT MOST 1048576: true; the input reads as it did. -/
def sieveEachUptoRow : OpenClaim := { program := "ytniacabgcjccdaa", sum := "aead96362896e3bf7fb8019704ceebce740a478319d7993d49a7021c01beb51a", func := "sexton/sextonlaw05.SieveEach", spec := "sieveEach", unfollowed := true, recurses := true, apart := false, narrowed := true }
def SieveEachUptoSaid : Prop := sieveEachUptoRow.holds Try.pinned (OpenSpec.upto sieveEachSpec)

/-- 'sextonlaw05.SieveSpans', WHERE WHAT IT READS IS OF BULK AT MOST 1048576: true; the input reads as it did. -/
def sieveSpansUptoRow : OpenClaim := { program := "ytniacabgcjccdaa", sum := "aead96362896e3bf7fb8019704ceebce740a478319d7993d49a7021c01beb51a", func := "sexton/sextonlaw05.SieveSpans", spec := "sieveSpans", unfollowed := true, recurses := true, apart := false, narrowed := true }
def SieveSpansUptoSaid : Prop := sieveSpansUptoRow.holds Try.pinned (OpenSpec.upto sieveSpansSpec)

end Rows
end Go.Proofs.Ytniacabgcjccdaa
