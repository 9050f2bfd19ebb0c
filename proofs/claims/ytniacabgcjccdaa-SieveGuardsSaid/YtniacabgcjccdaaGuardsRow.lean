/- 'SieveGuards' answers true whatever the input, and the input reads behind the call as it read before: no condition. -/
import Derived.Test.YtniacabgcjccdaaRows
import Derived.Test.YtniacabgcjccdaaGuards
import Derived.ProofKit
set_option linter.unusedSimpArgs false
set_option linter.unusedVariables false
namespace Go.Proofs.Ytniacabgcjccdaa
open Go.ChangeShapes Go.WideShapes Go.ChangeAt Go.RowKit Go.Rex
theorem Try.own : ownKnob Try.prog.godebug = none := by kernel_rfl
theorem Try.laidOut : laidOutB Try.prog = true := by kernel_rfl
set_option maxRecDepth 100000 in
theorem guards_lifted (os : Os) (started : os.Started) (H : Type) (enc : TypeId × Value → H) :
    ReturnsInHanded {} Try.checked os 5 .any (Rows.sieveGuardsSpec.pre6 enc Try.prog Try.f5 Rows.sieveGuardsRow.domain false) (Rows.sieveGuardsSpec.post enc Try.prog Try.f5 false true false false) := by
  refine returnsInHanded_of_change (C := Try.checked) Try.own started (by kernel_rfl) Try.func5
    (ChangeSpec.witness6 (enc := enc) (C := Try.checked) false ⟨#[], #[.agg #[.int .i64 0, .int .i64 0, .int .i64 0, .int .i64 0, .bool false, .int .i64 0, .int .i64 0], .int .i64 0, .agg #[.bool false, .int .i64 0, .int .i64 0], .agg #[.slice none 0 0, .slice none 0 0, .slice none 0 0, .int .i64 0]], []⟩ 8 (by kernel_rfl) (by kernel_rfl) (by kernel_rfl) (by kernel_rfl)) ?_
  intro W base args ds gs before hval hW hcnd _
  exact law_goal Try.laidOut (fn := Try.f5) (s := Rows.sieveGuardsSpec) (sh := sh5) (tb := 4) (by kernel_rfl) (by kernel_rfl) rfl rfl Try.underlying4
    (fun H ds h => by
      match ds, h with
      | [_, _, _, _], _ => exact ⟨rfl, rfl, rfl⟩) (guards_con tabOK) hval hW
theorem guards_holds : Rows.SieveGuardsSaid :=
  OpenClaim.holds_of_wide 5 Try.f5 rfl rfl rfl rfl rfl rfl rfl ⟨rfl, rfl, rfl, rfl, rfl⟩ rfl rfl rfl rfl rfl (by kernel_rfl) Try.func5 (by kernel_rfl)
    (of_decide_eq_true (by kernel_rfl)) (by unfold Func.isWrapper; first | (rw [if_pos (by decide +kernel)]; kernel_rfl) | (rw [if_neg (by decide +kernel)]; exact ⟨rfl, rfl⟩))
    (fun os started H enc _ => guards_lifted os started H enc)
end Go.Proofs.Ytniacabgcjccdaa
