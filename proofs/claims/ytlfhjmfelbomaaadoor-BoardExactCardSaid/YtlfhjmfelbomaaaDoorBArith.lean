/- plain facts on division; the contracts that the laws lean on -/
import Derived.Test.YtlfhjmfelbomaaaDoorBHears
set_option linter.unusedSimpArgs false
set_option linter.unusedVariables false
namespace Go.Proofs.YtlfhjmfelbomaaaDoor
open Go.Rex
theorem tm (x n : Int) (h : 0 < n) : x.tmod n = if 0 ≤ x then x % n else -((-x) % n) := by
  split
  · rw [Int.tmod_eq_emod_of_nonneg (by assumption)]
  · rw [show x = -(-x) by omega, Int.neg_tmod, Int.tmod_eq_emod_of_nonneg (by omega)]; simp
theorem td (x n : Int) (h : 0 < n) : x.tdiv n = if 0 ≤ x then x / n else -((-x) / n) := by
  split
  · rw [Int.tdiv_eq_ediv_of_nonneg (by assumption)]
  · rw [show x = -(-x) by omega, Int.neg_tdiv, Int.tdiv_eq_ediv_of_nonneg (by omega)]; simp
theorem beqI {ρ : Env} {c d : BE} : ((BE.beq c d).den ρ = true) = ((c.den ρ = true) ↔ (d.den ρ = true)) := by
  simp only [BE.den, beq_iff_eq]
  exact propext Bool.eq_iff_iff
end Go.Proofs.YtlfhjmfelbomaaaDoor
