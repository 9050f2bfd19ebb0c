/- Rex, part T: what conditions say, for 'simp only'. -/
import Derived.Test.YthomdlajobnmnaaDoorRexS
set_option linter.unusedSimpArgs false
set_option linter.unusedVariables false
namespace Go.Rex.D
section
variable {ρ : Env} {a b : IE} {c d : BE} {k : IntKind}
theorem le : ((BE.ile a b).den ρ = true) = (a.den ρ ≤ b.den ρ) := propext ⟨of_decide_eq_true, decide_eq_true⟩
theorem lef : ((BE.ile a b).den ρ = false) = (b.den ρ < a.den ρ) := propext ⟨fun h => Int.not_le.1 (of_decide_eq_false h), fun h => decide_eq_false (Int.not_le.2 h)⟩
theorem lt : ((BE.ilt a b).den ρ = true) = (a.den ρ < b.den ρ) := propext ⟨of_decide_eq_true, decide_eq_true⟩
theorem ltf : ((BE.ilt a b).den ρ = false) = (b.den ρ ≤ a.den ρ) := propext ⟨fun h => Int.not_lt.1 (of_decide_eq_false h), fun h => decide_eq_false (Int.not_lt.2 h)⟩
theorem eq : ((BE.ieq a b).den ρ = true) = (a.den ρ = b.den ρ) := propext (by simp [BE.den])
theorem eqf : ((BE.ieq a b).den ρ = false) = (¬ a.den ρ = b.den ρ) := propext (by simp [BE.den])
theorem not : ((BE.not c).den ρ = true) = (c.den ρ = false) := propext (by simp [BE.den])
theorem notf : ((BE.not c).den ρ = false) = (c.den ρ = true) := propext (by simp [BE.den])
theorem and : ((BE.and c d).den ρ = true) = (c.den ρ = true ∧ d.den ρ = true) := propext (by simp [BE.den])
theorem andf : ((BE.and c d).den ρ = false) = (c.den ρ = false ∨ d.den ρ = false) := propext (by simp only [BE.den]; cases c.den ρ <;> cases d.den ρ <;> simp)
theorem or : ((BE.or c d).den ρ = true) = (c.den ρ = true ∨ d.den ρ = true) := propext (by simp [BE.den])
theorem orf : ((BE.or c d).den ρ = false) = (c.den ρ = false ∧ d.den ρ = false) := propext (by simp [BE.den])
theorem inr : ((BE.inr k a).den ρ = true) = (k.min ≤ a.den ρ ∧ a.den ρ ≤ k.max) := propext (by simp only [BE.den, Bool.and_eq_true]; exact ⟨fun h => ⟨of_decide_eq_true h.1, of_decide_eq_true h.2⟩, fun h => ⟨decide_eq_true h.1, decide_eq_true h.2⟩⟩)
theorem var {i : Nat} : (BE.var i).den ρ = ρ.bv i := rfl
theorem lit {x : Bool} : (BE.lit x).den ρ = x := rfl
theorem cellB {r j : Nat} : (BE.cell r a b j).den ρ = ρ.bc r (a.den ρ).toNat (b.den ρ).toNat j := rfl
theorem beq : ((BE.beq c d).den ρ = true) = (c.den ρ = d.den ρ) := propext (by simp [BE.den])
theorem beqf : ((BE.beq c d).den ρ = false) = (¬ c.den ρ = d.den ρ) := propext (by simp [BE.den])
theorem ite {f : BE} : (BE.ite f c d).den ρ = if f.den ρ = true then c.den ρ else d.den ρ := rfl
theorem litI {x : Int} : (IE.lit x).den ρ = x := rfl
theorem varI {i : Nat} : (IE.var i).den ρ = ρ.iv i := rfl
theorem add : (IE.add a b).den ρ = a.den ρ + b.den ρ := rfl
theorem sub : (IE.sub a b).den ρ = a.den ρ - b.den ρ := rfl
theorem mul : (IE.mul a b).den ρ = a.den ρ * b.den ρ := rfl
theorem div : (IE.div a b).den ρ = (a.den ρ).tdiv (b.den ρ) := rfl
theorem mod : (IE.mod a b).den ρ = (a.den ρ).tmod (b.den ρ) := rfl
theorem wrap : (IE.wrap k a).den ρ = k.wrap (a.den ρ) := rfl
theorem min : (IE.imin a b).den ρ = Min.min (a.den ρ) (b.den ρ) := rfl
theorem max : (IE.imax a b).den ρ = Max.max (a.den ρ) (b.den ρ) := rfl
theorem cellI {r j : Nat} : (IE.cell r a b j).den ρ = ρ.ic r (a.den ρ).toNat (b.den ρ).toNat j := rfl
theorem i64min : IntKind.i64.min = -9223372036854775808 := by decide
theorem i64max : IntKind.i64.max = 9223372036854775807 := by decide
theorem be {x : BE} : (QF.be x).den ρ = (x.den ρ = true) := rfl
end
end Go.Rex.D
