/- plain words: what is announced, what it keeps -/
import Derived.Test.YtniacabgcjccdaaPlain
set_option linter.unusedSimpArgs false
set_option linter.unusedVariables false
namespace Go.Proofs.Ytniacabgcjccdaa
open Go.Rex
/-- the first numbers of a list's members: announced slots, or announced eras -/
def annI (ρ : Env) (b : Nat) : List Int := (List.range (ρ.iv (b + 1)).toNat).map fun j => ρ.ic (b + 3) j 0 0
def annP (ρ : Env) (b : Nat) : List (Bool × Int × Int) := (List.range (ρ.iv (b + 1)).toNat).map fun j => (ρ.bc (b + 3) j 0 0, ρ.ic (b + 3) j 0 1, ρ.ic (b + 3) j 0 2)
def keepS (l : List Int) (n : Note) : Bool := l.any fun s => decide (s = n.slot)
def keepE (l : List Int) (n : Note) : Bool := l.any fun e => decide ((0 < e ∧ n.birth ≤ e) ∧ e ≤ n.death)
def keepP (l : List (Bool × Int × Int)) (n : Note) : Bool := l.any fun s => decide ((s.1 = true ∧ s.2.1 ≤ n.death) ∧ n.birth ≤ s.2.2)
def keepT (now : Int) (n : Note) : Bool := decide (now < -9223372036854775806 ∨ now - 2 < n.death)
theorem nilOb {ρ : Env} {b : Nat} (h : OkSl ρ b) : (BE.or (.not (.var b)) (.ieq (.var (b + 1)) (.lit 0))).den ρ = true := by
  simp only [D.le, D.lef, D.lt, D.ltf, D.eq, D.eqf, D.not, D.notf, D.and, D.andf, D.or, D.orf, D.inr, D.var, D.lit, D.cellB, D.beq, D.beqf, D.litI, D.varI, D.add, D.sub, D.mul, D.min, D.max, D.cellI, D.i64min, D.i64max]
  cases hb : ρ.bv b
  · exact .inl rfl
  · exact .inr (h.1 hb)
def noteV (ρ : Env) (b : Nat) : Note := ⟨ρ.iv b, ρ.iv (b + 1), ρ.iv (b + 2), ρ.iv (b + 3), ρ.bv (b + 4), ρ.iv (b + 5), ρ.iv (b + 6)⟩
end Go.Proofs.Ytniacabgcjccdaa
