/- plain words: notes, words, spans, lists of them, read off contents; no program in sight -/
import Derived.Test.YtniacabgcjccdaaRexT
set_option linter.unusedSimpArgs false
set_option linter.unusedVariables false
namespace Go.Proofs.Ytniacabgcjccdaa
open Go.Rex

structure Note where
  slot : Int
  gen : Int
  tag : Int
  num : Int
  mark : Bool
  birth : Int
  death : Int
  deriving DecidableEq
def noteAt (ρ : Env) (r i : Nat) : Note := ⟨ρ.ic r i 0 0, ρ.ic r i 0 1, ρ.ic r i 0 2, ρ.ic r i 0 3, ρ.bc r i 0 4, ρ.ic r i 0 5, ρ.ic r i 0 6⟩
/-- the slice whose variables begin at b is one: nil or not, its length, its capacity -/
def OkSl (ρ : Env) (b : Nat) : Prop := (ρ.bv b = true → ρ.iv (b + 1) = 0) ∧ 0 ≤ ρ.iv (b + 1) ∧ ρ.iv (b + 1) ≤ ρ.iv (b + 2) ∧ ρ.iv (b + 2) ≤ 9223372036854775807
def notes (ρ : Env) (b : Nat) : List Note := (List.range (ρ.iv (b + 1)).toNat).map (noteAt ρ (b + 3))
theorem range_map_congr {α : Type} {f g : Nat → α} {n : Nat} (h : ∀ i, i < n → f i = g i) : (List.range n).map f = (List.range n).map g :=
  List.map_congr_left fun i hi => h i (List.mem_range.1 hi)
theorem notes_length (ρ : Env) (b : Nat) : (notes ρ b).length = (ρ.iv (b + 1)).toNat := by simp [notes]
/-- one more at the end -/
theorem notes_push {ρ ρ' : Env} {b b' : Nat} {x : Note} (h0 : 0 ≤ ρ.iv (b + 1)) (h1 : ρ'.iv (b' + 1) = ρ.iv (b + 1) + 1) (h2 : ∀ i, i < (ρ.iv (b + 1)).toNat → noteAt ρ' (b' + 3) i = noteAt ρ (b + 3) i)
    (h3 : noteAt ρ' (b' + 3) (ρ.iv (b + 1)).toNat = x) : notes ρ' b' = notes ρ b ++ [x] := by
  unfold notes
  rw [h1, show (ρ.iv (b + 1) + 1).toNat = (ρ.iv (b + 1)).toNat + 1 by omega, List.range_succ, List.map_append, range_map_congr h2, List.map_cons, List.map_nil, h3]
theorem notes_same {ρ ρ' : Env} {b b' : Nat} (h1 : ρ'.iv (b' + 1) = ρ.iv (b + 1)) (h2 : ∀ i, i < (ρ.iv (b + 1)).toNat → noteAt ρ' (b' + 3) i = noteAt ρ (b + 3) i) : notes ρ' b' = notes ρ b := by
  unfold notes
  rw [h1, range_map_congr h2]
theorem notes_take {ρ : Env} {b : Nat} {i : Nat} (h : i < (ρ.iv (b + 1)).toNat) : (notes ρ b).take (i + 1) = (notes ρ b).take i ++ [noteAt ρ (b + 3) i] := by
  have hl : i < (notes ρ b).length := by rw [notes_length]; exact h
  rw [List.take_succ_eq_append_getElem hl]
  simp [notes]
theorem notes_full (ρ : Env) (b : Nat) {n : Nat} (h : (ρ.iv (b + 1)).toNat ≤ n) : (notes ρ b).take n = notes ρ b := List.take_of_length_le (by rw [notes_length]; exact h)
/-! ### the same words under other environments -/
theorem noteAt_join {ρ e : Env} {nv r : Nat} (h : r < nv) (i : Nat) : noteAt (ρ.join nv e) r i = noteAt ρ r i := by simp [noteAt, Env.join, h]
theorem notes_join {ρ e : Env} {nv b : Nat} (h : b + 3 < nv) : notes (ρ.join nv e) b = notes ρ b := by
  refine notes_same ?_ fun i _ => noteAt_join h i
  simp [Env.join, show b + 1 < nv by omega]
theorem OkSl_join {ρ e : Env} {nv b : Nat} (h : b + 3 < nv) : OkSl (ρ.join nv e) b ↔ OkSl ρ b := by
  have e0 : (ρ.join nv e).bv b = ρ.bv b := by simp [Env.join, show b < nv by omega]
  have e1 : (ρ.join nv e).iv (b + 1) = ρ.iv (b + 1) := by simp [Env.join, show b + 1 < nv by omega]
  have e2 : (ρ.join nv e).iv (b + 2) = ρ.iv (b + 2) := by simp [Env.join, show b + 2 < nv by omega]
  unfold OkSl
  rw [e0, e1, e2]
theorem noteAt_nenv {ρ : Env} {σ : Sub} {r : Nat} (h : r < σ.lo) (i : Nat) : noteAt (σ.nenv ρ) r i = noteAt ρ r i := by simp [noteAt, Sub.nenv, h]
theorem notes_nenv {ρ : Env} {σ : Sub} {b : Nat} (h : b + 3 < σ.lo) : notes (σ.nenv ρ) b = notes ρ b := by
  refine notes_same ?_ fun i _ => noteAt_nenv h i
  simp [Sub.nenv, show b + 1 < σ.lo by omega]
end Go.Proofs.Ytniacabgcjccdaa
