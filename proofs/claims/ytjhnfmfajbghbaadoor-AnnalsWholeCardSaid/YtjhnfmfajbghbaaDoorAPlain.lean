/- plain words: rows of records, read off contents; beats, events, rows of a history -/
import Derived.Test.YtjhnfmfajbghbaaDoorRexT
set_option linter.unusedSimpArgs false
set_option linter.unusedVariables false
namespace Go.Proofs.YtjhnfmfajbghbaaDoor
open Go.Rex
structure Ev where
  thread : Int
  begins : Bool
  kind : Int
  key : Int
  val : Int
  tall : Int
  code : Int
  ans : Int
  deriving DecidableEq
structure Bt where
  thread : Int
  begins : Bool
  kind : Int
  key : Int
  val : Int
  tall : Int
  real : Bool
  ends : Bool
  code : Int
  ans : Int
structure Rw where
  thread : Int
  kind : Int
  key : Int
  val : Int
  tall : Int
  code : Int
  ans : Int
  fr : Int
  to : Int
  done : Bool
  deriving DecidableEq
def mkEv (f : Nat → Int) (g : Nat → Bool) : Ev := ⟨f 0, g 1, f 2, f 3, f 4, f 5, f 6, f 7⟩
def mkBt (f : Nat → Int) (g : Nat → Bool) : Bt := ⟨f 0, g 1, f 2, f 3, f 4, f 5, g 6, g 7, f 8, f 9⟩
def mkRw (f : Nat → Int) (g : Nat → Bool) : Rw := ⟨f 0, f 1, f 2, f 3, f 4, f 5, f 6, f 7, f 8, g 9⟩
/-- the slice whose variables begin at b is one: nil or not, its length, its capacity -/
def OkSl (ρ : Env) (b : Nat) : Prop := (ρ.bv b = true → ρ.iv (b + 1) = 0) ∧ 0 ≤ ρ.iv (b + 1) ∧ ρ.iv (b + 1) ≤ ρ.iv (b + 2) ∧ ρ.iv (b + 2) ≤ 9223372036854775807
section
variable {α : Type} (mk : (Nat → Int) → (Nat → Bool) → α)
def recAt (ρ : Env) (r i : Nat) : α := mk (ρ.ic r i 0) (ρ.bc r i 0)
def recs (ρ : Env) (b : Nat) : List α := (List.range (ρ.iv (b + 1)).toNat).map (recAt mk ρ (b + 3))
variable {mk}
theorem range_map_congr {β : Type} {f g : Nat → β} {n : Nat} (h : ∀ i, i < n → f i = g i) : (List.range n).map f = (List.range n).map g :=
  List.map_congr_left fun i hi => h i (List.mem_range.1 hi)
theorem recs_length (ρ : Env) (b : Nat) : (recs mk ρ b).length = (ρ.iv (b + 1)).toNat := by simp [recs]
theorem recs_get {ρ : Env} {b i : Nat} (h : i < (ρ.iv (b + 1)).toNat) : (recs mk ρ b)[i]? = some (recAt mk ρ (b + 3) i) := by
  simp [recs, h]
theorem recs_same {ρ ρ' : Env} {b b' : Nat} (h1 : ρ'.iv (b' + 1) = ρ.iv (b + 1)) (h2 : ∀ i, i < (ρ.iv (b + 1)).toNat → recAt mk ρ' (b' + 3) i = recAt mk ρ (b + 3) i) : recs mk ρ' b' = recs mk ρ b := by
  unfold recs
  rw [h1, range_map_congr h2]
theorem recs_push {ρ ρ' : Env} {b b' : Nat} {x : α} (h0 : 0 ≤ ρ.iv (b + 1)) (h1 : ρ'.iv (b' + 1) = ρ.iv (b + 1) + 1) (h2 : ∀ i, i < (ρ.iv (b + 1)).toNat → recAt mk ρ' (b' + 3) i = recAt mk ρ (b + 3) i)
    (h3 : recAt mk ρ' (b' + 3) (ρ.iv (b + 1)).toNat = x) : recs mk ρ' b' = recs mk ρ b ++ [x] := by
  unfold recs
  rw [h1, show (ρ.iv (b + 1) + 1).toNat = (ρ.iv (b + 1)).toNat + 1 by omega, List.range_succ, List.map_append, range_map_congr h2, List.map_cons, List.map_nil, h3]
theorem recs_push2 {ρ ρ' : Env} {b b' : Nat} {x y : α} (h0 : 0 ≤ ρ.iv (b + 1)) (h1 : ρ'.iv (b' + 1) = ρ.iv (b + 1) + 1 + 1) (h2 : ∀ i, i < (ρ.iv (b + 1)).toNat → recAt mk ρ' (b' + 3) i = recAt mk ρ (b + 3) i)
    (h3 : recAt mk ρ' (b' + 3) (ρ.iv (b + 1)).toNat = x) (h4 : recAt mk ρ' (b' + 3) ((ρ.iv (b + 1)).toNat + 1) = y) : recs mk ρ' b' = recs mk ρ b ++ [x, y] := by
  unfold recs
  rw [h1, show (ρ.iv (b + 1) + 1 + 1).toNat = (ρ.iv (b + 1)).toNat + 1 + 1 by omega, List.range_succ, List.range_succ, List.map_append, List.map_append, range_map_congr h2]
  simp [h3, h4]
theorem recs_take {ρ : Env} {b : Nat} {i : Nat} (h : i < (ρ.iv (b + 1)).toNat) : (recs mk ρ b).take (i + 1) = (recs mk ρ b).take i ++ [recAt mk ρ (b + 3) i] := by
  have hl : i < (recs mk ρ b).length := by rw [recs_length]; exact h
  rw [List.take_succ_eq_append_getElem hl]
  simp [recs]
theorem recs_full (ρ : Env) (b : Nat) {n : Nat} (h : (ρ.iv (b + 1)).toNat ≤ n) : (recs mk ρ b).take n = recs mk ρ b := List.take_of_length_le (by rw [recs_length]; exact h)
/-- one list behind another -/
theorem recs_cat {ρ' ρ : Env} {b' b c : Nat} (h0 : 0 ≤ ρ.iv (b + 1)) (h0' : 0 ≤ ρ.iv (c + 1)) (h1 : ρ'.iv (b' + 1) = ρ.iv (b + 1) + ρ.iv (c + 1)) (h2 : ∀ i : Nat, (i : Int) < ρ.iv (b + 1) → recAt mk ρ' (b' + 3) i = recAt mk ρ (b + 3) i)
    (h3 : ∀ i : Nat, (i : Int) < ρ.iv (c + 1) → recAt mk ρ' (b' + 3) ((ρ.iv (b + 1)).toNat + i) = recAt mk ρ (c + 3) i) : recs mk ρ' b' = recs mk ρ b ++ recs mk ρ c := by
  unfold recs
  rw [h1, show (ρ.iv (b + 1) + ρ.iv (c + 1)).toNat = (ρ.iv (b + 1)).toNat + (ρ.iv (c + 1)).toNat by omega, List.range_add, List.map_append, List.map_map, range_map_congr fun i hi => h2 i (by omega)]
  exact congrArg _ (range_map_congr fun i hi => h3 i (by omega))
/-- a piece -/
theorem recs_piece {ρ' ρ : Env} {b' b : Nat} {s n : Nat} (h1 : (ρ'.iv (b' + 1)).toNat = n) (hs : s + n ≤ (ρ.iv (b + 1)).toNat) (h2 : ∀ i : Nat, i < n → recAt mk ρ' (b' + 3) i = recAt mk ρ (b + 3) (s + i)) : recs mk ρ' b' = ((recs mk ρ b).drop s).take n := by
  apply List.ext_getElem?
  intro i
  rw [List.getElem?_take]
  by_cases hi : i < n
  · rw [if_pos hi, recs_get (by omega), List.getElem?_drop, recs_get (by omega), h2 i hi]
  · rw [if_neg hi, List.getElem?_eq_none (by rw [recs_length]; omega)]
end
def evsOf (b : Bt) : List Ev := (if b.begins then [⟨b.thread, true, b.kind, b.key, b.val, b.tall, 0, 0⟩] else []) ++ if b.ends then [⟨b.thread, false, 0, 0, 0, 0, b.code, b.ans⟩] else []
theorem evsOf_len (b : Bt) : (evsOf b).length ≤ 2 := by
  unfold evsOf
  cases b.begins <;> cases b.ends <;> simp
theorem flat_len (l : List Bt) : (l.flatMap evsOf).length ≤ 2 * l.length := by
  induction l with
  | nil => simp
  | cons x r ih =>
    have := evsOf_len x
    simp only [List.flatMap_cons, List.length_append, List.length_cons]
    omega
theorem nilOb {ρ : Env} {b : Nat} (h : OkSl ρ b) : (BE.or (.not (.var b)) (.ieq (.var (b + 1)) (.lit 0))).den ρ = true := by
  have h1 := h.1
  simp only [BE.den, IE.den, Bool.or_eq_true, Bool.not_eq_true', beq_iff_eq]
  cases hb : ρ.bv b
  · exact .inl rfl
  · exact .inr (h1 hb)
/-- a slice that holds something is not nil -/
theorem nilLt {ρ : Env} {b : Nat} (h : OkSl ρ b) (h2 : 0 < ρ.iv (b + 1)) : (BE.not (.var b)).den ρ = true := by
  have h1 := h.1
  simp only [BE.den, Bool.not_eq_true']
  cases hb : ρ.bv b
  · rfl
  · have := h1 hb
    omega
end Go.Proofs.YtjhnfmfajbghbaaDoor
