/- the contracts that the laws lean on, together; what is known of arguments; plain facts of lists -/
import Derived.Test.YtniacabgcjccdaaSlots
import Derived.Test.YtniacabgcjccdaaEras
import Derived.Test.YtniacabgcjccdaaSpans
import Derived.Test.YtniacabgcjccdaaEpochs
import Derived.Test.YtniacabgcjccdaaSame
set_option linter.unusedSimpArgs false
set_option linter.unusedVariables false
namespace Go.Proofs.Ytniacabgcjccdaa
open Go.Rex
def lawSem : CSem := [(awakeCon, yesPre, yesPre), (slotsCon, slotsPre, slotsPost), (erasCon, erasPre, erasPost), (spansCon, spansPre, spansPost), (epochsCon, epochsPre, epochsPost), (countCon, countPre, countPost), (inCon, twoPre, inPost), (sameCon, twoPre, samePost)]
theorem lawSem_ok {P : Program} (hT : TabOK P tab) : ∀ k pre post, (k, pre, post) ∈ lawSem → conWf k = true ∧ ConOK P k pre post := by
  intro k pre post h
  simp only [lawSem, List.mem_cons, List.not_mem_nil, or_false, Prod.mk.injEq] at h
  rcases h with ⟨rfl, rfl, rfl⟩ | ⟨rfl, rfl, rfl⟩ | ⟨rfl, rfl, rfl⟩ | ⟨rfl, rfl, rfl⟩ | ⟨rfl, rfl, rfl⟩ | ⟨rfl, rfl, rfl⟩ | ⟨rfl, rfl, rfl⟩ | ⟨rfl, rfl, rfl⟩
  · exact ⟨by kernel_rfl, awake_con hT⟩
  · exact ⟨by kernel_rfl, slots_con hT⟩
  · exact ⟨by kernel_rfl, eras_con hT⟩
  · exact ⟨by kernel_rfl, spans_con hT⟩
  · exact ⟨by kernel_rfl, epochs_con hT⟩
  · exact ⟨by kernel_rfl, count_con hT⟩
  · exact ⟨by kernel_rfl, in_con hT⟩
  · exact ⟨by kernel_rfl, same_con hT⟩
theorem okSl_of {ρ : Env} {b : Nat} {R : Prop} (h : (ρ.bv b = true → ρ.iv (b + 1) = 0 ∧ ρ.iv (b + 2) = 0) ∧ 0 ≤ ρ.iv (b + 1) ∧ ρ.iv (b + 1) ≤ ρ.iv (b + 2) ∧ ρ.iv (b + 2) ≤ 9223372036854775807 ∧ R) : OkSl ρ b :=
  ⟨fun hb => (h.1 hb).1, h.2.1, h.2.2.1, h.2.2.2.1⟩
/-- a slice that holds something is not nil -/
theorem nilLt {ρ : Env} {b : Nat} (h : OkSl ρ b) (h2 : 0 < ρ.iv (b + 1)) : (BE.not (.var b)).den ρ = true := by
  simp only [D.le, D.lef, D.lt, D.ltf, D.eq, D.eqf, D.not, D.notf, D.and, D.andf, D.or, D.orf, D.inr, D.var, D.lit, D.cellB, D.beq, D.beqf, D.litI, D.varI, D.add, D.sub, D.mul, D.min, D.max, D.cellI, D.i64min, D.i64max]
  cases hb : ρ.bv b
  · rfl
  · have := h.1 hb
    omega
theorem filter_parts (K : Note → Bool) : ∀ l : List Note, (l.filter (fun n => !K n)).length + (l.filter K).length = l.length
  | [] => rfl
  | x :: r => by
    have := filter_parts K r
    cases h : K x <;> simp [h] <;> omega
theorem count_filter_if (K : Note → Bool) (x : Note) (l : List Note) : (l.filter K).count x = if K x = true then l.count x else 0 := by
  split
  · rename_i h
    exact List.count_filter h
  · rename_i h
    exact List.count_eq_zero.2 fun hm => h (List.mem_filter.1 hm).2
theorem annI_same {ρ ρ' : Env} {b b' : Nat} (h1 : ρ'.iv (b' + 1) = ρ.iv (b + 1)) (h2 : ∀ i, ρ'.ic (b' + 3) i 0 0 = ρ.ic (b + 3) i 0 0) : annI ρ' b' = annI ρ b := by
  unfold annI
  rw [h1, range_map_congr fun i _ => h2 i]
theorem annP_same {ρ ρ' : Env} {b b' : Nat} (h1 : ρ'.iv (b' + 1) = ρ.iv (b + 1)) (h2 : ∀ i j, ρ'.ic (b' + 3) i 0 j = ρ.ic (b + 3) i 0 j ∧ ρ'.bc (b' + 3) i 0 j = ρ.bc (b + 3) i 0 j) : annP ρ' b' = annP ρ b := by
  unfold annP
  rw [h1, range_map_congr fun i _ => by rw [(h2 i 0).2, (h2 i 1).1, (h2 i 2).1]]
/-- one list behind another -/
theorem annI_cat {ρ' ρ : Env} {b' b c : Nat} (h0 : 0 ≤ ρ.iv (b + 1)) (h0' : 0 ≤ ρ.iv (c + 1)) (h1 : ρ'.iv (b' + 1) = ρ.iv (b + 1) + ρ.iv (c + 1)) (h2 : ∀ i : Nat, (i : Int) < ρ.iv (b + 1) → ρ'.ic (b' + 3) i 0 0 = ρ.ic (b + 3) i 0 0)
    (h3 : ∀ i : Nat, (i : Int) < ρ.iv (c + 1) → ρ'.ic (b' + 3) ((ρ.iv (b + 1)).toNat + i) 0 0 = ρ.ic (c + 3) i 0 0) : annI ρ' b' = annI ρ b ++ annI ρ c := by
  unfold annI
  rw [h1, show (ρ.iv (b + 1) + ρ.iv (c + 1)).toNat = (ρ.iv (b + 1)).toNat + (ρ.iv (c + 1)).toNat by omega, List.range_add, List.map_append, List.map_map, range_map_congr fun i hi => h2 i (by omega)]
  exact congrArg _ (range_map_congr fun i hi => h3 i (by omega))
theorem annP_cat {ρ' ρ : Env} {b' b c : Nat} (h0 : 0 ≤ ρ.iv (b + 1)) (h0' : 0 ≤ ρ.iv (c + 1)) (h1 : ρ'.iv (b' + 1) = ρ.iv (b + 1) + ρ.iv (c + 1)) (h2 : ∀ i j : Nat, (i : Int) < ρ.iv (b + 1) → ρ'.ic (b' + 3) i 0 j = ρ.ic (b + 3) i 0 j ∧ ρ'.bc (b' + 3) i 0 j = ρ.bc (b + 3) i 0 j)
    (h3 : ∀ i j : Nat, (i : Int) < ρ.iv (c + 1) → ρ'.ic (b' + 3) ((ρ.iv (b + 1)).toNat + i) 0 j = ρ.ic (c + 3) i 0 j ∧ ρ'.bc (b' + 3) ((ρ.iv (b + 1)).toNat + i) 0 j = ρ.bc (c + 3) i 0 j) : annP ρ' b' = annP ρ b ++ annP ρ c := by
  unfold annP
  rw [h1, show (ρ.iv (b + 1) + ρ.iv (c + 1)).toNat = (ρ.iv (b + 1)).toNat + (ρ.iv (c + 1)).toNat by omega, List.range_add, List.map_append, List.map_map, range_map_congr fun i hi => by rw [(h2 i 0 (by omega)).2, (h2 i 1 (by omega)).1, (h2 i 2 (by omega)).1]]
  exact congrArg _ (range_map_congr fun i hi => by simp only [Function.comp]; rw [(h3 i 0 (by omega)).2, (h3 i 1 (by omega)).1, (h3 i 2 (by omega)).1])
/-- what may be freed of the list at a lies at b -/
def Res (ρ : Env) (a b : Nat) (K : Note → Bool) : Prop := OkSl ρ b ∧ notes ρ b = (notes ρ a).filter (fun n => !K n)
theorem res_eq {K K' : Note → Bool} {l l' : List Note} (hK : K = K') (hl : l = l') : l.filter (fun n => !K n) = l'.filter (fun n => !K' n) := by rw [hK, hl]
theorem Res.len {ρ : Env} {a b : Nat} {K : Note → Bool} (h : Res ρ a b K) (h0 : 0 ≤ ρ.iv (a + 1)) : ρ.iv (b + 1) ≤ ρ.iv (a + 1) := by
  have e := congrArg List.length h.2
  have h2 := List.length_filter_le (fun n => !K n) (notes ρ a)
  have h3 := h.1.2.1
  rw [notes_length] at e h2
  omega
theorem Res.all {ρ : Env} {a b : Nat} {K : Note → Bool} (h : Res ρ a b K) (hK : ∀ n, K n = false) : notes ρ b = notes ρ a := by
  rw [h.2]
  exact List.filter_eq_self.2 fun n _ => by simp [hK n]
theorem in_use {X q : Env} {a b l : Nat} {K K' : Note → Bool} (h : inPost X) (e1 : notes X 0 = notes q a) (e2 : notes X 4 = notes q b) (ha : Res q l a K') (hb : Res q l b K) (hs : ∀ n, K n = true → K' n = true) : X.bv 8 = true := by
  refine h fun x _ => ?_
  rw [e1, e2, ha.2, hb.2, count_filter_if (fun n => !K' n), count_filter_if (fun n => !K n)]
  have := hs x
  cases h1 : K x <;> cases h2 : K' x <;> simp_all
theorem same_use {X q : Env} {a b : Nat} (h : samePost X) (e1 : notes X 0 = notes q a) (e2 : notes X 4 = notes q b) (hs : notes q a = notes q b) : X.bv 8 = true := h (by rw [e1, e2, hs])
end Go.Proofs.Ytniacabgcjccdaa
