/- Rex, part R: arguments as symbolic values. -/
import Derived.Test.YthomdlajobnmnaaDoorRexQ
set_option linter.unusedSimpArgs false
set_option linter.unusedVariables false
namespace Go.Rex
open Go.WideShapes Go.ChangeShapes Go.RowKit

def mkC : List FK → Nat → Nat → List SC × List SB × Nat
 | [], nv, _ => ([], [], nv)
 | .int k :: r, nv, nb => let x := mkC r (nv + 1) nb; (.int k (.var nv) :: x.1, x.2.1, x.2.2)
 | .bool :: r, nv, nb => let x := mkC r (nv + 1) nb; (.bool (.var nv) :: x.1, x.2.1, x.2.2)
 | .sl e ks :: r, nv, nb =>
  let x := mkC r (nv + 4) (nb + 1)
  (.sln (.var nv) { blk := nb, i1 := .lit 0, s1 := ks.length } (.var (nv + 1)) (.var (nv + 2)) :: x.1,
   { t := e, segs := [{ r := nv + 3, n1 := .var (nv + 1), s1 := ks.length, ks := ks }], ro := true, nl := .var nv } :: x.2.1, x.2.2)
def KdRange (ρ : Env) (r : Nat) (n : Int) (ks : List Kd) : Prop := ∀ (i j : Nat) (k : IntKind), (i : Int) < n → ks[j]? = some (.int k) → k.min ≤ ρ.ic r i 0 j ∧ ρ.ic r i 0 j ≤ k.max
def preC : List FK → Nat → Env → Prop
 | [], _, _ => True
 | .int k :: r, nv, ρ => (k.min ≤ ρ.iv nv ∧ ρ.iv nv ≤ k.max) ∧ preC r (nv + 1) ρ
 | .bool :: r, nv, ρ => preC r (nv + 1) ρ
 | .sl _ ks :: r, nv, ρ => ((ρ.bv nv = true → ρ.iv (nv + 1) = 0 ∧ ρ.iv (nv + 2) = 0) ∧ 0 ≤ ρ.iv (nv + 1) ∧ ρ.iv (nv + 1) ≤ ρ.iv (nv + 2) ∧ ρ.iv (nv + 2) ≤ 9223372036854775807 ∧ KdRange ρ (nv + 3) (ρ.iv (nv + 1)) ks) ∧ preC r (nv + 4) ρ
theorem preC_num : ∀ {l : List FK} {nv : Nat} {ρ : Env}, preC l nv ρ → preC l nv ρ.num
 | [], _, _, _ => trivial
 | .int _ :: _, _, _, h => ⟨h.1, preC_num h.2⟩
 | .bool :: r, _, _, h => preC_num (l := r) h
 | .sl _ _ :: _, _, _, h => ⟨h.1, preC_num h.2⟩
def intOfV : Value → Int
 | .int _ n => n
 | _ => 0
def boolOfV : Value → Bool
 | .bool b => b
 | _ => false
def BlkOK (ρ : Env) (ν : Nat → Addr) (w : World) (k : Nat) (sb : SB) : Prop :=
 (sb.ro = true ∧ sb.own = false) ∧ (sb.dead ρ = false → Lies sb w (ν k).block ∧ ∃ arr : Array Value, sb.has ρ ν arr ∧ ∀ p v, arr[p]? = some v → w.cell? ((ν k).add p) = some v)
theorem mkC_ok {w : World} : ∀ {cs : List Value} {l : List FK}, FitCs w cs l → (∀ (a : Addr) (len cap : Nat), Value.slice (some a) len cap ∈ cs → a.block < w.heap.size) → ∀ (nv nb : Nat) (ρ : Env) (ν : Nat → Addr),
  ∃ ρ' ν', Agr nv nb ρ ρ' ν ν' ∧ (mkC l nv nb).1.map (·.den ρ' ν') = cs ∧ (∀ (i : Nat) (sb : SB), (mkC l nv nb).2.1[i]? = some sb → BlkOK ρ' ν' w (nb + i) sb) ∧ preC l nv ρ'
 | [], [], _, _, nv, nb, ρ, ν => ⟨ρ, ν, Agr.refl _ _ _ _, rfl, fun i sb h => by simp [mkC] at h, trivial⟩
 | [], _ :: _, h, _, _, _, _, _ => h.elim
 | _ :: _, [], h, _, _, _, _, _ => h.elim
 | c :: r, .int k :: s, h, hb, nv, nb, ρ, ν => by
  obtain ⟨⟨n, rfl, h1, h2⟩, h3⟩ := h
  obtain ⟨ρ', ν', hA, hc, hB, hp⟩ := mkC_ok h3 (fun a len cap hm => hb a len cap (List.mem_cons_of_mem _ hm)) (nv + 1) nb { ρ with iv := fun i => if i = nv then n else ρ.iv i } ν
  have e : ρ'.iv nv = n := by rw [hA.iv nv (by omega)]; simp
  refine ⟨ρ', ν', ⟨fun i hi => ?_, fun i hi => hA.bv i (by omega), fun i hi => hA.vv i (by omega), fun i hi => hA.ic i (by omega), fun i hi => hA.bc i (by omega), fun i hi => hA.vc i (by omega), hA.bl⟩, ?_, hB, ⟨by rw [e]; exact ⟨h1, h2⟩, hp⟩⟩
  ·rw [hA.iv i (by omega)]; simp [show i ≠ nv by omega]
  ·simp only [mkC, List.map_cons, SC.den, IE.den, e, hc]
 | c :: r, .bool :: s, h, hb, nv, nb, ρ, ν => by
  obtain ⟨⟨b, rfl⟩, h3⟩ := h
  obtain ⟨ρ', ν', hA, hc, hB, hp⟩ := mkC_ok h3 (fun a len cap hm => hb a len cap (List.mem_cons_of_mem _ hm)) (nv + 1) nb { ρ with bv := fun i => if i = nv then b else ρ.bv i } ν
  have e : ρ'.bv nv = b := by rw [hA.bv nv (by omega)]; simp
  refine ⟨ρ', ν', ⟨fun i hi => hA.iv i (by omega), fun i hi => ?_, fun i hi => hA.vv i (by omega), fun i hi => hA.ic i (by omega), fun i hi => hA.bc i (by omega), fun i hi => hA.vc i (by omega), hA.bl⟩, ?_, hB, hp⟩
  ·rw [hA.bv i (by omega)]; simp [show i ≠ nv by omega]
  ·simp only [mkC, List.map_cons, SC.den, BE.den, e, hc]
 | c :: r, .sl el ks :: s, h, hb, nv, nb, ρ, ν => by
  obtain ⟨hc0, h3⟩ := h
  -- the variables of this one
  obtain ⟨bn, len, cap, f, a, hcv, hnil, hlc, hcm, hcell, hblk⟩ : ∃ (bn : Bool) (len cap : Nat) (f : Nat → Nat → Value) (a : Addr), c = (if bn = true then .slice none 0 0 else .slice (some a) len cap) ∧ (bn = true → len = 0 ∧ cap = 0) ∧ len ≤ cap ∧ cap ≤ maxLen ∧
    (bn = false → ∀ i j k, i < len → ks[j]? = some k → w.cell? (a.add (i * ks.length + j)) = some (f i j) ∧ FitKd (f i j) k) ∧ (bn = false → a.block < w.heap.size) := by
   rcases hc0 with rfl | ⟨a, len, cap, rfl, h1, h2, h4⟩
   ·exact ⟨true, 0, 0, fun _ _ => undef, ⟨0, 0, none⟩, by simp, fun _ => ⟨rfl, rfl⟩, Nat.le_refl _, Nat.zero_le _, (fun h => by cases h), (fun h => by cases h)⟩
   ·refine ⟨false, len, cap, fun i j => (w.cell? (a.add (i * ks.length + j))).getD undef, a, by simp, (fun h => by cases h), h1, h2, fun _ i j k hi hj => ?_, fun _ => hb a len cap (List.mem_cons_self ..)⟩
    obtain ⟨u, hu1, hu2⟩ := h4 i j k hi hj
    have e : (w.cell? (a.add (i * ks.length + j))).getD undef = u := by rw [hu1]; rfl
    simp only [e]
    exact ⟨hu1, hu2⟩
  obtain ⟨ρ', ν', hA, hc, hB, hp⟩ := mkC_ok h3 (fun a len cap hm => hb a len cap (List.mem_cons_of_mem _ hm)) (nv + 4) (nb + 1)
   { ρ with iv := fun i => if i = nv + 1 then (len : Int) else if i = nv + 2 then (cap : Int) else ρ.iv i, bv := fun i => if i = nv then bn else ρ.bv i,
            ic := fun x => if x = nv + 3 then fun i _ j => intOfV (f i j) else ρ.ic x, bc := fun x => if x = nv + 3 then fun i _ j => boolOfV (f i j) else ρ.bc x }
   (fun k => if k = nb then a else ν k)
  have e0 : ρ'.bv nv = bn := by rw [hA.bv nv (by omega)]; simp
  have e1 : ρ'.iv (nv + 1) = (len : Int) := by rw [hA.iv (nv + 1) (by omega)]; simp
  have e2 : ρ'.iv (nv + 2) = (cap : Int) := by rw [hA.iv (nv + 2) (by omega)]; simp
  have e3 : ρ'.ic (nv + 3) = fun i _ j => intOfV (f i j) := by rw [hA.ic (nv + 3) (by omega)]; simp
  have e4 : ρ'.bc (nv + 3) = fun i _ j => boolOfV (f i j) := by rw [hA.bc (nv + 3) (by omega)]; simp
  have e5 : ν' nb = a := by rw [hA.bl nb (by omega)]; simp
  refine ⟨ρ', ν', ⟨fun i hi => ?_, fun i hi => ?_, fun i hi => hA.vv i (by omega), fun i hi => ?_, fun i hi => ?_, fun i hi => hA.vc i (by omega), fun i hi => ?_⟩, ?_, fun i sb hi => ?_, ⟨?_, hp⟩⟩
  ·rw [hA.iv i (by omega)]; simp [show i ≠ nv + 1 by omega, show i ≠ nv + 2 by omega]
  ·rw [hA.bv i (by omega)]; simp [show i ≠ nv by omega]
  ·rw [hA.ic i (by omega)]; simp [show i ≠ nv + 3 by omega]
  ·rw [hA.bc i (by omega)]; simp [show i ≠ nv + 3 by omega]
  ·rw [hA.bl i (by omega)]; simp [show i ≠ nb by omega]
  ·simp only [mkC, List.map_cons, hc]
   congr 1
   rw [hcv]
   simp only [SC.den, BE.den, IE.den, SA.den, SA.off, e0, e1, e2, e5, Int.toNat_natCast]
   simp [Addr.add_zero]
  ·cases i with
   | succ i =>
    have := hB i sb (by simpa [mkC] using hi)
    rw [show nb + (i + 1) = nb + 1 + i by omega]
    exact this
   | zero =>
    simp [mkC] at hi
    subst hi
    refine ⟨⟨rfl, rfl⟩, fun hd => ?_⟩
    have hbn : bn = false := by simpa [SB.dead, BE.den, e0] using hd
    rw [show nb + 0 = nb from rfl, e5]
    refine ⟨⟨hblk hbn, fun h => (by cases h)⟩, ((List.range (len * ks.length)).map fun p => f (p / ks.length) (p % ks.length)).toArray, ⟨fun u hu => (by cases hu), fun h => (by cases h), fun _ _ h => (by cases h), fun p c hp => (by simp at hp), fun gi g hg i1 i2 j h1 h2 h3 => ?_⟩, fun p v hp => ?_⟩
    ·cases gi with
     | succ gi => simp at hg
     | zero =>
      simp at hg
      subst hg
      simp only [IE.den, e1] at h1 h2 h3 ⊢
      have hi2 : i2 = 0 := by omega
      subst hi2
      obtain ⟨k, hk⟩ : ∃ k, ks[j]? = some k := ⟨_, List.getElem?_eq_getElem h3⟩
      have hlt : i1 * ks.length + j < len * ks.length := by
       have : (i1 + 1) * ks.length ≤ len * ks.length := Nat.mul_le_mul_right _ (by omega)
       rw [Nat.add_mul] at this
       omega
      obtain ⟨-, hfit⟩ := hcell hbn i1 j k (by omega) hk
      have q1 : (i1 * ks.length + j) / ks.length = i1 := by rw [Nat.mul_comm, Nat.mul_add_div (by omega), Nat.div_eq_of_lt h3, Nat.add_zero]
      have q2 : (i1 * ks.length + j) % ks.length = j := by rw [Nat.mul_comm, Nat.mul_add_mod, Nat.mod_eq_of_lt h3]
      rw [show i1 * ks.length + 0 * 0 + 0 + j = i1 * ks.length + j by omega]
      simp only [upsVal, List.getElem?_toArray, List.getElem?_map, List.getElem?_range hlt, Option.map_some, q1, q2, Option.some.injEq]
      rw [Seg.base_kd _ rfl]
      simp only [hk, e3, e4]
      cases k with
      | int kk => obtain ⟨n, hn, -⟩ := hfit; rw [hn]; rfl
      | bool => obtain ⟨b, hn⟩ := hfit; rw [hn]; rfl
      | val => exact hfit.elim
    ·simp only [List.getElem?_toArray, List.getElem?_map, Option.map_eq_some_iff] at hp
     obtain ⟨q, hq, rfl⟩ := hp
     have hql := (List.getElem?_eq_some_iff.1 hq).1
     rw [List.length_range] at hql
     rw [List.getElem?_range hql] at hq
     simp at hq
     subst hq
     have hs : 0 < ks.length := by
      rcases Nat.eq_zero_or_pos ks.length with h0 | h0
      ·rw [h0] at hql; omega
      ·exact h0
     have hj : p % ks.length < ks.length := Nat.mod_lt _ hs
     obtain ⟨k, hk⟩ : ∃ k, ks[p % ks.length]? = some k := ⟨_, List.getElem?_eq_getElem hj⟩
     obtain ⟨q1, -⟩ := hcell hbn (p / ks.length) (p % ks.length) k ((Nat.div_lt_iff_lt_mul hs).2 hql) hk
     rw [show p / ks.length * ks.length + p % ks.length = p by rw [Nat.mul_comm]; exact Nat.div_add_mod p ks.length] at q1
     exact q1
  ·refine ⟨fun h => ?_, by rw [e1]; omega, by rw [e1, e2]; omega, by rw [e2]; simp only [maxLen] at hcm; omega, fun i j k hi hj => ?_⟩
   ·obtain ⟨q1, q2⟩ := hnil (by rw [← e0]; exact h)
    rw [e1, e2, q1, q2]; exact ⟨rfl, rfl⟩
   ·rw [e1] at hi
    cases hbn : bn with
    | true =>
     obtain ⟨q1, -⟩ := hnil hbn
     omega
    | false =>
     obtain ⟨-, hfit⟩ := hcell hbn i j _ (by omega) hj
     obtain ⟨n, hn, h5, h6⟩ := hfit
     rw [e3]
     simp only [hn, intOfV]
     exact ⟨h5, h6⟩
def argsOf : List (Bool × Nat) → List SC → List SW
 | [], _ => []
 | (g, n) :: r, cs => (if g then .agg (cs.take n) else .one (cs.headD .hole)) :: argsOf r (cs.drop n)
theorem argsOf_den {ρ : Env} {ν : Nat → Addr} : ∀ {vs : List Value} {sh : List (Bool × Nat)} {cs : List SC}, vs.length = sh.length →
  (∀ (i : Nat) (v : Value) (g : Bool) (n : Nat), vs[i]? = some v → sh[i]? = some (g, n) → v.cells.size = n ∧ (if g then v = .agg v.cells else v.cells = #[v])) →
  cs.map (·.den ρ ν) = vs.flatMap (fun v => v.cells.toList) → (argsOf sh cs).map (·.den ρ ν) = vs
 | [], [], cs, _, _, _ => by simp [argsOf]
 | [], _ :: _, _, h, _, _ => by simp at h
 | _ :: _, [], _, h, _, _ => by simp at h
 | v :: r, (g, n) :: s, cs, hl, hv, hc => by
  obtain ⟨h1, h2⟩ := hv 0 v g n rfl rfl
  have h3 : (cs.take n).map (·.den ρ ν) = v.cells.toList := by
   rw [List.map_take, hc, List.flatMap_cons, ← h1, ← Array.length_toList, List.take_left]
  have h4 : (cs.drop n).map (·.den ρ ν) = r.flatMap (fun v => v.cells.toList) := by
   rw [List.map_drop, hc, List.flatMap_cons, ← h1, ← Array.length_toList, List.drop_left]
  have ih := argsOf_den (vs := r) (sh := s) (cs := cs.drop n) (by simpa using hl) (fun i v' g' n' hi hs => hv (i + 1) v' g' n' (by simpa using hi) (by simpa using hs)) h4
  simp only [argsOf, List.map_cons, ih]
  congr 1
  cases g with
  | true =>
   simp only [if_true] at h2 ⊢
   simp only [SW.den, h3]
   exact h2.symm
  | false =>
   simp only [Bool.false_eq_true, if_false] at h2 ⊢
   rw [h2] at h3 h1
   have hn : n = 1 := by simpa using h1.symm
   subst hn
   cases cs with
   | nil => simp at h3
   | cons c q =>
    simp at h3
    simp only [SW.den, List.headD_cons, h3]
end Go.Rex
