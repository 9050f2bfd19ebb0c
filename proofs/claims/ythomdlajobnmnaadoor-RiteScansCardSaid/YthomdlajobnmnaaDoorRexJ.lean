/- Rex, part J: 'append'. -/
import Derived.Test.YthomdlajobnmnaaDoorRexI
set_option linter.unusedSimpArgs false
set_option linter.unusedVariables false
namespace Go.Rex

theorem kdVal_one (k : Option Kd) (i : Int) (b : Bool) (v : Value) : (kdVal k i b v).oneCell' = true := by
 unfold kdVal
 split
 ·rfl
 ·rfl
 ·exact one1_one v
theorem anyHole_ok : ∀ {l : List SC}, anyHole l = false → ∀ c ∈ l, c.isHole = false
 | [], _, c, h => by cases h
 | d :: r, h, c, hc => by
  simp only [anyHole, Bool.or_eq_false_iff] at h
  rcases List.mem_cons.1 hc with rfl | hc
  ·exact h.1
  ·exact anyHole_ok h.2 c hc
section
variable {ρ : Env} {ν : Nat → Addr}
theorem mulS_den (a b : IE) : (a.mulS b).den ρ = a.den ρ * b.den ρ := by
 unfold IE.mulS
 split
 ·rename_i h1 h2; simp [IE.lit?_ok h1, IE.lit?_ok h2, IE.den]
 ·rfl
structure RowIs (ρ : Env) (ν : Nat → Addr) (ks : List Kd) (size n : Nat) (xs : List Value) (cv : CV) : Prop where
 len : xs.length = n * size
 at_ : ∀ i j, i < n → j < size → xs[i * size + j]? = some (kdVal ks[j]? (cv.I ρ i 0 j) (cv.B ρ i 0 j) (cv.V ρ ν i 0 j))
structure Dst (ρ : Env) (ν : Nat → Addr) (w : World) (hp : List SB) (te : TI) (e : TypeId) (b : Option Nat) (c : BE) (v0 : Value) (n : Nat) (xs : List Value) : Prop where
 own : w.ownsRow 0 e te.size v0 n xs
 nil : c.den ρ = true ↔ v0 = .slice none 0 0
 blk : v0.ownBlock = none ∨ ∃ k sb0, b = some k ∧ v0.ownBlock = some (ν k).block ∧ hp[k]? = some sb0 ∧ sb0.dead ρ = false ∧ sb0.ro = false ∧ sb0.own = true
def OldIs (ρ : Env) (ν : Nat → Addr) (size n : Nat) (xs : List Value) : Old → Prop
 | .cells cs => cs.length = n * size ∧ ∀ (p : Nat) (c : SC), cs[p]? = some c → c.isHole = false → xs[p]? = some (c.den ρ ν)
 | .seg g us => g.s1 = size ∧ g.n2 = 1 ∧ g.s2 = 0 ∧ g.lo = 0 ∧ g.ks.length = size ∧ (∀ u ∈ us, 0 ≤ u.i1.den ρ ∧ 0 ≤ u.i2.den ρ) ∧ ∀ i j, i < n → j < size → xs[i * size + j]? = some (upsVal ρ ν us 0 i 0 j (g.base ρ i 0 j))
theorem oldRow_ok {w : World} {hp : List SB} (hh : HpOK ρ ν hp w) {te : TI} {e : TypeId} {c : BE} {a : SA} {len cap : IE} {os0 : List BE} {b : Option Nat} {c' : BE} {len' : IE} {old : Old} {os : List BE}
  (h : oldRow te e hp c a len cap os0 = some (b, c', len', old, os)) (ho : ∀ o ∈ os, o.den ρ = true) :
  c' = c ∧ len' = len ∧ (∀ o ∈ os0, o.den ρ = true) ∧ (c.den ρ = true → len.den ρ = 0 → OldIs ρ ν te.size 0 [] old) ∧
  (c.den ρ = false → ∃ n xs, Dst ρ ν w hp te e b c (SC.den ρ ν (.sl a len cap)) n xs ∧ len.den ρ = (n : Int) ∧ OldIs ρ ν te.size n xs old) := by
 unfold oldRow at h
 split at h
 case h_2 => cases h
 rename_i sb0 hsb0
 split at h
 ·cases h
 rename_i hc
 simp only [Bool.or_eq_true, Bool.not_eq_true', not_or, Bool.not_eq_true, beq_eq_false_iff_ne, ne_eq, Decidable.not_not, Bool.not_eq_false] at hc
 obtain ⟨⟨⟨⟨⟨⟨⟨d1, d0⟩, d2⟩, d3⟩, d4⟩, d5⟩, d6⟩, d7⟩ := hc
 have d7' := BE.same_eq d7
 have ha := SA.base_ok (ρ := ρ) d6
 obtain ⟨ce, cn, hce, e1, e2⟩ : ∃ ce cn, sb0.cap = some (ce, cn) ∧ ce.same cap = true ∧ cn = te.size := by
  unfold capIs at d5
  split at d5
  ·rename_i c n hc
   exact ⟨c, n, hc, by simpa using d5⟩
  ·cases d5
 have ecap := IE.same_eq e1
 have base : ∀ (os' : List BE), (∀ o ∈ (BE.ile (.lit 0) len :: .ile len cap :: .ile cap (.lit 9223372036854775807) :: os0), o.den ρ = true) → 0 ≤ len.den ρ ∧ len.den ρ ≤ cap.den ρ ∧ cap.den ρ ≤ 9223372036854775807 ∧ ∀ o ∈ os0, o.den ρ = true := by
  intro _ hq
  have a1 := of_decide_eq_true (hq _ (by simp) : BE.den ρ (.ile (.lit 0) len) = true)
  have a2 := of_decide_eq_true (hq _ (by simp) : BE.den ρ (.ile len cap) = true)
  have a3 := of_decide_eq_true (hq _ (by simp) : BE.den ρ (.ile cap (.lit 9223372036854775807)) = true)
  exact ⟨a1, a2, a3, fun o hm => hq o (by simp [hm])⟩
 -- when it is not nil
 have live : 0 ≤ len.den ρ → len.den ρ ≤ cap.den ρ → cap.den ρ ≤ 9223372036854775807 → c.den ρ = false → ∃ arr : Array Value, sb0.has ρ ν arr ∧
   Dst ρ ν w hp te e (some a.blk) c (SC.den ρ ν (.sl a len cap)) (len.den ρ).toNat (arr.toList.take ((len.den ρ).toNat * te.size)) ∧ (arr.toList.take ((len.den ρ).toNat * te.size)).length = (len.den ρ).toNat * te.size := by
  intro b1 b2 b3 hcf
  have hd : sb0.dead ρ = false := by simp [SB.dead, d1, d7', hcf]
  obtain ⟨hz, arr, harr, hhas⟩ := hh.blk _ _ hsb0 hd d2
  replace harr := harr.cells d0
  rw [d4] at harr
  obtain ⟨k1, k2⟩ := hhas.cap _ _ hce
  rw [ecap] at k1 k2
  rw [e2] at k2
  have hLc : (len.den ρ).toNat ≤ (cap.den ρ).toNat := by omega
  have hle : (len.den ρ).toNat * te.size ≤ arr.size := by rw [k2]; exact Nat.mul_le_mul_right _ hLc
  have hl : (arr.toList.take ((len.den ρ).toNat * te.size)).length = (len.den ρ).toNat * te.size := by rw [List.length_take, Array.length_toList, Nat.min_eq_left hle]
  have hdst : SC.den ρ ν (.sl a len cap) = .slice (some ⟨(ν a.blk).block, 0, none⟩) (len.den ρ).toNat (cap.den ρ).toNat := by
   simp only [SC.den, SA.den, ha, Addr.add_zero]
   rw [← hz]
  refine ⟨arr, hhas, ⟨⟨hl, .inr ⟨(ν a.blk).block, (cap.den ρ).toNat, arr, hdst, Nat.zero_le _, harr, hLc, by simp only [maxLen]; omega, k2, rfl⟩⟩, ?_, ?_⟩, hl⟩
  ·rw [hcf, hdst]; simp
  ·exact .inr ⟨a.blk, sb0, rfl, by rw [hdst]; rfl, hsb0, hd, d2, by simpa using d3⟩
 simp only at h
 split at h
 ·-- cells
  rename_i hseg
  split at h
  ·rename_i L hL
   split at h
   ·rename_i hLl
    simp only [decide_eq_true_eq] at hLl
    simp only [Option.some.injEq, Prod.mk.injEq] at h
    obtain ⟨rfl, rfl, rfl, rfl, rfl⟩ := h
    obtain ⟨b1, b2, b3, b4⟩ := base os0 ho
    have eL := IE.lit?_ok (ρ := ρ) hL
    refine ⟨rfl, rfl, b4, fun _ h0 => ?_, fun hcf => ?_⟩
    ·have : L.toNat = 0 := by rw [eL] at h0; omega
     simp [OldIs, this]
    ·obtain ⟨arr, hhas, hD, hl⟩ := live b1 b2 b3 hcf
     have eL' : (len.den ρ).toNat = L.toNat := by rw [eL]
     refine ⟨_, _, hD, by omega, ?_, fun p x hp hx => ?_⟩
     ·rw [List.length_take, Nat.min_eq_left hLl, eL']
     ·have hpl : p < L.toNat * te.size := by
       have := (List.getElem?_eq_some_iff.1 hp).1
       rw [List.length_take, Nat.min_eq_left hLl] at this
       exact this
      rw [List.getElem?_take_of_lt hpl] at hp
      rw [eL', List.getElem?_take_of_lt hpl]
      simpa using hhas.ex p x hp hx
   ·cases h
  ·cases h
 ·rename_i g hseg
  split at h
  ·rename_i hcond
   simp only [Bool.and_eq_true, beq_iff_eq, List.isEmpty_iff] at hcond
   obtain ⟨⟨⟨⟨⟨⟨q1, q3⟩, q4⟩, q5⟩, q6⟩, q7⟩, q8⟩ := hcond
   simp only [Option.some.injEq, Prod.mk.injEq] at h
   obtain ⟨rfl, rfl, rfl, rfl, rfl⟩ := h
   have hle := of_decide_eq_true (ho _ (by simp) : BE.den ρ (.ile len g.n1) = true)
   obtain ⟨b1, b2, b3, b4⟩ := base os0 (fun o hm => ho o (List.mem_cons_of_mem _ hm))
   refine ⟨rfl, rfl, b4, fun hct h0 => ?_, fun hcf => ?_⟩
   ·refine ⟨q3, q4, q5, q6, q7, ?_, fun i j hi => by omega⟩
    intro u hu
    simp only [Bool.or_eq_true, List.isEmpty_iff] at q8
    rcases q8 with q8 | q8
    ·rw [q8] at hu; cases hu
    ·rw [BE.same_eq q8] at hct; cases hct
   ·obtain ⟨arr, hhas, hD, hl⟩ := live b1 b2 b3 hcf
    refine ⟨_, _, hD, by omega, q3, q4, q5, q6, q7, hhas.un, fun i j hi hj => ?_⟩
    have hin : i * te.size + j < (len.den ρ).toNat * te.size := by
     have : (i + 1) * te.size ≤ (len.den ρ).toNat * te.size := Nat.mul_le_mul_right _ hi
     rw [Nat.add_mul] at this
     omega
    rw [List.getElem?_take_of_lt hin]
    have := hhas.sg 0 g (by rw [hseg]; rfl) i 0 j (by omega) (by omega) (by rw [q7]; exact hj)
    rw [q3, q5, q6, Nat.zero_mul] at this
    simpa using this
  ·cases h
 ·cases h
theorem toNat_addS {len : IE} (m : Nat) (h : 0 ≤ len.den ρ) : ((len.addS (.lit (m : Nat))).den ρ).toNat = (len.den ρ).toNat + m ∧ (len.addS (.lit (m : Nat))).den ρ = len.den ρ + m := by
 rw [IE.addS_den]
 simp only [IE.den]
 constructor
 ·omega
 ·trivial
theorem upsOf_un {len : IE} (h : 0 ≤ len.den ρ) (size : Nat) : ∀ (news : List SC) (p : Nat), ∀ u ∈ upsOf len news size p, 0 ≤ u.i1.den ρ ∧ 0 ≤ u.i2.den ρ
 | [], _, _, hu => by cases hu
 | c :: r, p, u, hu => by
  simp only [upsOf] at hu
  rcases List.mem_cons.1 hu with rfl | hu
  ·obtain ⟨-, h2⟩ := toNat_addS (len := len) (p / size) h
   simp only
   rw [h2]
   exact ⟨Int.add_nonneg h (Int.natCast_nonneg _), Int.le_refl 0⟩
  ·exact upsOf_un h size r (p + 1) u hu
theorem upsOf_old {len : IE} (h : 0 ≤ len.den ρ) {size i1 j : Nat} (us : List Up) (b : Value) (hi : i1 < (len.den ρ).toNat) : ∀ (news : List SC) (p : Nat),
  upsVal ρ ν (upsOf len news size p ++ us) 0 i1 0 j b = upsVal ρ ν us 0 i1 0 j b
 | [], _ => rfl
 | c :: r, p => by
  simp only [upsOf, List.cons_append, upsVal, (toNat_addS (len := len) (p / size) h).1]
  rw [if_neg (by rintro ⟨-, h1, -⟩; have := Nat.le_add_right (len.den ρ).toNat (p / size); omega)]
  exact upsOf_old h us b hi r (p + 1)
theorem upsOf_new {len : IE} (h : 0 ≤ len.den ρ) {size i j : Nat} (hj : j < size) (us : List Up) (b : Value) : ∀ (news : List SC) (p : Nat), p ≤ i * size + j → ∀ (c : SC),
  news[i * size + j - p]? = some c → upsVal ρ ν (upsOf len news size p ++ us) 0 ((len.den ρ).toNat + i) 0 j b = c.den ρ ν
 | [], _, _, c, hc => by simp at hc
 | d :: r, p, hp, c, hc => by
  simp only [upsOf, List.cons_append, upsVal, (toNat_addS (len := len) (p / size) h).1, IE.den]
  by_cases he : p = i * size + j
  ·subst he
   simp at hc
   subst hc
   have h1 : (i * size + j) / size = i := by rw [Nat.mul_comm, Nat.mul_add_div (by omega), Nat.div_eq_of_lt hj, Nat.add_zero]
   have h2 : (i * size + j) % size = j := by rw [Nat.mul_comm, Nat.mul_add_mod, Nat.mod_eq_of_lt hj]
   simp [h1, h2]
  ·rw [if_neg]
   ·refine upsOf_new h hj us b r (p + 1) (by omega) c ?_
    have : i * size + j - p = (i * size + j - (p + 1)) + 1 := by omega
    rw [this] at hc
    simpa using hc
   ·rintro ⟨-, h1, -, h2⟩
    apply he
    have := Nat.div_add_mod p size
    have h3 : p / size = i := by omega
    rw [h3, h2, Nat.mul_comm] at this
    exact this.symm

theorem oldOf_ok {w : World} {hp : List SB} (hh : HpOK ρ ν hp w) {te : TI} {e : TypeId} {dst : SV} {b : Option Nat} {c : BE} {len : IE} {old : Old} {os : List BE}
  (h : oldOf te e hp dst = some (b, c, len, old, os)) (ho : ∀ o ∈ os, o.den ρ = true) :
  ∃ n xs, Dst ρ ν w hp te e b c (dst.den ρ ν) n xs ∧ len.den ρ = (n : Int) ∧ OldIs ρ ν te.size n xs old := by
 unfold oldOf at h
 split at h
 ·simp only [Option.some.injEq, Prod.mk.injEq] at h
  obtain ⟨rfl, rfl, rfl, rfl, rfl⟩ := h
  exact ⟨0, [], ⟨World.ownsRow_nil w 0 e te.size, by simp [BE.den, SV.den, SW.den, SC.den], .inl rfl⟩, rfl, by simp, fun p c hp => by simp at hp⟩
 ·rename_i a l cap
  obtain ⟨rfl, rfl, -, -, h2⟩ := oldRow_ok (ν := ν) hh h ho
  exact h2 rfl
 ·rename_i c0 a l cap
  obtain ⟨rfl, rfl, h0, h1, h2⟩ := oldRow_ok (ν := ν) hh h ho
  cases hc : c.den ρ with
  | true =>
   have hl := nilOb_ok (h0 _ (List.mem_singleton.2 rfl)) hc
   refine ⟨0, [], ⟨?_, ?_, .inl ?_⟩, by rw [hl]; rfl, h1 hc hl⟩
   ·simp only [SV.den, SW.den, SC.den, hc, if_true]; exact World.ownsRow_nil w 0 e te.size
   ·simp [SV.den, SW.den, SC.den, hc]
   ·simp only [SV.den, SW.den, SC.den, hc, if_true]; rfl
  | false =>
   obtain ⟨n, xs, hD, hn, hO⟩ := h2 hc
   have e : SV.den ρ ν (.w (.one (.sln c a len cap))) = SC.den ρ ν (.sl a len cap) := by simp [SV.den, SW.den, SC.den, hc]
   exact ⟨n, xs, by rw [e]; exact hD, hn, hO⟩
 ·cases h
theorem fit_holes {ks : List Kd} {cs : List SC} {p : Nat} (h : fitAt cs ks p = true) {j : Nat} {k : Kd} (hj : ks[j]? = some k) : ∃ c, cs[p + j]? = some c ∧ kdFit k c = true ∧ c.isHole = false := by
 obtain ⟨c, hc, hk⟩ := fitAt_ok h j k hj
 refine ⟨c, hc, hk, ?_⟩
 cases k <;> cases c <;> simp_all [kdFit, SC.isHole]
theorem old_row {te : TI} {len : IE} {old : Old} {n : Nat} {xs : List Value} (hz : te.zero.length = te.size) (hn : len.den ρ = (n : Int)) (hl : xs.length = n * te.size) (hO : OldIs ρ ν te.size n xs old) (hf : fitOld te len old = true) :
  RowIs ρ ν (te.zero.map kdOf) te.size n xs (cvOld te old) := by
 refine ⟨hl, fun i j hi hj => ?_⟩
 obtain ⟨kj, hkj⟩ : ∃ k, (te.zero.map kdOf)[j]? = some k := ⟨_, List.getElem?_eq_getElem (by simpa [hz] using hj)⟩
 cases old with
 | cells cs =>
  obtain ⟨h1, h2⟩ := hO
  unfold fitOld at hf
  simp only at hf
  split at hf
  ·rename_i L hL
   rw [IE.lit?_ok hL] at hn
   have hfa := fitN2_ok (fitN1_ok hf i (by omega)) 0 (by omega)
   obtain ⟨c, hc, hk, hh⟩ := fit_holes hfa hkj
   have hpos : i * te.size + j = 0 + i * te.size + 0 * 0 + j := by omega
   rw [h2 (i * te.size + j) c (by rw [hpos]; exact hc) hh, hkj, fit_kd hk]
   have hgd : cs.getD (i * te.size + 0 * 0 + 0 + j) .hole = c := by
    rw [List.getD_eq_getElem?_getD, show i * te.size + 0 * 0 + 0 + j = 0 + i * te.size + 0 * 0 + j by omega, hc]; rfl
   simp only [cvOld, CV.I, CV.B, CV.V, hgd]
  ·cases hf
 | seg g us =>
  obtain ⟨h1, h2, h3, h4, h5, h6, h7⟩ := hO
  simp only [fitOld, Bool.and_eq_true] at hf
  have hks := kdsSame_eq hf.1
  rw [h7 i j hi hj, up_kd (by rw [h5]; exact hj) hf.2, hks]
  simp [cvOld, CV.I, CV.B, CV.V, IE.den]
theorem src_ok {w : World} {hp : List SB} (hh : HpOK ρ ν hp w) {te : TI} {c : BE} {a : SA} {n : IE} {cv : CV} {os : List BE} (hz : te.zero.length = te.size) (h : srcOf te hp c a n = some (cv, os)) (ho : ∀ o ∈ os, o.den ρ = true) :
  0 ≤ n.den ρ ∧ (c.den ρ = false → ∃ news : List Value, RowIs ρ ν (te.zero.map kdOf) te.size (n.den ρ).toNat news cv ∧ (∀ j u, news[j]? = some u → w.cell? ((a.den ρ ν).add j) = some u) ∧ ∀ u ∈ news, u.oneCell' = true) := by
 unfold srcOf at h
 split at h
 ·cases h
 rename_i sb hsb
 split at h
 ·cases h
 rename_i hc
 simp only [Bool.or_eq_true, Bool.not_eq_true', not_or, Bool.not_eq_true, Bool.not_eq_false] at hc
 obtain ⟨⟨⟨d1, d0⟩, d2⟩, d3⟩ := hc
 split at h
 case h_2 => cases h
 rename_i g hseg
 split at h
 case h_2 => cases h
 rename_i sh hsh
 split at h
 case isFalse => cases h
 rename_i hcond
 simp only [Bool.and_eq_true, beq_iff_eq] at hcond
 obtain ⟨⟨⟨⟨⟨q1, q2⟩, q3⟩, q4⟩, q5⟩, q6⟩ := hcond
 simp only [Option.some.injEq, Prod.mk.injEq] at h
 obtain ⟨rfl, rfl⟩ := h
 have b0 := of_decide_eq_true (ho _ (by simp) : BE.den ρ (.ile (.lit 0) n) = true)
 have b1 := of_decide_eq_true (ho _ (by simp) : BE.den ρ (.ile (.lit 0) sh) = true)
 have b2 := of_decide_eq_true (ho _ (by simp) : BE.den ρ (.ile (sh.addS n) g.n1) = true)
 rw [IE.addS_den] at b2
 simp only [IE.den] at b0 b1
 refine ⟨b0, fun hcf => ?_⟩
 have hks := kdsSame_eq q5
 have hkl : g.ks.length = te.size := by rw [hks, List.length_map, hz]
 have hd : sb.dead ρ = false := by
  have : sb.nl.den ρ = false := by
   by_cases hx : sb.nl.same c = true
   ·rw [BE.same_eq hx]; exact hcf
   ·have := BE.same_eq (d3.resolve_left hx)
    rw [this]; rfl
  simp [SB.dead, d1, this]
 obtain ⟨arr, hhas, harr⟩ := hh.cells hsb hd (fun _ => d0)
 let f : Nat → Nat → Value := fun i j => kdVal (te.zero.map kdOf)[j]? ((CV.up g 0 sb.ups sh).I ρ i 0 j) ((CV.up g 0 sb.ups sh).B ρ i 0 j) ((CV.up g 0 sb.ups sh).V ρ ν i 0 j)
 have hcell : ∀ i j, i < (n.den ρ).toNat → j < te.size → arr[a.off ρ + (i * te.size + j)]? = some (f i j) := by
  intro i j hi hj
  have hi' : (((sh.den ρ).toNat + i : Nat) : Int) < g.n1.den ρ := by omega
  have := hhas.sg 0 g (by rw [hseg]; rfl) ((sh.den ρ).toNat + i) 0 j hi' (by omega) (by omega)
  rw [SA.shift_ok hsh]
  rw [q1, q3, q4] at this
  rw [show (sh.den ρ).toNat * te.size + (i * te.size + j) = ((sh.den ρ).toNat + i) * te.size + 0 * 0 + 0 + j by rw [Nat.add_mul]; omega, this, up_kd (by omega) q6, hks]
  rfl
 refine ⟨(List.range ((n.den ρ).toNat * te.size)).map fun p => f (p / te.size) (p % te.size), ⟨by simp, fun i j hi hj => ?_⟩, fun j u hj => ?_, fun u hu => ?_⟩
 ·have hlt : i * te.size + j < (n.den ρ).toNat * te.size := by
   have : (i + 1) * te.size ≤ (n.den ρ).toNat * te.size := Nat.mul_le_mul_right _ hi
   rw [Nat.add_mul] at this
   omega
  rw [List.getElem?_map, List.getElem?_range hlt]
  have h1 : (i * te.size + j) / te.size = i := by rw [Nat.mul_comm, Nat.mul_add_div (by omega), Nat.div_eq_of_lt hj, Nat.add_zero]
  have h2 : (i * te.size + j) % te.size = j := by rw [Nat.mul_comm, Nat.mul_add_mod, Nat.mod_eq_of_lt hj]
  simp only [Option.map_some, h1, h2, f]
 ·rw [List.getElem?_map] at hj
  simp only [Option.map_eq_some_iff] at hj
  obtain ⟨p, hp, rfl⟩ := hj
  have hpl := (List.getElem?_eq_some_iff.1 hp).1
  rw [List.length_range] at hpl
  rw [List.getElem?_range hpl] at hp
  simp at hp
  subst hp
  have hs : 0 < te.size := by
   rcases Nat.eq_zero_or_pos te.size with h0 | h0
   ·rw [h0] at hpl; omega
   ·exact h0
  have h1 := hcell (j / te.size) (j % te.size) ((Nat.div_lt_iff_lt_mul hs).2 hpl) (Nat.mod_lt _ hs)
  rw [show j / te.size * te.size + j % te.size = j by rw [Nat.mul_comm]; exact Nat.div_add_mod j te.size] at h1
  unfold SA.den
  rw [Addr.add_add]
  exact harr _ _ h1
 ·simp only [List.mem_map] at hu
  obtain ⟨p, -, rfl⟩ := hu
  exact kdVal_one _ _ _ _
end
theorem append_run {P : Program} {w : World} {t ty e : TypeId} {te : TI} (ht : P.underlying t = some (.slice e)) (hte : TyOK P e te) (hs : 0 < te.size) (hby : 0 < te.bytes) {v0 : Value} {n : Nat} {xs : List Value} (hown : w.ownsRow 0 e te.size v0 n xs)
  (src : Option Addr) (m cx : Nat) (h0 : src = none → m = 0) (news : List Value) (hl : news.length = m * te.size) (hnews : ∀ A, src = some A → ∀ j u, news[j]? = some u → w.cell? (A.add j) = some u) (h1 : ∀ u ∈ news, u.oneCell' = true)
  (hb : (n + m) * te.bytes ≤ 140737488355328) :
  ∃ v' w', (Builtin.append_ #[t, t] ty #[v0, .slice src m cx]).run P w = .ok v' w' ∧ w.grownBy w' v0.ownBlock ∧ (v' = .slice none 0 0 ↔ v0 = .slice none 0 0 ∧ m = 0) ∧
   (v' = Value.slice none 0 0 ∨ ∃ (g cap : Nat) (cur : Array Value), v' = .slice (some ⟨g, 0, none⟩) (n + m) cap ∧ w'.heap[g]? = some (.cells cur e (0, 0)) ∧ n + m ≤ cap ∧ cap ≤ maxLen ∧ cur.size = cap * te.size ∧ cur.toList.take ((n + m) * te.size) = xs ++ news ∧
     (v0.ownBlock = some g ∨ g = w.heap.size)) := by
 obtain ⟨i, z, hi, hsz, hz, hzc, hza, hzl, hbt⟩ := hte.info
 have hzs : z.cells.size = te.size := by
  have := scsChk_ok (ρ := {}) (ν := fun _ => ⟨0, 0, none⟩) hzc
  rw [← Array.length_toList, this, List.length_map, hzl]
 have hn63 : n + m ≤ maxLen := by
  have : (n + m) * 1 ≤ (n + m) * te.bytes := Nat.mul_le_mul_left _ hby
  simp only [maxLen]
  omega
 have fin : ∀ (v' : Value) (w' : World), w'.ownsRow 0 e te.size v' (n + m) (xs ++ news) → (v'.ownBlock = v0.ownBlock ∨ v'.ownBlock = some w.heap.size) → (v' = Value.slice none 0 0 ∨ ∃ (g cap : Nat) (cur : Array Value), v' = .slice (some ⟨g, 0, none⟩) (n + m) cap ∧ w'.heap[g]? = some (.cells cur e (0, 0)) ∧ n + m ≤ cap ∧ cap ≤ maxLen ∧ cur.size = cap * te.size ∧ cur.toList.take ((n + m) * te.size) = xs ++ news ∧
       (v0.ownBlock = some g ∨ g = w.heap.size)) := by
  intro v' w' ho hat
  rcases ho.2 with ⟨rfl, h⟩ | ⟨g, cap, cur, rfl, -, h3, h4, h5, h6, h7⟩
  ·exact .inl rfl
  ·refine .inr ⟨g, cap, cur, rfl, h3, h4, h5, h6, h7, ?_⟩
   rcases hat with h | h
   ·exact .inl (by rw [← h]; rfl)
   ·refine .inr ?_
    have h' : some g = some w.heap.size := h
    exact Option.some.inj h'
 cases src with
 | some A =>
  obtain ⟨v', w', hr, ho, hg, hnil, hat⟩ := run_append_own_at (P := P) w 0 t ty e i z te.size te.bytes ht hi hz hsz hbt hzs hs v0 n xs hown A m cx news hl (hnews A rfl) h1 hn63 hb (Nat.zero_le _)
  exact ⟨v', w', hr, hg, hnil, fin v' w' ho hat⟩
 | none =>
  have hm := h0 rfl
  subst hm
  have hn : news = [] := List.eq_nil_of_length_eq_zero (by simpa using hl)
  subst hn
  refine ⟨v0, w, ?_, ⟨rfl, rfl, rfl, Nat.le_refl _, fun _ _ _ => rfl⟩, by simp, fin v0 w (by simpa using hown) (.inl rfl)⟩
  rcases hown.2 with ⟨rfl, rfl⟩ | ⟨g, cap, cur, rfl, -, h3, h4, h5, h6, h7⟩
  ·simp [Builtin.append_, run_underlying ht, sizeOf, typeInfo, hi, Builtin.lenOf, Builtin.firstCells]
  ·simp [Builtin.append_, run_underlying ht, sizeOf, typeInfo, hi, Builtin.lenOf, Builtin.firstCells, h4, storeCells]
end Go.Rex
