/- Rex, part 3: blocks of memory: what is known of one, reading, writing. -/
import Derived.Test.YthomdlajobnmnaaDoorRex2
set_option linter.unusedSimpArgs false
set_option linter.unusedVariables false
namespace Go.Rex

inductive Kd where
 | int (k : IntKind) | bool | val
 deriving Inhabited
structure Seg where
 r : Nat
 n1 : IE := .lit 1
 s1 : Nat := 0
 n2 : Nat := 1
 s2 : Nat := 0
 lo : Nat := 0
 ks : List Kd
 z : Bool := false
 deriving Inhabited
structure Up where
 g : Nat
 i1 : IE
 i2 : IE
 j : Nat
 c : SC
 deriving Inhabited
structure SB where
 t : TypeId
 cs : List SC := []
 segs : List Seg := []
 ups : List Up := []
 gone : Bool := false
 opn : Bool := false
 cap : Option (IE × Nat) := none
 ro : Bool := false
 own : Bool := false
 nl : BE := .lit false
 deriving Inhabited

def Seg.base (ρ : Env) (g : Seg) (i1 i2 j : Nat) : Value :=
 match g.ks[j]? with
 | some (.int k) => .int k (if g.z then 0 else ρ.ic g.r i1 i2 j)
 | some .bool => .bool (if g.z then false else ρ.bc g.r i1 i2 j)
 | _ => one1 (ρ.vc g.r i1 i2 j)
def upsVal (ρ : Env) (ν : Nat → Addr) : List Up → Nat → Nat → Nat → Nat → Value → Value
 | [], _, _, _, _, b => b
 | u :: r, g, i1, i2, j, b =>
  if u.g = g ∧ (u.i1.den ρ).toNat = i1 ∧ (u.i2.den ρ).toNat = i2 ∧ u.j = j then u.c.den ρ ν else upsVal ρ ν r g i1 i2 j b
structure SB.has (ρ : Env) (ν : Nat → Addr) (sb : SB) (cs : Array Value) : Prop where
 un : ∀ u ∈ sb.ups, 0 ≤ u.i1.den ρ ∧ 0 ≤ u.i2.den ρ
 size : sb.segs = [] → sb.opn = false → cs.size = sb.cs.length
 cap : ∀ e n, sb.cap = some (e, n) → 0 ≤ e.den ρ ∧ cs.size = (e.den ρ).toNat * n
 ex : ∀ (p : Nat) (c : SC), sb.cs[p]? = some c → c.isHole = false → cs[p]? = some (c.den ρ ν)
 sg : ∀ (gi : Nat) (g : Seg), sb.segs[gi]? = some g → ∀ i1 i2 j : Nat, (i1 : Int) < g.n1.den ρ → i2 < g.n2 → j < g.ks.length →
  cs[i1 * g.s1 + i2 * g.s2 + g.lo + j]? = some (upsVal ρ ν sb.ups gi i1 i2 j (g.base ρ i1 i2 j))

def Seg.inner (g : Seg) : Nat := (g.n2 - 1) * g.s2 + g.ks.length
def Seg.ext (g : Seg) : Option Nat := g.n1.lit?.map fun n => (n.toNat - 1) * g.s1 + g.inner
def sepSeg (g h : Seg) : Bool :=
 (match g.ext, h.ext with
  | some e, some f => decide (g.lo + e ≤ h.lo) || decide (h.lo + f ≤ g.lo)
  | _, _ => false) ||
 (g.s1 == h.s1 && (decide (g.lo + g.inner ≤ h.lo) || decide (h.lo + h.inner ≤ g.lo)) && decide (g.lo + g.inner ≤ g.s1) && decide (h.lo + h.inner ≤ h.s1))
def Seg.one (g : Seg) : Bool := match g.n1.lit? with | some n => decide (n ≤ 1) | none => false
def Seg.inj (g : Seg) : Bool := (decide (g.n2 ≤ 1) || decide (g.ks.length ≤ g.s2)) && (g.one || decide (g.inner ≤ g.s1))
def sepEx (g : Seg) (p : Nat) : Bool := match g.ext with | some e => decide (p < g.lo) || decide (g.lo + e ≤ p) | none => false

theorem in_inner {g : Seg} {i2 j : Nat} (h2 : i2 < g.n2) (hj : j < g.ks.length) : i2 * g.s2 + j < g.inner := by
 unfold Seg.inner
 have : i2 * g.s2 ≤ (g.n2 - 1) * g.s2 := Nat.mul_le_mul_right _ (by omega)
 omega
theorem in_ext {ρ : Env} {g : Seg} {e i1 i2 j : Nat} (he : g.ext = some e) (h1 : (i1 : Int) < g.n1.den ρ) (h2 : i2 < g.n2) (hj : j < g.ks.length) :
  i1 * g.s1 + i2 * g.s2 + j < e := by
 unfold Seg.ext at he
 simp only [Option.map_eq_some_iff] at he
 obtain ⟨n, hn, rfl⟩ := he
 rw [IE.lit?_ok hn] at h1
 have := in_inner h2 hj
 have h3 : i1 * g.s1 ≤ (n.toNat - 1) * g.s1 := Nat.mul_le_mul_right _ (by omega)
 omega
theorem sepEx_ne {ρ : Env} {g : Seg} {p i1 i2 j : Nat} (h : sepEx g p = true) (h1 : (i1 : Int) < g.n1.den ρ) (h2 : i2 < g.n2) (hj : j < g.ks.length) :
  i1 * g.s1 + i2 * g.s2 + g.lo + j ≠ p := by
 unfold sepEx at h
 split at h
 ·rename_i e he
  have := in_ext he h1 h2 hj
  simp at h
  omega
 ·cases h
theorem win_ne {s lo lo' n n' a b x y : Nat} (ha : lo + n ≤ s) (hb : lo' + n' ≤ s) (hx : x < n) (hy : y < n') (hsep : lo + n ≤ lo' ∨ lo' + n' ≤ lo) :
  a * s + lo + x ≠ b * s + lo' + y := by
 intro h
 rcases Nat.lt_trichotomy a b with hab | hab | hab
 ·have : (a + 1) * s ≤ b * s := Nat.mul_le_mul_right _ hab
  rw [Nat.add_mul] at this
  omega
 ·subst hab; omega
 ·have : (b + 1) * s ≤ a * s := Nat.mul_le_mul_right _ hab
  rw [Nat.add_mul] at this
  omega
theorem sepSeg_ne {ρ : Env} {g h : Seg} {i1 i2 j k1 k2 l : Nat} (hs : sepSeg g h = true) (h1 : (i1 : Int) < g.n1.den ρ) (h2 : i2 < g.n2) (hj : j < g.ks.length)
  (k1' : (k1 : Int) < h.n1.den ρ) (k2' : k2 < h.n2) (hl : l < h.ks.length) :
  i1 * g.s1 + i2 * g.s2 + g.lo + j ≠ k1 * h.s1 + k2 * h.s2 + h.lo + l := by
 unfold sepSeg at hs
 rw [Bool.or_eq_true] at hs
 rcases hs with hs | hs
 ·split at hs
  ·rename_i e f he hf
   have := in_ext he h1 h2 hj
   have := in_ext hf k1' k2' hl
   simp at hs
   omega
  ·cases hs
 ·simp at hs
  obtain ⟨⟨⟨e1, hsep⟩, ha⟩, hb⟩ := hs
  have hx := in_inner h2 hj
  have hy := in_inner k2' hl
  rw [← e1] at hb ⊢
  have := win_ne (a := i1) (b := k1) ha hb hx hy hsep
  omega
theorem inj_ne {ρ : Env} {g : Seg} {i1 i2 j k1 k2 l : Nat} (hs : g.inj = true) (h1 : (i1 : Int) < g.n1.den ρ) (h2 : i2 < g.n2) (hj : j < g.ks.length)
  (k1' : (k1 : Int) < g.n1.den ρ) (k2' : k2 < g.n2) (hl : l < g.ks.length) (he : i1 * g.s1 + i2 * g.s2 + g.lo + j = k1 * g.s1 + k2 * g.s2 + g.lo + l) :
  i1 = k1 ∧ i2 = k2 ∧ j = l := by
 unfold Seg.inj at hs
 simp at hs
 obtain ⟨ha, hb⟩ := hs
 have hx := in_inner h2 hj
 have hy := in_inner k2' hl
 have e1 : i1 = k1 := by
  rcases hb with hb | hb
  ·unfold Seg.one at hb
   split at hb
   ·rename_i n hn
    rw [IE.lit?_ok hn] at h1 k1'
    simp at hb
    omega
   ·cases hb
  ·rcases Nat.lt_trichotomy i1 k1 with hab | hab | hab
   ·have : (i1 + 1) * g.s1 ≤ k1 * g.s1 := Nat.mul_le_mul_right _ hab
    rw [Nat.add_mul] at this
    omega
   ·exact hab
   ·have : (k1 + 1) * g.s1 ≤ i1 * g.s1 := Nat.mul_le_mul_right _ hab
    rw [Nat.add_mul] at this
    omega
 subst e1
 have he' : i2 * g.s2 + j = k2 * g.s2 + l := by omega
 have e2 : i2 = k2 := by
  rcases ha with ha | ha
  ·omega
  ·rcases Nat.lt_trichotomy i2 k2 with hab | hab | hab
   ·have : (i2 + 1) * g.s2 ≤ k2 * g.s2 := Nat.mul_le_mul_right _ hab
    rw [Nat.add_mul] at this
    omega
   ·exact hab
   ·have : (k2 + 1) * g.s2 ≤ i2 * g.s2 := Nat.mul_le_mul_right _ hab
    rw [Nat.add_mul] at this
    omega
 subst e2
 exact ⟨rfl, rfl, by omega⟩

/-! ### places in a block -/
inductive Loc where
 | ex (p : Nat)
 | sg (gi : Nat) (g : Seg) (i1 i2 : IE) (j : Nat)
 deriving Inhabited
def Loc.obs : Loc → List BE
 | .ex _ => []
 | .sg _ g i1 i2 _ => [.ile (.lit 0) i1, .ilt i1 g.n1, .ile (.lit 0) i2, .ilt i2 (.lit g.n2)]
def Loc.pos (ρ : Env) : Loc → Nat
 | .ex p => p
 | .sg _ g i1 i2 j => (i1.den ρ).toNat * g.s1 + (i2.den ρ).toNat * g.s2 + g.lo + j
def Loc.ok (sb : SB) : Loc → Prop
 | .ex p => ∃ c, sb.cs[p]? = some c ∧ c.isHole = false
 | .sg gi g _ _ j => sb.segs[gi]? = some g ∧ j < g.ks.length
def SA.lit? (a : SA) : Option Nat :=
 match a.i1.lit?, a.i2.lit? with
 | some x, some y => some (x.toNat * a.s1 + y.toNat * a.s2 + a.j)
 | _, _ => none
theorem SA.lit?_ok {ρ : Env} {a : SA} {p : Nat} (h : a.lit? = some p) : a.off ρ = p := by
 unfold SA.lit? at h
 split at h
 ·rename_i h1 h2; simp at h; simp [SA.off, IE.lit?_ok h1, IE.lit?_ok h2, h]
 ·cases h
def Seg.below (g : Seg) (n : Nat) : Bool := match g.n1.lit? with | some m => decide ((n : Int) < m) | none => false
def findSeg (a : SA) (k : Nat) : List Seg → Nat → Option Loc
 | [], _ => none
 | g :: r, gi =>
  let q := a.j + k
  if a.s1 == g.s1 && a.s2 == g.s2 && decide (g.lo ≤ q) && decide (q < g.lo + g.ks.length) then some (.sg gi g a.i1 a.i2 (q - g.lo))
  else if a.s1 == g.s1 && a.s2 == 0 && decide (g.lo ≤ q) && decide (0 < g.s2) && decide ((q - g.lo) % g.s2 < g.ks.length) && decide ((q - g.lo) / g.s2 < g.n2) then
   some (.sg gi g a.i1 (.lit ((q - g.lo) / g.s2 : Nat)) ((q - g.lo) % g.s2))
  else if a.s1 == 0 && a.s2 == 0 && g.s2 == 0 && decide (g.lo ≤ q) && decide (0 < g.s1) && decide ((q - g.lo) % g.s1 < g.ks.length) && g.below ((q - g.lo) / g.s1) then
   some (.sg gi g (.lit ((q - g.lo) / g.s1 : Nat)) (.lit 0) ((q - g.lo) % g.s1))
  else findSeg a k r (gi + 1)
theorem findSeg_ok {ρ : Env} {a : SA} {k : Nat} {l : Loc} : ∀ {gs : List Seg} {gi : Nat} {sb : SB}, (∀ i, gs[i]? = sb.segs[gi + i]?) → findSeg a k gs gi = some l →
  l.ok sb ∧ l.pos ρ = a.off ρ + k
 | [], _, _, _, h => by simp [findSeg] at h
 | g :: r, gi, sb, hg, h => by
  unfold findSeg at h
  have hg0 : sb.segs[gi]? = some g := by have := hg 0; simpa using this.symm
  simp only at h
  split at h
  ·rename_i hc
   simp only [Bool.and_eq_true, beq_iff_eq, decide_eq_true_eq, Option.some.injEq] at hc h
   subst h
   obtain ⟨⟨⟨h1, h2⟩, h3⟩, h4⟩ := hc
   refine ⟨⟨hg0, by omega⟩, ?_⟩
   simp only [Loc.pos, SA.off, h1, h2]
   omega
  ·split at h
   ·rename_i _ hc
    simp only [Bool.and_eq_true, beq_iff_eq, decide_eq_true_eq, Option.some.injEq] at hc h
    subst h
    obtain ⟨⟨⟨⟨⟨h1, h2⟩, h3⟩, h4⟩, h5⟩, h6⟩ := hc
    refine ⟨⟨hg0, h5⟩, ?_⟩
    have hdm := Nat.div_add_mod (a.j + k - g.lo) g.s2
    rw [Nat.mul_comm] at hdm
    simp only [Loc.pos, SA.off, h1, h2, IE.den, Int.toNat_natCast]
    omega
   ·split at h
    ·rename_i _ _ hc
     simp only [Bool.and_eq_true, beq_iff_eq, decide_eq_true_eq, Option.some.injEq] at hc h
     subst h
     obtain ⟨⟨⟨⟨⟨⟨h1, h2⟩, h3⟩, h4⟩, h5⟩, h6⟩, h7⟩ := hc
     refine ⟨⟨hg0, h6⟩, ?_⟩
     have hdm := Nat.div_add_mod (a.j + k - g.lo) g.s1
     rw [Nat.mul_comm] at hdm
     simp only [Loc.pos, SA.off, h1, h2, h3, IE.den, Int.toNat_natCast]
     omega
    ·exact findSeg_ok (gs := r) (gi := gi + 1) (fun i => by have := hg (i + 1); simpa [Nat.add_assoc, Nat.add_comm 1 i] using this) h
def SB.loc (sb : SB) (a : SA) (k : Nat) : Option Loc :=
 match a.lit? with
 | some p =>
  match sb.cs[p + k]? with
  | some c => if c.isHole then findSeg a k sb.segs 0 else some (.ex (p + k))
  | none => findSeg a k sb.segs 0
 | none => findSeg a k sb.segs 0
theorem SB.loc_ok {ρ : Env} {sb : SB} {a : SA} {k : Nat} {l : Loc} (h : sb.loc a k = some l) : l.ok sb ∧ l.pos ρ = a.off ρ + k := by
 unfold SB.loc at h
 have hf : findSeg a k sb.segs 0 = some l → l.ok sb ∧ l.pos ρ = a.off ρ + k := fun h => findSeg_ok (gs := sb.segs) (gi := 0) (fun i => by simp) h
 split at h
 ·rename_i p hp
  split at h
  ·rename_i c hc
   split at h
   ·exact hf h
   ·rename_i hh
    simp at h
    subst h
    exact ⟨⟨c, hc, by simpa using hh⟩, by simp [Loc.pos, SA.lit?_ok hp]⟩
  ·exact hf h
 ·exact hf h

/-! ### reading -/
inductive Rd (α : Type) where
 | ok (x : α)
 | br (c : BE)
 | no
def readUps (kn : Kn) (gi : Nat) (i1 i2 : IE) (j : Nat) (base : SC) : List Up → Rd SC
 | [] => .ok base
 | u :: r =>
  if u.g == gi && u.j == j then
   match (BE.ieq i1 u.i1).decide kn, (BE.ieq i2 u.i2).decide kn with
   | some true, some true => .ok u.c
   | some false, _ => readUps kn gi i1 i2 j base r
   | _, some false => readUps kn gi i1 i2 j base r
   | none, _ => .br (.ieq i1 u.i1)
   | _, none => .br (.ieq i2 u.i2)
  else readUps kn gi i1 i2 j base r
def Seg.baseSC (g : Seg) (i1 i2 : IE) (j : Nat) : SC :=
 match g.ks[j]? with
 | some (.int k) => .int k (if g.z then .lit 0 else .cell g.r i1 i2 j)
 | some .bool => .bool (if g.z then .lit false else .cell g.r i1 i2 j)
 | _ => .vcell g.r i1 i2 j
theorem Seg.baseSC_den (ρ : Env) (ν : Nat → Addr) (g : Seg) (i1 i2 : IE) (j : Nat) :
  (g.baseSC i1 i2 j).den ρ ν = g.base ρ (i1.den ρ).toNat (i2.den ρ).toNat j := by
 unfold Seg.baseSC Seg.base
 split <;> cases g.z <;> simp [SC.den, IE.den, BE.den]
def SB.read (kn : Kn) (sb : SB) : Loc → Rd SC
 | .ex p => match sb.cs[p]? with | some c => .ok c | none => .no
 | .sg gi g i1 i2 j => readUps kn gi i1 i2 j (g.baseSC i1 i2 j) sb.ups
theorem readUps_ok {ρ : Env} {ν : Nat → Addr} {kn : Kn} (hk : Kn.ok ρ kn) {gi : Nat} {i1 i2 : IE} {j : Nat} {base c : SC} (n1 : 0 ≤ i1.den ρ) (n2 : 0 ≤ i2.den ρ) :
  ∀ {us : List Up}, (∀ u ∈ us, 0 ≤ u.i1.den ρ ∧ 0 ≤ u.i2.den ρ) → readUps kn gi i1 i2 j base us = .ok c →
  upsVal ρ ν us gi (i1.den ρ).toNat (i2.den ρ).toNat j (base.den ρ ν) = c.den ρ ν
 | [], _, h => by simp [readUps] at h; subst h; rfl
 | u :: r, hn, h => by
  have ih := readUps_ok (ν := ν) hk (gi := gi) (j := j) (base := base) (c := c) n1 n2 (us := r) (fun u hu => hn u (by simp [hu]))
  obtain ⟨m1, m2⟩ := hn u (by simp)
  unfold readUps at h
  unfold upsVal
  split at h
  ·rename_i hc
   simp at hc
   split at h
   ·rename_i h1 h2
    have e1 := BE.decide_ok hk h1
    have e2 := BE.decide_ok hk h2
    simp [BE.den] at e1 e2
    simp at h
    rw [if_pos ⟨hc.1, by rw [e1], by rw [e2], hc.2⟩, h]
   ·rename_i h1
    have e1 := BE.decide_ok hk h1
    simp [BE.den] at e1
    rw [if_neg (by omega)]
    exact ih h
   ·rename_i h1 _
    have e1 := BE.decide_ok hk h1
    simp [BE.den] at e1
    rw [if_neg (by omega)]
    exact ih h
   ·cases h
   ·cases h
  ·rename_i hc
   simp at hc
   rw [if_neg (by intro hh; exact hc hh.1 hh.2.2.2)]
   exact ih h

theorem sg_obs {ρ : Env} {gi : Nat} {g : Seg} {i1 i2 : IE} {j : Nat} (h : ∀ o ∈ (Loc.sg gi g i1 i2 j).obs, o.den ρ = true) :
  0 ≤ i1.den ρ ∧ i1.den ρ < g.n1.den ρ ∧ 0 ≤ i2.den ρ ∧ i2.den ρ < g.n2 := by
 simp only [Loc.obs, List.mem_cons, List.not_mem_nil, or_false, forall_eq_or_imp, forall_eq, BE.den, IE.den, decide_eq_true_eq] at h
 obtain ⟨h1, h2, h3, h4⟩ := h
 exact ⟨of_decide_eq_true h1, h2, of_decide_eq_true h3, of_decide_eq_true h4⟩
theorem SB.read_ok {ρ : Env} {ν : Nat → Addr} {kn : Kn} (hk : Kn.ok ρ kn) {sb : SB} {cs : Array Value} (hb : sb.has ρ ν cs) {l : Loc} (hl : l.ok sb)
  (ho : ∀ o ∈ l.obs, o.den ρ = true) {c : SC} (h : sb.read kn l = .ok c) : cs[l.pos ρ]? = some (c.den ρ ν) := by
 cases l with
 | ex p =>
  obtain ⟨d, hd, hh⟩ := hl
  simp [SB.read, hd] at h
  subst h
  exact hb.ex p d hd hh
 | sg gi g i1 i2 j =>
  obtain ⟨hg, hj⟩ := hl
  obtain ⟨a1, a2, a3, a4⟩ := sg_obs ho
  have := hb.sg gi g hg (i1.den ρ).toNat (i2.den ρ).toNat j (by omega) (by omega) hj
  simp only [Loc.pos]
  rw [this]
  have h' := readUps_ok (ν := ν) hk a1 a3 hb.un h
  rw [Seg.baseSC_den] at h'
  rw [h']

/-! ### writing -/
def sepOthers (gi : Nat) (g : Seg) : List Seg → Nat → Bool
 | [], _ => true
 | h :: r, i => (i == gi || sepSeg g h) && sepOthers gi g r (i + 1)
theorem sepOthers_ok {gi : Nat} {g : Seg} : ∀ {hs : List Seg} {i : Nat}, sepOthers gi g hs i = true → ∀ k h, hs[k]? = some h → i + k ≠ gi → sepSeg g h = true
 | [], _, _, k, h, hk, _ => by simp at hk
 | x :: r, i, hs, k, h, hk, hne => by
  simp [sepOthers] at hs
  cases k with
  | zero =>
   simp at hk
   subst hk
   exact hs.1.resolve_left (by omega)
  | succ k => exact sepOthers_ok hs.2 k h (by simpa using hk) (by omega)
def exFree (g : Seg) : List SC → Nat → Bool
 | [], _ => true
 | c :: r, p => (c.isHole || sepEx g p) && exFree g r (p + 1)
theorem exFree_ok {g : Seg} : ∀ {cs : List SC} {p : Nat}, exFree g cs p = true → ∀ (k : Nat) (c : SC), cs[k]? = some c → c.isHole = false → sepEx g (p + k) = true
 | [], _, _, k, c, hk, _ => by simp at hk
 | x :: r, p, hs, k, c, hk, hne => by
  simp [exFree] at hs
  cases k with
  | zero =>
   simp at hk
   subst hk
   exact hs.1.resolve_left (by simp [hne])
  | succ k =>
   have := exFree_ok hs.2 k c (by simpa using hk) hne
   rwa [Nat.add_assoc, Nat.add_comm 1 k] at this
def SB.write (sb : SB) (l : Loc) (c : SC) : Option SB :=
 if c.isHole then none else
 match l with
 | .ex p => if sb.segs.all (sepEx · p) then some { sb with cs := sb.cs.set p c } else none
 | .sg gi g i1 i2 j => if g.inj && sepOthers gi g sb.segs 0 && exFree g sb.cs 0 then some { sb with ups := ⟨gi, i1, i2, j, c⟩ :: sb.ups } else none
theorem SB.write_ok {ρ : Env} {ν : Nat → Addr} {sb sb' : SB} {cs : Array Value} (hb : sb.has ρ ν cs) {l : Loc} (hl : l.ok sb)
  (ho : ∀ o ∈ l.obs, o.den ρ = true) {c : SC} (h : sb.write l c = some sb') : sb'.has ρ ν (cs.setIfInBounds (l.pos ρ) (c.den ρ ν)) ∧ l.pos ρ < cs.size := by
 unfold SB.write at h
 split at h
 ·cases h
 rename_i hch
 cases l with
 | ex p =>
  obtain ⟨d, hd, hh⟩ := hl
  simp only at h
  split at h
  ·rename_i hs
   simp at h
   subst h
   have hcell := hb.ex p d hd hh
   have hlt : p < cs.size := (Array.getElem?_eq_some_iff.1 hcell).1
   refine ⟨⟨hb.un, fun hsz ho => by simp [hb.size hsz ho], fun e n he => by simpa using hb.cap e n he, fun q e hq he => ?_, fun gi g hg i1 i2 j h1 h2 h3 => ?_⟩, by simpa [Loc.pos] using hlt⟩
   ·simp only [Loc.pos]
    by_cases hpq : p = q
    ·subst hpq
     rw [List.getElem?_set_self (List.getElem?_eq_some_iff.1 hd).1] at hq
     simp at hq
     subst hq
     simp [hlt]
    ·rw [List.getElem?_set_ne hpq] at hq
     rw [Array.getElem?_setIfInBounds_ne hpq]
     exact hb.ex q e hq he
   ·simp only [Loc.pos]
    rw [Array.getElem?_setIfInBounds_ne]
    ·exact hb.sg gi g hg i1 i2 j h1 h2 h3
    ·have := List.all_eq_true.1 hs g (List.mem_of_getElem? hg)
     exact fun e => sepEx_ne this h1 h2 h3 e.symm
  ·cases h
 | sg gi g i1 i2 j =>
  obtain ⟨hg, hj⟩ := hl
  obtain ⟨a1, a2, a3, a4⟩ := sg_obs ho
  simp only at h
  split at h
  ·rename_i hs
   simp only [Bool.and_eq_true] at hs
   obtain ⟨⟨hinj, hoth⟩, hex⟩ := hs
   simp at h
   subst h
   have b1 : (((i1.den ρ).toNat : Nat) : Int) < g.n1.den ρ := by omega
   have b2 : (i2.den ρ).toNat < g.n2 := by omega
   have hcell := hb.sg gi g hg (i1.den ρ).toNat (i2.den ρ).toNat j b1 b2 hj
   have hlt := (Array.getElem?_eq_some_iff.1 hcell).1
   refine ⟨⟨?_, fun hsz ho => by simpa using hb.size hsz ho, fun e n he => by simpa using hb.cap e n he, fun q e hq he => ?_, fun gi' g' hg' k1 k2 l h1 h2 h3 => ?_⟩, by simpa [Loc.pos] using hlt⟩
   ·intro u hu
    rcases List.mem_cons.1 hu with rfl | hu
    ·exact ⟨a1, a3⟩
    ·exact hb.un u hu
   ·simp only [Loc.pos]
    have hsep := exFree_ok hex q e hq he
    rw [Nat.zero_add] at hsep
    rw [Array.getElem?_setIfInBounds_ne (sepEx_ne hsep b1 b2 hj)]
    exact hb.ex q e hq he
   ·simp only [Loc.pos]
    by_cases hgi : gi' = gi
    ·subst hgi
     rw [hg] at hg'
     simp at hg'
     subst hg'
     by_cases hpos : (i1.den ρ).toNat * g.s1 + (i2.den ρ).toNat * g.s2 + g.lo + j = k1 * g.s1 + k2 * g.s2 + g.lo + l
     ·obtain ⟨e1, e2, e3⟩ := inj_ne hinj b1 b2 hj h1 h2 h3 hpos
      subst e1 e2 e3
      simp only [upsVal, and_self, if_true]
      simp [hlt]
     ·rw [Array.getElem?_setIfInBounds_ne hpos]
      rw [hb.sg gi' g hg k1 k2 l h1 h2 h3]
      simp only [upsVal]
      rw [if_neg]
      rintro ⟨_, e1, e2, e3⟩
      exact hpos (by rw [e1, e2, e3])
    ·have hsep := sepOthers_ok hoth gi' g' hg' (by simpa using hgi)
     rw [Array.getElem?_setIfInBounds_ne (sepSeg_ne hsep b1 b2 hj h1 h2 h3)]
     rw [hb.sg gi' g' hg' k1 k2 l h1 h2 h3]
     simp only [upsVal]
     rw [if_neg]
     rintro ⟨e1, _⟩
     exact hgi e1.symm
  ·cases h

end Go.Rex
