/- Rex, part D: matching memory against a template's. -/
import Derived.Test.YthomdlajobnmnaaDoorRexC
set_option linter.unusedSimpArgs false
set_option linter.unusedVariables false
namespace Go.Rex

def Sub.ie (σ : Sub) (t : IE) : Option IE :=
 match t with
 | .var i => if Nat.blt i σ.lo then some t else assoc i σ.iv
 | _ => if t.sc σ.lo then some t else none
theorem Sub.ie_ok {σ : Sub} {t e : IE} {ρ : Env} {ν : Nat → Addr} (h : σ.ie t = some e) : t.den (σ.env ρ ν) = e.den ρ := by
 unfold Sub.ie at h
 split at h
 ·rename_i i
  split at h
  ·rename_i hi
   simp at h
   subst h
   exact IE.sc_den (σ.agr ρ ν) (e := .var i) hi
  ·rename_i hi
   have hi' : ¬ i < σ.lo := by simpa using hi
   simp only [IE.den, Sub.env, Sub.nenv, if_neg hi', h]
 ·split at h
  ·rename_i hs
   simp at h
   subst h
   exact IE.sc_den (σ.agr ρ ν) hs
  ·cases h
def fitAt (cs : List SC) : List Kd → Nat → Bool
 | [], _ => true
 | k :: r, p => (match cs[p]? with | some c => kdFit k c | none => false) && fitAt cs r (p + 1)
def fitN2 (cs : List SC) (ks : List Kd) (s2 : Nat) : Nat → Nat → Bool
 | 0, _ => true
 | n + 1, p => fitAt cs ks p && fitN2 cs ks s2 n (p + s2)
def fitN1 (cs : List SC) (ks : List Kd) (s2 n2 s1 : Nat) : Nat → Nat → Bool
 | 0, _ => true
 | n + 1, p => fitN2 cs ks s2 n2 p && fitN1 cs ks s2 n2 s1 n (p + s1)
theorem fitAt_ok {cs : List SC} : ∀ {ks : List Kd} {p : Nat}, fitAt cs ks p = true → ∀ (j : Nat) (k : Kd), ks[j]? = some k → ∃ c, cs[p + j]? = some c ∧ kdFit k c = true
 | [], p, _, j, k, hj => by simp at hj
 | x :: r, p, h, j, k, hj => by
  simp only [fitAt, Bool.and_eq_true] at h
  cases j with
  | zero =>
   simp at hj
   subst hj
   obtain ⟨h, -⟩ := h
   split at h
   ·rename_i c hc; exact ⟨c, hc, h⟩
   ·cases h
  | succ j =>
   obtain ⟨c, hc, hk⟩ := fitAt_ok h.2 j k (by simpa using hj)
   exact ⟨c, by rw [← hc]; congr 1; omega, hk⟩
theorem fitN2_ok {cs : List SC} {ks : List Kd} {s2 : Nat} : ∀ {n p : Nat}, fitN2 cs ks s2 n p = true → ∀ i, i < n → fitAt cs ks (p + i * s2) = true
 | 0, _, _, i, hi => by omega
 | n + 1, p, h, i, hi => by
  simp only [fitN2, Bool.and_eq_true] at h
  cases i with
  | zero => simpa using h.1
  | succ i =>
   have := fitN2_ok h.2 i (by omega)
   rwa [show p + s2 + i * s2 = p + (i + 1) * s2 by rw [Nat.add_mul]; omega] at this
theorem fitN1_ok {cs : List SC} {ks : List Kd} {s2 n2 s1 : Nat} : ∀ {n p : Nat}, fitN1 cs ks s2 n2 s1 n p = true → ∀ i, i < n → fitN2 cs ks s2 n2 (p + i * s1) = true
 | 0, _, _, i, hi => by omega
 | n + 1, p, h, i, hi => by
  simp only [fitN1, Bool.and_eq_true] at h
  cases i with
  | zero => simpa using h.1
  | succ i =>
   have := fitN1_ok h.2 i (by omega)
   rwa [show p + s1 + i * s1 = p + (i + 1) * s1 by rw [Nat.add_mul]; omega] at this

def upsNone (gi : Nat) : List Up → Bool
 | [] => true
 | u :: r => !(u.g == gi) && upsNone gi r
theorem upsNone_ok {ρ : Env} {ν : Nat → Addr} {gi i1 i2 j : Nat} {b : Value} : ∀ {us : List Up}, upsNone gi us = true → upsVal ρ ν us gi i1 i2 j b = b
 | [], _ => rfl
 | u :: r, h => by
  simp only [upsNone, Bool.and_eq_true, Bool.not_eq_true', beq_eq_false_iff_ne, ne_eq] at h
  unfold upsVal
  rw [if_neg (fun hc => h.1 hc.1), upsNone_ok h.2]
def IE.is0 : IE → Bool
 | .lit 0 => true
 | _ => false
theorem IE.is0_ok {ρ : Env} {e : IE} (h : e.is0 = true) : e.den ρ = 0 := by
 unfold IE.is0 at h
 split at h
 ·rfl
 ·cases h
def SA.base (a : SA) : Bool := match a.lit? with | some 0 => true | _ => false
theorem SA.base_ok {ρ : Env} {a : SA} (h : a.base = true) : a.off ρ = 0 := by
 unfold SA.base at h
 split at h
 ·rename_i hl; exact SA.lit?_ok hl
 ·cases h
def capNone (c : Option (IE × Nat)) : Bool := match c with | none => true | _ => false
theorem capNone_ok {c : Option (IE × Nat)} (h : capNone c = true) : c = none := by
 cases c with
 | none => rfl
 | some p => cases h
def SA.shift (a : SA) (s1 : Nat) : Option IE :=
 if a.i2.is0 && a.j == 0 && (a.i1.is0 || a.s1 == s1) then some a.i1 else none
theorem SA.shift_ok {ρ : Env} {a : SA} {s1 : Nat} {sh : IE} (h : a.shift s1 = some sh) : a.off ρ = (sh.den ρ).toNat * s1 := by
 unfold SA.shift at h
 split at h
 ·rename_i hc
  simp only [Bool.and_eq_true, Bool.or_eq_true, beq_iff_eq] at hc
  obtain ⟨⟨h1, h2⟩, h3⟩ := hc
  simp at h
  subst h
  simp only [SA.off, IE.is0_ok h1, h2]
  rcases h3 with h3 | h3
  ·simp [IE.is0_ok h3]
  ·simp [h3]
 ·cases h
def mSeg (σ : Sub) (A : SB) (a : SA) (gT : Seg) (gi : Nat) : Option (List BE) :=
 if Nat.blt gT.r σ.lo then
  match A.segs[gi]? with
  | some g => if gT.same g && gT.n1.sc σ.lo && upsNone gi A.ups && a.base then some [] else none
  | none => none
 else
 match assoc gT.r σ.ct, σ.ie gT.n1 with
 | some (.up g gj us sh), some n1 =>
  match A.segs[gj]?, a.shift gT.s1 with
  | some g', some sh' =>
   if g.same g' && upsSame us A.ups && upsFit g.ks gj us && sh.same sh' && gT.s1 == g.s1 && gT.n2 == g.n2 && gT.s2 == g.s2 && gT.lo == g.lo && kdsSame gT.ks g.ks && !gT.z then
    some (if sh.is0 && n1.same g.n1 then [] else [.ile (.lit 0) sh, .ile (sh.addS n1) g.n1])
   else none
  | _, _ => none
 | some (.ex cs s1 s2 lo), some (.lit n1) =>
  match a.lit? with
  | some p => if A.segs.isEmpty && sameL cs (A.cs.drop p) && s1 == gT.s1 && s2 == gT.s2 && lo == gT.lo && !gT.z && fitN1 cs gT.ks gT.s2 gT.n2 gT.s1 n1.toNat gT.lo then some [] else none
  | none => none
 | _, _ => none
theorem mSeg_ok {σ : Sub} {ρ : Env} {ν : Nat → Addr} {A : SB} {a : SA} {gT : Seg} {gi : Nat} {os : List BE} {arr : Array Value} (h : mSeg σ A a gT gi = some os)
  (ho : ∀ o ∈ os, o.den ρ = true) (hA : A.has ρ ν arr) (i1 i2 j : Nat) (h1 : (i1 : Int) < gT.n1.den (σ.env ρ ν)) (h2 : i2 < gT.n2) (h3 : j < gT.ks.length) :
  arr[a.off ρ + (i1 * gT.s1 + i2 * gT.s2 + gT.lo + j)]? = some (gT.base (σ.env ρ ν) i1 i2 j) := by
 unfold mSeg at h
 split at h
 ·rename_i hr
  split at h
  ·rename_i g hg
   split at h
   ·rename_i hc
    simp only [Bool.and_eq_true] at hc
    obtain ⟨⟨⟨c1, c2⟩, c3⟩, c4⟩ := hc
    have e1 := Seg.same_eq c1
    subst e1
    have ha : a.off ρ = 0 := SA.base_ok c4
    rw [IE.sc_den (σ.agr ρ ν) c2] at h1
    have := hA.sg gi gT hg i1 i2 j h1 h2 h3
    rw [upsNone_ok c3] at this
    rw [ha, Nat.zero_add, this, Seg.base_den (σ.agr ρ ν) gT (by simpa using hr)]
   ·cases h
  ·cases h
 ·rename_i hr
  have hr' : ¬ gT.r < σ.lo := by simpa using hr
  split at h
  ·rename_i g gj us sh n1 hct hn1
   split at h
   ·rename_i g' sh' hg' hsh
    split at h
    ·rename_i hc
     simp only [Bool.and_eq_true, beq_iff_eq, Bool.not_eq_true'] at hc
     obtain ⟨⟨⟨⟨⟨⟨⟨⟨⟨c1, c2⟩, c3⟩, c4⟩, c5⟩, c6⟩, c7⟩, c8⟩, c9⟩, c10⟩ := hc
     have e1 := Seg.same_eq c1
     have e2 := upsSame_eq c2
     have e3 := IE.same_eq c4
     have e4 := kdsSame_eq c9
     subst e1 e2 e3
     have hoff := SA.shift_ok (ρ := ρ) hsh
     rw [Sub.ie_ok hn1] at h1
     have hb : 0 ≤ sh.den ρ ∧ sh.den ρ + n1.den ρ ≤ g.n1.den ρ := by
      simp only [Option.some.injEq] at h
      split at h
      ·rename_i hq
       simp only [Bool.and_eq_true] at hq
       rw [IE.is0_ok hq.1, IE.same_eq hq.2]
       simp
      ·subst h
       have b1 := of_decide_eq_true (ho (.ile (.lit 0) sh) (by simp))
       have b2 := of_decide_eq_true (ho (.ile (sh.addS n1) g.n1) (by simp))
       rw [IE.addS_den] at b2
       exact ⟨b1, b2⟩
     have hi : (((sh.den ρ).toNat + i1 : Nat) : Int) < g.n1.den ρ := by omega
     have hg2 : i2 < g.n2 := by rw [← c6]; exact h2
     have hj : j < g.ks.length := by rw [← e4]; exact h3
     have := hA.sg gj g hg' ((sh.den ρ).toNat + i1) i2 j hi hg2 hj
     rw [hoff, c5, c7, c8]
     rw [show (sh.den ρ).toNat * g.s1 + (i1 * g.s1 + i2 * g.s2 + g.lo + j) = ((sh.den ρ).toNat + i1) * g.s1 + i2 * g.s2 + g.lo + j by rw [Nat.add_mul]; omega]
     rw [this, up_kd hj c3, Seg.base_kd gT c10, e4]
     simp only [Sub.env, Sub.nenv, if_neg hr', hct, CV.I, CV.B, CV.V]
    ·cases h
   ·cases h
  ·rename_i cs s1 s2 lo n1 hct hn1
   split at h
   ·rename_i p hp
    split at h
    ·rename_i hc
     simp only [Bool.and_eq_true, beq_iff_eq, Bool.not_eq_true', List.isEmpty_iff] at hc
     obtain ⟨⟨⟨⟨⟨⟨c1, c2⟩, c3⟩, c4⟩, c5⟩, c6⟩, c7⟩ := hc
     have e1 := sameL_eq c2
     rw [Sub.ie_ok hn1] at h1
     simp only [IE.den] at h1
     have hf := fitN2_ok (fitN1_ok c7 i1 (by omega)) i2 h2
     obtain ⟨c, hc, hk⟩ := fitAt_ok hf j gT.ks[j] (List.getElem?_eq_getElem h3)
     have hh : c.isHole = false := by
      cases hkd : gT.ks[j] <;> rw [hkd] at hk <;> cases c <;> simp_all [kdFit, SC.isHole]
     have hpos : i1 * gT.s1 + i2 * gT.s2 + gT.lo + j = gT.lo + i1 * gT.s1 + i2 * gT.s2 + j := by omega
     have hc' : A.cs[p + (i1 * gT.s1 + i2 * gT.s2 + gT.lo + j)]? = some c := by
      rw [← List.getElem?_drop, ← e1, hpos]; exact hc
     rw [SA.lit?_ok hp, hA.ex _ _ hc' hh, fit_kd hk, Seg.base_kd gT c6, List.getElem?_eq_getElem h3]
     have hgd : cs.getD (i1 * gT.s1 + i2 * gT.s2 + gT.lo + j) .hole = c := by
      rw [List.getD_eq_getElem?_getD, hpos, hc]; rfl
     simp only [Sub.env, Sub.nenv, if_neg hr', hct, CV.I, CV.B, CV.V, c3, c4, c5, hgd]
    ·cases h
   ·cases h
  ·cases h

def mSegs (σ : Sub) (A : SB) (a : SA) : List Seg → Nat → Option (List BE)
 | [], _ => some []
 | g :: r, gi =>
  match mSeg σ A a g gi, mSegs σ A a r (gi + 1) with
  | some os, some os' => some (os ++ os')
  | _, _ => none
theorem mSegs_ok {σ : Sub} {A : SB} {a : SA} : ∀ {gs : List Seg} {gi : Nat} {os : List BE}, mSegs σ A a gs gi = some os → ∀ k g, gs[k]? = some g →
  ∃ os', mSeg σ A a g (gi + k) = some os' ∧ ∀ o ∈ os', o ∈ os
 | [], _, _, _, k, g, hk => by simp at hk
 | x :: r, gi, os, h, k, g, hk => by
  unfold mSegs at h
  split at h
  ·rename_i o1 o2 h1 h2
   simp at h
   subst h
   cases k with
   | zero => simp at hk; subst hk; exact ⟨o1, h1, fun o ho => List.mem_append_left _ ho⟩
   | succ k =>
    obtain ⟨os', h3, h4⟩ := mSegs_ok h2 k g (by simpa using hk)
    exact ⟨os', by rw [← h3]; congr 1; omega, fun o ho => List.mem_append_right _ (h4 o ho)⟩
  ·cases h
def mCells (σ : Sub) : List SC → List SC → Bool
 | [], _ => true
 | _ :: _, [] => false
 | a :: r, b :: s => (a.isHole || (mSC σ a b && !b.isHole)) && mCells σ r s
theorem mCells_ok {σ : Sub} : ∀ {t c : List SC}, mCells σ t c = true → ∀ (p : Nat) (x : SC), t[p]? = some x → x.isHole = false → ∃ y, c[p]? = some y ∧ y.isHole = false ∧ mSC σ x y = true
 | [], _, _, p, x, hx, _ => by simp at hx
 | _ :: _, [], h, _, _, _, _ => by simp [mCells] at h
 | a :: r, b :: s, h, p, x, hx, hh => by
  simp only [mCells, Bool.and_eq_true, Bool.or_eq_true, Bool.not_eq_true'] at h
  cases p with
  | zero =>
   simp at hx
   subst hx
   rcases h.1 with h1 | h1
   ·rw [hh] at h1; cases h1
   ·exact ⟨b, rfl, h1.2, h1.1⟩
  | succ p =>
   obtain ⟨y, h1, h2⟩ := mCells_ok h.2 p x (by simpa using hx) hh
   exact ⟨y, by simpa using h1, h2⟩
def mCap (σ : Sub) (t a : Option (IE × Nat)) : Bool :=
 match t, a with
 | none, _ => true
 | some (e, n), some (f, m) => mIE σ e f && n == m
 | _, _ => false
def mRw (σ : Sub) (T A : SB) (a : SA) : Option (List BE) :=
 if a.base && !A.ro && (T.opn || !T.segs.isEmpty || (A.segs.isEmpty && !A.opn && T.cs.length == A.cs.length)) && mCap σ T.cap A.cap && mCells σ T.cs A.cs && T.ups.isEmpty then
  mSegs σ A a T.segs 0
 else none
def mRo (σ : Sub) (T A : SB) (a : SA) : Option (List BE) :=
 if T.cs.isEmpty && T.ups.isEmpty && capNone T.cap && !T.segs.isEmpty then mSegs σ A a T.segs 0
 else if T.segs.isEmpty && T.ups.isEmpty && capNone T.cap && A.segs.isEmpty && !A.opn then
  match a.lit? with
  | some o => if Nat.ble (o + T.cs.length) A.cs.length && mCells σ T.cs (A.cs.drop o) then some [] else none
  | none => none
 else none
def mSBx (σ : Sub) (T A : SB) (a : SA) : Option (List BE) :=
 if A.gone || !(T.t == A.t) || (T.own && (!A.own || T.ro)) || !mBE σ T.nl A.nl || (T.ro && T.isMap) then none
 else if T.ro then mRo σ T A a else mRw σ T A a
def mBlk (σ : Sub) (hp : List SB) (k : Nat) (T : SB) : Option (List BE) :=
 if T.gone then some []
 else if Nat.blt k σ.lob then
  match hp[k]? with
  | some A => if T.wk A && T.sc σ.lo σ.lob then some [] else mSBx σ T A { blk := k }
  | none => none
 else match assoc k σ.bk with
 | some a => match hp[a.blk]? with | some A => mSBx σ T A a | none => none
 | none => if σ.nb.contains k && mBE σ T.nl (.lit true) then some [] else none
def mBlks (σ : Sub) (hp : List SB) : List SB → Nat → Option (List BE)
 | [], _ => some []
 | T :: r, k =>
  match mBlk σ hp k T, mBlks σ hp r (k + 1) with
  | some os, some os' => some (os ++ os')
  | _, _ => none
theorem mBlks_ok {σ : Sub} {hp : List SB} : ∀ {Ts : List SB} {k0 : Nat} {os : List BE}, mBlks σ hp Ts k0 = some os → ∀ k T, Ts[k]? = some T →
  ∃ os', mBlk σ hp (k0 + k) T = some os' ∧ ∀ o ∈ os', o ∈ os
 | [], _, _, _, k, g, hk => by simp at hk
 | x :: r, gi, os, h, k, g, hk => by
  unfold mBlks at h
  split at h
  ·rename_i o1 o2 h1 h2
   simp at h
   subst h
   cases k with
   | zero => simp at hk; subst hk; exact ⟨o1, h1, fun o ho => List.mem_append_left _ ho⟩
   | succ k =>
    obtain ⟨os', h3, h4⟩ := mBlks_ok h2 k g (by simpa using hk)
    exact ⟨os', by rw [← h3]; congr 1; omega, fun o ho => List.mem_append_right _ (h4 o ho)⟩
  ·cases h
def Sub.blk (σ : Sub) (k : Nat) : Option Nat := if Nat.blt k σ.lob then some k else (assoc k σ.bk).map (·.blk)
def apartFrom (σ : Sub) (i : Nat) (ro : Bool) (b : Option Nat) : List SB → Nat → Bool
 | [], _ => true
 | T :: r, j => (i == j || T.gone || (ro && T.ro) || (match b, σ.blk j with | some x, some y => !(x == y) | _, _ => true)) && apartFrom σ i ro b r (j + 1)
def apartAll (σ : Sub) (all : List SB) : List SB → Nat → Bool
 | [], _ => true
 | T :: r, i => (Nat.blt i σ.lob || T.gone || apartFrom σ i T.ro (σ.blk i) all 0) && apartAll σ all r (i + 1)
theorem apartFrom_ok {σ : Sub} {i : Nat} {ro : Bool} {b : Option Nat} : ∀ {Ts : List SB} {j0 : Nat}, apartFrom σ i ro b Ts j0 = true → ∀ j T, Ts[j]? = some T →
  i ≠ j0 + j → T.gone = false → (ro && T.ro) = false → ∀ x y, b = some x → σ.blk (j0 + j) = some y → x ≠ y
 | [], _, _, j, T, hj => by simp at hj
 | T0 :: r, j0, h, j, T, hj => by
  simp only [apartFrom, Bool.and_eq_true] at h
  cases j with
  | zero =>
   simp at hj
   subst hj
   intro hne hg hro x y hb hy
   rw [Nat.add_zero] at hne hy
   obtain ⟨h, -⟩ := h
   have hij : (i == j0) = false := by simpa using hne
   rw [hij, hg, hro, hb, hy] at h
   simpa using h
  | succ j =>
   intro hne
   have := apartFrom_ok h.2 j T (by simpa using hj)
   rw [show j0 + 1 + j = j0 + (j + 1) by omega] at this
   exact this hne
theorem apartAll_ok {σ : Sub} {all : List SB} : ∀ {Ts : List SB} {i0 : Nat}, apartAll σ all Ts i0 = true → ∀ i T, Ts[i]? = some T → ¬ (i0 + i < σ.lob) → T.gone = false →
  apartFrom σ (i0 + i) T.ro (σ.blk (i0 + i)) all 0 = true
 | [], _, _, j, T, hj => by simp at hj
 | T0 :: r, j0, h, j, T, hj => by
  simp only [apartAll, Bool.and_eq_true] at h
  cases j with
  | zero =>
   simp at hj
   subst hj
   intro hl hg
   rw [Nat.add_zero] at hl ⊢
   have hb : Nat.blt j0 σ.lob = false := by rw [← Bool.not_eq_true, Nat.blt_eq]; exact hl
   simpa [hb, hg] using h.1
  | succ j =>
   have := apartAll_ok h.2 j T (by simpa using hj)
   rw [show j0 + 1 + j = j0 + (j + 1) by omega] at this
   exact this
def instHp (σ : Sub) (Ts hp : List SB) : Option (List BE) := if apartAll σ Ts Ts 0 then mBlks σ hp Ts 0 else none

section
variable {ρ : Env} {ν : Nat → Addr} {σ : Sub}
structure IsBlk (ρ : Env) (ν : Nat → Addr) (σ : Sub) (hp : List SB) (k : Nat) (T : SB) (a : SA) (A : SB) : Prop where
 blk : σ.blk k = some a.blk
 hp : hp[a.blk]? = some A
 adr : σ.adr ρ ν k = (ν a.blk).add (a.off ρ)
 live : A.dead ρ = false
 t : T.t = A.t
 own : T.own = true → A.own = true
 ro : T.ro = false → A.ro = false ∧ a.off ρ = 0
 rw_ : T.ro = false → ∀ arr, A.has ρ ν arr → T.has (σ.env ρ ν) (σ.adr ρ ν) arr
 rd : ∀ arr, A.has ρ ν arr → ∃ arr', T.has (σ.env ρ ν) (σ.adr ρ ν) arr' ∧ ∀ p v, arr'[p]? = some v → arr[a.off ρ + p]? = some v
 mp : T.ro = true → A.ro = false → A.isMap = false
 sg : T.ro = true → T.segs = [] → A.segs = []
theorem mSBx_ok {T A : SB} {a : SA} {os : List BE} (h : mSBx σ T A a = some os) (ho : ∀ o ∈ os, o.den ρ = true) (hd : T.dead (σ.env ρ ν) = false) :
  A.dead ρ = false ∧ T.t = A.t ∧ (T.own = true → A.own = true) ∧ (T.ro = false → A.ro = false ∧ a.off ρ = 0) ∧ (T.ro = false → ∀ arr, A.has ρ ν arr → T.has (σ.env ρ ν) (σ.adr ρ ν) arr) ∧
  (∀ arr, A.has ρ ν arr → ∃ arr', T.has (σ.env ρ ν) (σ.adr ρ ν) arr' ∧ ∀ p v, arr'[p]? = some v → arr[a.off ρ + p]? = some v) ∧ (T.ro = true → A.ro = false → A.isMap = false) := by
 unfold mSBx at h
 split at h
 ·cases h
 rename_i hc
 simp only [Bool.or_eq_true, Bool.not_eq_true', not_or, Bool.not_eq_true, beq_eq_false_iff_ne, ne_eq, Decidable.not_not, Bool.not_eq_false, Bool.and_eq_true, not_and] at hc
 obtain ⟨⟨⟨⟨c1, c2⟩, c3⟩, c4⟩, c5⟩ := hc
 have hlive : A.dead ρ = false := by
  have := mBE_ok (ρ := ρ) (ν := ν) c4
  unfold SB.dead at hd ⊢
  rw [c1, ← this]
  simp at hd
  simp [hd.2]
 refine ⟨hlive, c2, fun h => ?_, ?_⟩
 ·cases hA : A.own with
  | true => rfl
  | false => have := c3 h; simp [hA] at this
 split at h
 ·rename_i hro
  refine ⟨fun h => (by rw [hro] at h; cases h), fun h => (by rw [hro] at h; cases h), fun arr hA => ?_, fun h _ => ?_⟩
  rotate_left
  ·have := c5 h
   unfold SB.isMap at this ⊢
   rw [← c2]
   simpa using this
  unfold mRo at h
  split at h
  ·rename_i hc
   simp only [Bool.and_eq_true, List.isEmpty_iff, Bool.not_eq_true'] at hc
   obtain ⟨⟨⟨d1, d2⟩, d3⟩, d4⟩ := hc
   refine ⟨(arr.toList.drop (a.off ρ)).toArray, ⟨fun u hu => (by rw [d2] at hu; cases hu), fun hs => (by rw [hs] at d4; cases d4), fun e n he => (by rw [capNone_ok d3] at he; cases he), fun p c hp => (by rw [d1] at hp; simp at hp), fun gi g hg i1 i2 j h1 h2 h3 => ?_⟩, fun p v hp => ?_⟩
   ·obtain ⟨os', h4, h5⟩ := mSegs_ok h gi g hg
    rw [Nat.zero_add] at h4
    have := mSeg_ok h4 (fun o hm => ho o (h5 o hm)) hA i1 i2 j h1 h2 h3
    rw [d2]
    simp only [upsVal, List.getElem?_toArray, List.getElem?_drop]
    simpa using this
   ·simpa [List.getElem?_drop] using hp
  ·split at h
   case isFalse => cases h
   rename_i hc
   simp only [Bool.and_eq_true, List.isEmpty_iff, Bool.not_eq_true'] at hc
   obtain ⟨⟨⟨⟨d1, d2⟩, d3⟩, d4⟩, d5⟩ := hc
   split at h
   case h_2 => cases h
   rename_i o hlit
   have hoff : a.off ρ = o := SA.lit?_ok hlit
   split at h
   case isFalse => cases h
   rename_i hc2
   simp only [Bool.and_eq_true, Nat.ble_eq] at hc2
   have hsz : arr.size = A.cs.length := hA.size d4 d5
   refine ⟨((arr.toList.drop o).take T.cs.length).toArray, ⟨fun u hu => (by rw [d2] at hu; cases hu), fun _ _ => (by simp; omega), fun e n he => (by rw [capNone_ok d3] at he; cases he), fun p c hp hh => ?_, fun gi g hg => (by rw [d1] at hg; simp at hg)⟩, fun p v hp => ?_⟩
   ·obtain ⟨y, h1, h2, h3⟩ := mCells_ok hc2.2 p c hp hh
    rw [List.getElem?_drop] at h1
    have := hA.ex (o + p) y h1 h2
    have hpl : p < T.cs.length := (List.getElem?_eq_some_iff.1 hp).1
    rw [mSC_ok (ρ := ρ) (ν := ν) h3, List.getElem?_toArray, List.getElem?_take_of_lt hpl, List.getElem?_drop, Array.getElem?_toList]
    exact this
   ·rw [hoff]
    rw [List.getElem?_toArray] at hp
    have hpl : p < T.cs.length := by
     have := (List.getElem?_eq_some_iff.1 hp).1
     simp at this
     omega
    rw [List.getElem?_take_of_lt hpl, List.getElem?_drop, Array.getElem?_toList] at hp
    exact hp
 ·rename_i hro
  unfold mRw at h
  split at h
  ·rename_i hc
   simp only [Bool.and_eq_true, List.isEmpty_iff, Bool.not_eq_true', Bool.or_eq_true] at hc
   obtain ⟨⟨⟨⟨⟨d1, d2⟩, d3⟩, d4⟩, d5⟩, d6⟩ := hc
   have hoff : a.off ρ = 0 := SA.base_ok d1
   have key : ∀ arr, A.has ρ ν arr → T.has (σ.env ρ ν) (σ.adr ρ ν) arr := by
    intro arr hA
    refine ⟨fun u hu => (by rw [d6] at hu; cases hu), fun hs hop => ?_, fun e n he => ?_, fun p c hp hh => ?_, fun gi g hg i1 i2 j h1 h2 h3 => ?_⟩
    ·rcases d3 with (d3 | d3) | d3
     ·rw [hop] at d3; cases d3
     ·rw [hs] at d3; cases d3
     ·simp only [beq_iff_eq] at d3
      rw [d3.2]
      exact hA.size d3.1.1 d3.1.2
    ·unfold mCap at d4
     rw [he] at d4
     split at d4
     ·rename_i heq; cases heq
     ·rename_i e1 n1 f m heq hAc
      cases heq
      simp only [Bool.and_eq_true, beq_iff_eq] at d4
      rw [mIE_ok (ν := ν) d4.1, d4.2]
      exact hA.cap f m hAc
     ·cases d4
    ·obtain ⟨y, h1, h2, h3⟩ := mCells_ok d5 p c hp hh
     rw [mSC_ok (ρ := ρ) (ν := ν) h3]
     exact hA.ex p y h1 h2
    ·obtain ⟨os', h4, h5⟩ := mSegs_ok h gi g hg
     rw [Nat.zero_add] at h4
     have := mSeg_ok h4 (fun o hm => ho o (h5 o hm)) hA i1 i2 j h1 h2 h3
     rw [d6]
     simp only [upsVal]
     rw [hoff, Nat.zero_add] at this
     exact this
   exact ⟨fun _ => ⟨d2, hoff⟩, fun _ => key, fun arr hA => ⟨arr, key arr hA, fun p v hp => by rw [hoff, Nat.zero_add]; exact hp⟩, fun h => (hro h).elim⟩
  ·cases h
theorem mSBx_segs {T A : SB} {a : SA} {os : List BE} (h : mSBx σ T A a = some os) (hr : T.ro = true) (hs : T.segs = []) : A.segs = [] := by
 unfold mSBx at h
 split at h
 ·cases h
 unfold mRo at h
 split at h
 ·rename_i hc
  simp [hs] at hc
 ·split at h
  ·rename_i hc
   simp only [Bool.and_eq_true, List.isEmpty_iff, Bool.not_eq_true'] at hc
   exact hc.1.2
  ·cases h
theorem Addr.add_zero' (a : Addr) : a.add 0 = a := Addr.add_zero a
theorem mBlk_ok {hp : List SB} {k : Nat} {T : SB} {os : List BE} (h : mBlk σ hp k T = some os) (ho : ∀ o ∈ os, o.den ρ = true) (hd : T.dead (σ.env ρ ν) = false) : ∃ a A, IsBlk ρ ν σ hp k T a A := by
 have hg := SB.live_gone hd
 unfold mBlk at h
 rw [hg] at h
 simp only [Bool.false_eq_true, if_false] at h
 split at h
 ·rename_i hk
  have hk' : k < σ.lob := by simpa using hk
  have hadr : σ.adr ρ ν k = (ν k).add (({ blk := k } : SA).off ρ) := by simp [Sub.adr, hk', SA.off, IE.den, Addr.add_zero]
  have hblk : σ.blk k = some k := by simp [Sub.blk, hk]
  split at h
  ·rename_i A hA
   split at h
   ·rename_i hc
    simp only [Bool.and_eq_true] at hc
    obtain ⟨e1, e2, e3, e4, e5, e6⟩ := SB.wk_ok (ρ := ρ) (ν := ν) hc.1 hg
    have hd' : T.dead ρ = false := by rwa [SB.sc_dead (σ.agr ρ ν) hc.2] at hd
    have hh : ∀ arr, A.has ρ ν arr → T.has (σ.env ρ ν) (σ.adr ρ ν) arr := fun arr ha => SB.sc_has (σ.agr ρ ν) hc.2 hg (e6 arr ha)
    have h0 : ({ blk := k } : SA).off ρ = 0 := by simp [SA.off, IE.den]
    exact ⟨{ blk := k }, A, ⟨hblk, hA, hadr, SB.wk_dead hc.1 hd', e5, e4, fun hr => ⟨e3 ▸ hr, h0⟩, fun _ => hh, fun arr ha => ⟨arr, hh arr ha, fun p v hp => by rw [h0, Nat.zero_add]; exact hp⟩, fun hr hr' => (by rw [e3, hr'] at hr; cases hr), fun _ => SB.wk_segs hc.1 hg⟩⟩
   ·obtain ⟨h1, h2, h3, h4, h5, h6, h7⟩ := mSBx_ok (ν := ν) h ho hd
    exact ⟨{ blk := k }, A, ⟨hblk, hA, hadr, h1, h2, h3, h4, h5, h6, h7, mSBx_segs h⟩⟩
  ·cases h
 ·rename_i hk
  have hk' : ¬ k < σ.lob := by simpa using hk
  split at h
  ·rename_i a ha
   split at h
   ·rename_i A hA
    obtain ⟨h1, h2, h3, h4, h5, h6, h7⟩ := mSBx_ok (ν := ν) h ho hd
    exact ⟨a, A, ⟨by simp [Sub.blk, hk, ha], hA, by simp [Sub.adr, hk', ha, SA.den], h1, h2, h3, h4, h5, h6, h7, mSBx_segs h⟩⟩
   ·cases h
  ·split at h
   ·rename_i hc
    simp only [Bool.and_eq_true] at hc
    have := mBE_ok (ρ := ρ) (ν := ν) hc.2
    simp only [SB.dead, hg, Bool.false_or] at hd
    rw [hd] at this
    cases this
   ·cases h
theorem block_add (a : Addr) (n : Nat) : (a.add n).block = a.block := by
 unfold Addr.add
 split <;> rfl
theorem inst_blk {Ts hp : List SB} {os : List BE} (h : instHp σ Ts hp = some os) (ho : ∀ o ∈ os, o.den ρ = true) {k : Nat} {T : SB} (hk : Ts[k]? = some T) (hd : T.dead (σ.env ρ ν) = false) :
  ∃ a A, IsBlk ρ ν σ hp k T a A := by
 unfold instHp at h
 split at h
 ·obtain ⟨os', h1, h2⟩ := mBlks_ok h k T hk
  rw [Nat.zero_add] at h1
  exact mBlk_ok h1 (fun o hm => ho o (h2 o hm)) hd
 ·cases h
theorem inst_apart {Ts hp : List SB} {os : List BE} (h : instHp σ Ts hp = some os) {i j : Nat} {T U : SB} (hi : Ts[i]? = some T) (hj : Ts[j]? = some U) (hne : i ≠ j) (hg : T.gone = false) (hg' : U.gone = false)
  (hr : T.ro = false ∨ U.ro = false) {x y : Nat} (hx : σ.blk i = some x) (hy : σ.blk j = some y) : x ≠ y := by
 unfold instHp at h
 split at h
 ·rename_i hap
  by_cases h1 : i < σ.lob
  ·by_cases h2 : j < σ.lob
   ·simp [Sub.blk, h1] at hx
    simp [Sub.blk, h2] at hy
    omega
   ·have := apartAll_ok hap j U hj (by omega) hg'
    rw [Nat.zero_add] at this
    have := apartFrom_ok this i T hi (by omega) hg (by rcases hr with hr | hr <;> simp [hr]) y x hy (by rw [Nat.zero_add]; exact hx)
    exact fun e => this e.symm
  ·have := apartAll_ok hap i T hi (by omega) hg
   rw [Nat.zero_add] at this
   exact apartFrom_ok this j U hj (by omega) hg' (by rcases hr with hr | hr <;> simp [hr]) x y hx (by rw [Nat.zero_add]; exact hy)
 ·cases h
theorem inst_ok {Ts hp : List SB} {os : List BE} (h : instHp σ Ts hp = some os) (ho : ∀ o ∈ os, o.den ρ = true) {w : World} (hh : HpOK ρ ν hp w) : HpOK (σ.env ρ ν) (σ.adr ρ ν) Ts w := by
 refine ⟨fun i j T U hi hj hT hU hr he => ?_, fun k T hk hT hr => ?_, fun k T hk hT hr => ?_⟩
 ·obtain ⟨a, A, hA⟩ := inst_blk h ho hi hT
  obtain ⟨b, B, hB⟩ := inst_blk h ho hj hU
  by_cases hne : i = j
  ·exact hne
  ·exfalso
   have hxy := inst_apart h hi hj hne (SB.live_gone hT) (SB.live_gone hU) (.inl hr) hA.blk hB.blk
   rw [hA.adr, hB.adr, block_add, block_add] at he
   exact hxy (hh.inj _ _ A B hA.hp hB.hp hA.live hB.live (hA.ro hr).1 he)
 ·obtain ⟨a, A, hA⟩ := inst_blk h ho hk hT
  obtain ⟨h1, h2⟩ := hA.ro hr
  obtain ⟨h0, arr, h3, h4⟩ := hh.blk _ A hA.hp hA.live h1
  rw [hA.adr, h2, Addr.add_zero]
  exact ⟨h0, arr, by rw [hA.t]; exact h3, hA.rw_ hr arr h4⟩
 ·obtain ⟨a, A, hA⟩ := inst_blk h ho hk hT
  obtain ⟨arr, h1, h2⟩ := hh.cells hA.hp hA.live (hA.mp hr)
  obtain ⟨arr', h3, h4⟩ := hA.rd arr h1
  rw [hA.adr]
  refine ⟨by rw [block_add]; exact (hh.lies hA.hp hA.live (hA.mp hr)).of (hA.sg hr) hA.t (Nat.le_refl _) rfl, arr', h3, fun p v hp => ?_⟩
  rw [Addr.add_add]
  exact h2 _ _ (h4 p v hp)
end
end Go.Rex
