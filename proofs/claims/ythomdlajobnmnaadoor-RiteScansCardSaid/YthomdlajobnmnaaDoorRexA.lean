/- Rex, part A: which variables and blocks a term speaks of; environments that agree on these. -/
import Derived.Test.YthomdlajobnmnaaDoorRex9
set_option linter.unusedSimpArgs false
set_option linter.unusedVariables false
namespace Go.Rex

/-! ### does a term speak of variables and blocks below these numbers alone? -/
def IE.sc (n : Nat) : IE → Bool
 | .lit _ => true
 | .var i => Nat.blt i n
 | .add a b | .sub a b | .mul a b | .div a b | .mod a b | .imin a b | .imax a b => a.sc n && b.sc n
 | .wrap _ a => a.sc n
 | .cell r a b _ => Nat.blt r n && a.sc n && b.sc n
def BE.sc (n : Nat) : BE → Bool
 | .lit _ => true
 | .var i => Nat.blt i n
 | .not a => a.sc n
 | .and a b | .or a b | .beq a b => a.sc n && b.sc n
 | .ite a b c => a.sc n && b.sc n && c.sc n
 | .ieq a b | .ile a b | .ilt a b => IE.sc n a && IE.sc n b
 | .inr _ a => IE.sc n a
 | .cell r a b _ => Nat.blt r n && IE.sc n a && IE.sc n b
def SA.sc (nv n : Nat) (a : SA) : Bool := Nat.blt a.blk n && a.i1.sc nv && a.i2.sc nv
def SC.sc (nv n : Nat) : SC → Bool
 | .int _ e => e.sc nv
 | .bool b => b.sc nv
 | .val i => Nat.blt i nv
 | .vcell r a b _ => Nat.blt r nv && a.sc nv && b.sc nv
 | .ptr a => a.sc nv n
 | .sl a l c => a.sc nv n && l.sc nv && c.sc nv
 | .sln k a l c => k.sc nv && a.sc nv n && l.sc nv && c.sc nv
 | .fn _ caps => caps.all (Nat.blt · n)
 | .iface _ c => c.sc nv n
 | .ifn k c => k.sc nv && c.sc nv n
 | .mp b => Nat.blt b n
 | _ => true
def scsSc (nv n : Nat) : List SC → Bool
 | [] => true
 | c :: r => c.sc nv n && scsSc nv n r
def SW.sc (nv n : Nat) (x : SW) : Bool := scsSc nv n x.cells
def swsSc (nv n : Nat) : List SW → Bool
 | [] => true
 | c :: r => c.sc nv n && swsSc nv n r
def SV.sc (nv n : Nat) : SV → Bool
 | .w x => x.sc nv n
 | .tup xs => swsSc nv n xs
 | .gd c x => c.sc nv && x.sc nv n
def bsSc (nv : Nat) : List BE → Bool
 | [] => true
 | b :: r => b.sc nv && bsSc nv r
def knSc (nv : Nat) : Kn → Bool
 | [] => true
 | b :: r => b.1.sc nv && knSc nv r
def segsSc (nv : Nat) : List Seg → Bool
 | [] => true
 | g :: r => Nat.blt g.r nv && g.n1.sc nv && segsSc nv r
def upsSc (nv n : Nat) : List Up → Bool
 | [] => true
 | u :: r => u.i1.sc nv && u.i2.sc nv && u.c.sc nv n && upsSc nv n r
def SB.sc (nv n : Nat) (b : SB) : Bool := b.gone || (scsSc nv n b.cs && segsSc nv b.segs && upsSc nv n b.ups && (match b.cap with | some (e, _) => e.sc nv | none => true) && b.nl.sc nv)
def hpSc (nv n : Nat) : List SB → Bool
 | [] => true
 | b :: r => b.sc nv n && hpSc nv n r
def frSc (nv n : Nat) : Fr → Bool
 | [] => true
 | x :: r => x.2.sc nv n && frSc nv n r
structure Agr (nv n : Nat) (ρ ρ' : Env) (ν ν' : Nat → Addr) : Prop where
 iv : ∀ i, i < nv → ρ'.iv i = ρ.iv i
 bv : ∀ i, i < nv → ρ'.bv i = ρ.bv i
 vv : ∀ i, i < nv → ρ'.vv i = ρ.vv i
 ic : ∀ i, i < nv → ρ'.ic i = ρ.ic i
 bc : ∀ i, i < nv → ρ'.bc i = ρ.bc i
 vc : ∀ i, i < nv → ρ'.vc i = ρ.vc i
 bl : ∀ i, i < n → ν' i = ν i
theorem Agr.refl (nv n : Nat) (ρ : Env) (ν : Nat → Addr) : Agr nv n ρ ρ ν ν := ⟨fun _ _ => rfl, fun _ _ => rfl, fun _ _ => rfl, fun _ _ => rfl, fun _ _ => rfl, fun _ _ => rfl, fun _ _ => rfl⟩
theorem Agr.trans {nv n nv' n' : Nat} {ρ ρ' ρ'' : Env} {ν ν' ν'' : Nat → Addr} (h : Agr nv n ρ ρ' ν ν') (h' : Agr nv' n' ρ' ρ'' ν' ν'') (h1 : nv ≤ nv') (h2 : n ≤ n') : Agr nv n ρ ρ'' ν ν'' :=
 ⟨fun i hi => (h'.iv i (Nat.lt_of_lt_of_le hi h1)).trans (h.iv i hi), fun i hi => (h'.bv i (Nat.lt_of_lt_of_le hi h1)).trans (h.bv i hi), fun i hi => (h'.vv i (Nat.lt_of_lt_of_le hi h1)).trans (h.vv i hi),
  fun i hi => (h'.ic i (Nat.lt_of_lt_of_le hi h1)).trans (h.ic i hi), fun i hi => (h'.bc i (Nat.lt_of_lt_of_le hi h1)).trans (h.bc i hi), fun i hi => (h'.vc i (Nat.lt_of_lt_of_le hi h1)).trans (h.vc i hi),
  fun i hi => (h'.bl i (Nat.lt_of_lt_of_le hi h2)).trans (h.bl i hi)⟩
theorem Agr.symm {nv n : Nat} {ρ ρ' : Env} {ν ν' : Nat → Addr} (hA : Agr nv n ρ ρ' ν ν') : Agr nv n ρ' ρ ν' ν :=
 ⟨fun i hi => (hA.iv i hi).symm, fun i hi => (hA.bv i hi).symm, fun i hi => (hA.vv i hi).symm, fun i hi => (hA.ic i hi).symm, fun i hi => (hA.bc i hi).symm, fun i hi => (hA.vc i hi).symm, fun i hi => (hA.bl i hi).symm⟩
theorem Agr.less {nv n nv' n' : Nat} {ρ ρ' : Env} {ν ν' : Nat → Addr} (h : Agr nv' n' ρ ρ' ν ν') (h1 : nv ≤ nv') (h2 : n ≤ n') : Agr nv n ρ ρ' ν ν' :=
 (Agr.refl nv n ρ ν).trans h h1 h2
theorem Agr.join {nv n : Nat} {ρ ρ' : Env} {ν ν' : Nat → Addr} (h : Agr nv n ρ ρ' ν ν') : ρ.join nv ρ' = ρ' := by
 obtain ⟨a, b, c, d, e, f⟩ := ρ'
 simp only [Env.join, Env.mk.injEq]
 refine ⟨?_, ?_, ?_, ?_, ?_, ?_⟩ <;> funext i <;> split
 ·rename_i hi; exact (h.iv i hi).symm
 ·rfl
 ·rename_i hi; exact (h.bv i hi).symm
 ·rfl
 ·rename_i hi; exact (h.vv i hi).symm
 ·rfl
 ·rename_i hi; exact (h.ic i hi).symm
 ·rfl
 ·rename_i hi; exact (h.bc i hi).symm
 ·rfl
 ·rename_i hi; exact (h.vc i hi).symm
 ·rfl
theorem Agr.of_join (nv n : Nat) (ρ e : Env) (ν ν' : Nat → Addr) (hb : ∀ i, i < n → ν' i = ν i) : Agr nv n ρ (ρ.join nv e) ν ν' :=
 ⟨fun i hi => by simp [Env.join, hi], fun i hi => by simp [Env.join, hi], fun i hi => by simp [Env.join, hi], fun i hi => by simp [Env.join, hi], fun i hi => by simp [Env.join, hi], fun i hi => by simp [Env.join, hi], hb⟩

theorem hpSc_at {nv n : Nat} : ∀ {hp : List SB}, hpSc nv n hp = true → ∀ (k : Nat) (sb : SB), hp[k]? = some sb → sb.sc nv n = true
 | [], _, k, sb, h => by simp at h
 | b :: r, hs, k, sb, h => by
  simp only [hpSc, Bool.and_eq_true] at hs
  cases k with
  | zero => simp at h; rw [← h]; exact hs.1
  | succ k => exact hpSc_at hs.2 k sb (by simpa using h)
section
variable {nv n : Nat} {ρ ρ' : Env} {ν ν' : Nat → Addr} (hA : Agr nv n ρ ρ' ν ν')
include hA
theorem IE.sc_den : ∀ {e : IE}, e.sc nv = true → e.den ρ' = e.den ρ := by
 intro e
 induction e with
 | lit n => intro _; rfl
 | var i => intro h; exact hA.iv i (by simpa [IE.sc] using h)
 | add a b iha ihb | sub a b iha ihb | mul a b iha ihb | div a b iha ihb | mod a b iha ihb | imin a b iha ihb | imax a b iha ihb =>
  intro h
  simp only [IE.sc, Bool.and_eq_true] at h
  simp only [IE.den, iha h.1, ihb h.2]
 | wrap k a ih => intro h; simp only [IE.den, ih (by simpa [IE.sc] using h)]
 | cell r a b j iha ihb =>
  intro h
  simp only [IE.sc, Bool.and_eq_true, Nat.blt_eq] at h
  simp only [IE.den, iha h.1.2, ihb h.2, hA.ic r h.1.1]
theorem BE.sc_den : ∀ {e : BE}, e.sc nv = true → e.den ρ' = e.den ρ := by
 intro e
 induction e with
 | lit n => intro _; rfl
 | var i => intro h; exact hA.bv i (by simpa [BE.sc] using h)
 | not a ih => intro h; simp only [BE.den, ih (by simpa [BE.sc] using h)]
 | and a b iha ihb | or a b iha ihb | beq a b iha ihb =>
  intro h
  simp only [BE.sc, Bool.and_eq_true] at h
  simp only [BE.den, iha h.1, ihb h.2]
 | ite a b c iha ihb ihc =>
  intro h
  simp only [BE.sc, Bool.and_eq_true] at h
  simp only [BE.den, iha h.1.1, ihb h.1.2, ihc h.2]
 | ieq a b | ile a b | ilt a b =>
  intro h
  simp only [BE.sc, Bool.and_eq_true] at h
  simp only [BE.den, IE.sc_den hA h.1, IE.sc_den hA h.2]
 | inr k a => intro h; simp only [BE.den, IE.sc_den hA (show a.sc nv = true by simpa [BE.sc] using h)]
 | cell r a b j =>
  intro h
  simp only [BE.sc, Bool.and_eq_true, Nat.blt_eq] at h
  simp only [BE.den, IE.sc_den hA h.1.2, IE.sc_den hA h.2, hA.bc r h.1.1]
theorem SA.sc_den {a : SA} (h : a.sc nv n = true) : a.den ρ' ν' = a.den ρ ν := by
 simp only [SA.sc, Bool.and_eq_true, Nat.blt_eq] at h
 simp only [SA.den, SA.off, hA.bl _ h.1.1, IE.sc_den hA h.1.2, IE.sc_den hA h.2]
theorem SC.sc_den : ∀ {c : SC}, c.sc nv n = true → c.den ρ' ν' = c.den ρ ν := by
 intro c
 induction c with
 | int k e => intro h; simp only [SC.den, IE.sc_den hA (show e.sc nv = true by simpa [SC.sc] using h)]
 | bool e => intro h; simp only [SC.den, BE.sc_den hA (show e.sc nv = true by simpa [SC.sc] using h)]
 | val i => intro h; simp only [SC.sc, Nat.blt_eq] at h; simp only [SC.den, hA.vv i h]
 | vcell r a b j =>
  intro h
  simp only [SC.sc, Bool.and_eq_true, Nat.blt_eq] at h
  simp only [SC.den, IE.sc_den hA h.1.2, IE.sc_den hA h.2, hA.vc r h.1.1]
 | sln k a l c =>
  intro h
  simp only [SC.sc, Bool.and_eq_true] at h
  simp only [SC.den, BE.sc_den hA h.1.1.1, SA.sc_den hA h.1.1.2, IE.sc_den hA h.1.2, IE.sc_den hA h.2]
 | ptr a => intro h; simp only [SC.den, SA.sc_den hA (show a.sc nv n = true by simpa [SC.sc] using h)]
 | sl a l c =>
  intro h
  simp only [SC.sc, Bool.and_eq_true] at h
  simp only [SC.den, SA.sc_den hA h.1.1, IE.sc_den hA h.1.2, IE.sc_den hA h.2]
 | fn f caps =>
  intro h
  simp only [SC.sc, List.all_eq_true, Nat.blt_eq] at h
  simp only [SC.den]
  congr 2
  exact List.map_congr_left fun b hb => by rw [hA.bl b (h b hb)]
 | iface t c ih => intro h; simp only [SC.den, ih (by simpa [SC.sc] using h)]
 | ifn k c ih =>
  intro h
  simp only [SC.sc, Bool.and_eq_true] at h
  simp only [SC.den, BE.sc_den hA h.1, ih h.2]
 | mp b => intro h; simp only [SC.sc, Nat.blt_eq] at h; simp only [SC.den, hA.bl b h]
 | _ => intro _; rfl
theorem scs_den : ∀ {cs : List SC}, scsSc nv n cs = true → ∀ c ∈ cs, c.den ρ' ν' = c.den ρ ν
 | [], _, _, h => by cases h
 | c :: r, hs, d, h => by
  simp only [scsSc, Bool.and_eq_true] at hs
  rcases List.mem_cons.1 h with rfl | h
  ·exact SC.sc_den hA hs.1
  ·exact scs_den hs.2 d h
theorem SW.sc_den {x : SW} (h : x.sc nv n = true) : x.den ρ' ν' = x.den ρ ν := by
 cases x with
 | one c => exact scs_den hA h c (by simp [SW.cells])
 | agg cs =>
  simp only [SW.den]
  congr 2
  exact List.map_congr_left (scs_den hA h)
theorem sws_den : ∀ {cs : List SW}, swsSc nv n cs = true → ∀ c ∈ cs, c.den ρ' ν' = c.den ρ ν
 | [], _, _, h => by cases h
 | c :: r, hs, d, h => by
  simp only [swsSc, Bool.and_eq_true] at hs
  rcases List.mem_cons.1 h with rfl | h
  ·exact SW.sc_den hA hs.1
  ·exact sws_den hs.2 d h
theorem SV.sc_den {x : SV} (h : x.sc nv n = true) : x.den ρ' ν' = x.den ρ ν := by
 cases x with
 | w x => exact SW.sc_den hA h
 | tup xs =>
  simp only [SV.den]
  congr 2
  exact List.map_congr_left (sws_den hA h)
 | gd c x =>
  simp only [SV.sc, Bool.and_eq_true] at h
  simp only [SV.den, BE.sc_den hA h.1, SW.sc_den hA h.2]
theorem bs_den : ∀ {cs : List BE}, bsSc nv cs = true → ∀ c ∈ cs, c.den ρ' = c.den ρ
 | [], _, _, h => by cases h
 | c :: r, hs, d, h => by
  simp only [bsSc, Bool.and_eq_true] at hs
  rcases List.mem_cons.1 h with rfl | h
  ·exact BE.sc_den hA hs.1
  ·exact bs_den hs.2 d h
theorem kn_den : ∀ {kn : Kn}, knSc nv kn = true → Kn.ok ρ kn → Kn.ok ρ' kn
 | [], _, _ => fun p hp => by cases hp
 | c :: r, hs, hk => fun p hp => by
  simp only [knSc, Bool.and_eq_true] at hs
  rcases List.mem_cons.1 hp with rfl | hp
  ·rw [BE.sc_den hA hs.1]; exact hk _ (by simp)
  ·exact kn_den hs.2 (fun q hq => hk q (by simp [hq])) p hp
theorem segs_den : ∀ {gs : List Seg}, segsSc nv gs = true → ∀ g ∈ gs, g.r < nv ∧ g.n1.den ρ' = g.n1.den ρ
 | [], _, _, h => by cases h
 | c :: r, hs, d, h => by
  simp only [segsSc, Bool.and_eq_true, Nat.blt_eq] at hs
  rcases List.mem_cons.1 h with rfl | h
  ·exact ⟨hs.1.1, IE.sc_den hA hs.1.2⟩
  ·exact segs_den hs.2 d h
theorem ups_den : ∀ {us : List Up}, upsSc nv n us = true → ∀ u ∈ us, u.i1.den ρ' = u.i1.den ρ ∧ u.i2.den ρ' = u.i2.den ρ ∧ u.c.den ρ' ν' = u.c.den ρ ν
 | [], _, _, h => by cases h
 | c :: r, hs, d, h => by
  simp only [upsSc, Bool.and_eq_true] at hs
  rcases List.mem_cons.1 h with rfl | h
  ·exact ⟨IE.sc_den hA hs.1.1.1, IE.sc_den hA hs.1.1.2, SC.sc_den hA hs.1.2⟩
  ·exact ups_den hs.2 d h
theorem upsVal_den : ∀ {us : List Up}, upsSc nv n us = true → ∀ g i1 i2 j b, upsVal ρ' ν' us g i1 i2 j b = upsVal ρ ν us g i1 i2 j b
 | [], _ => fun _ _ _ _ _ => rfl
 | u :: r, hs => fun g i1 i2 j b => by
  obtain ⟨h1, h2, h3⟩ := ups_den hA hs u (by simp)
  simp only [upsSc, Bool.and_eq_true] at hs
  simp only [upsVal, h1, h2, h3, upsVal_den hs.2]
theorem Seg.base_den (g : Seg) (hr : g.r < nv) (i1 i2 j : Nat) : g.base ρ' i1 i2 j = g.base ρ i1 i2 j := by
 simp only [Seg.base, hA.ic g.r hr, hA.bc g.r hr, hA.vc g.r hr]
theorem SB.sc_nl {sb : SB} (hs : sb.sc nv n = true) (hg : sb.gone = false) : sb.nl.den ρ' = sb.nl.den ρ := by
 simp only [SB.sc, hg, Bool.false_or, Bool.and_eq_true] at hs
 exact BE.sc_den hA hs.2
theorem SB.sc_dead {sb : SB} (hs : sb.sc nv n = true) : sb.dead ρ' = sb.dead ρ := by
 cases hg : sb.gone with
 | true => simp [SB.dead, hg]
 | false => simp [SB.dead, hg, SB.sc_nl hA hs hg]
theorem SB.sc_has {sb : SB} (hs : sb.sc nv n = true) (hg : sb.gone = false) {cs : Array Value} (h : sb.has ρ ν cs) : sb.has ρ' ν' cs := by
 simp only [SB.sc, hg, Bool.false_or, Bool.and_eq_true] at hs
 obtain ⟨⟨⟨⟨h1, h2⟩, h3⟩, h4⟩, -⟩ := hs
 refine ⟨fun u hu => ?_, h.size, fun e m he => ?_, fun p c hp hh => ?_, fun gi g hg i1 i2 j a1 a2 a3 => ?_⟩
 ·obtain ⟨e1, e2, -⟩ := ups_den hA h3 u hu
  rw [e1, e2]; exact h.un u hu
 ·rw [he] at h4
  rw [IE.sc_den hA h4]; exact h.cap e m he
 ·rw [scs_den hA h1 c (List.mem_of_getElem? hp)]; exact h.ex p c hp hh
 ·obtain ⟨hr, hn⟩ := segs_den hA h2 g (List.mem_of_getElem? hg)
  rw [hn] at a1
  rw [upsVal_den hA h3, Seg.base_den hA g hr]
  exact h.sg gi g hg i1 i2 j a1 a2 a3
theorem HpOK.ext {hp : List SB} {w : World} (hs : hpSc nv n hp = true) (hl : hp.length ≤ n) (h : HpOK ρ ν hp w) : HpOK ρ' ν' hp w := by
 have hlt : ∀ (k : Nat) (sb : SB), hp[k]? = some sb → k < n := fun k sb hk => Nat.lt_of_lt_of_le (List.getElem?_eq_some_iff.1 hk).1 hl
 have hd : ∀ (k : Nat) (sb : SB), hp[k]? = some sb → sb.dead ρ' = false → sb.dead ρ = false := fun k sb hk h => by rwa [SB.sc_dead hA (hpSc_at hs k sb hk)] at h
 refine ⟨fun i j a b hi hj ga gb ra he => h.inj i j a b hi hj (hd i a hi ga) (hd j b hj gb) ra ?_, fun k sb hk hg hr => ?_, fun k sb hk hg hr => ?_⟩
 ·rwa [hA.bl i (hlt i a hi), hA.bl j (hlt j b hj)] at he
 ·obtain ⟨h0, cs, h1, h2⟩ := h.blk k sb hk (hd k sb hk hg) hr
  rw [hA.bl k (hlt k sb hk)]
  exact ⟨h0, cs, h1, SB.sc_has hA (hpSc_at hs k sb hk) (SB.live_gone hg) h2⟩
 ·obtain ⟨h0, cs, h1, h2⟩ := h.rd k sb hk (hd k sb hk hg) hr
  rw [hA.bl k (hlt k sb hk)]
  exact ⟨h0, cs, SB.sc_has hA (hpSc_at hs k sb hk) (SB.live_gone hg) h1, h2⟩
end
theorem HpOK.ext_iff {nv n : Nat} {ρ ρ' : Env} {ν ν' : Nat → Addr} (hA : Agr nv n ρ ρ' ν ν') {hp : List SB} {w : World} (hs : hpSc nv n hp = true) (hl : hp.length ≤ n) :
  HpOK ρ ν hp w ↔ HpOK ρ' ν' hp w := ⟨HpOK.ext hA hs hl, HpOK.ext hA.symm hs hl⟩
theorem frSc_at {nv n : Nat} : ∀ {fr : Fr}, frSc nv n fr = true → ∀ t v, assoc t fr = some v → v.sc nv n = true
 | [], _, t, v, h => by simp [assoc] at h
 | (k, x) :: r, hs, t, v, h => by
  simp only [frSc, Bool.and_eq_true] at hs
  unfold assoc at h
  split at h
  ·simp at h; rw [← h]; exact hs.1
  ·exact frSc_at hs.2 t v h
theorem FrOK.ext {nv n : Nat} {ρ ρ' : Env} {ν ν' : Nat → Addr} (hA : Agr nv n ρ ρ' ν ν') {fr : Fr} {a : Act} (hs : frSc nv n fr = true) (h : FrOK ρ ν fr a) : FrOK ρ' ν' fr a := by
 intro t v ht
 rw [SV.sc_den hA (frSc_at hs t v ht)]
 exact h t v ht

end Go.Rex
