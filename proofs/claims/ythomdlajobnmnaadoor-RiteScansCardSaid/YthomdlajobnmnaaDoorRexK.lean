/- Rex, part K: what 'effOp' says is so. -/
import Derived.Test.YthomdlajobnmnaaDoorRexJ
set_option linter.unusedSimpArgs false
set_option linter.unusedVariables false
namespace Go.Rex

def adr1 (ν : Nat → Addr) (n g : Nat) : Nat → Addr := fun k => if k = n then ⟨g, 0, none⟩ else ν k
def set1 (ρ : Env) (i : Nat) (x : Int) : Env := { ρ with iv := fun j => if j = i then x else ρ.iv j }
theorem agr_adr1 (nv n : Nat) (ρ : Env) (ν : Nat → Addr) (g : Nat) : Agr nv n ρ ρ ν (adr1 ν n g) :=
 ⟨fun _ _ => rfl, fun _ _ => rfl, fun _ _ => rfl, fun _ _ => rfl, fun _ _ => rfl, fun _ _ => rfl, fun i hi => by simp [adr1, show i ≠ n by omega]⟩
theorem agr_set1 (nv n : Nat) (ρ : Env) (ν : Nat → Addr) (g : Nat) (x : Int) : Agr nv n ρ (set1 ρ nv x) ν (adr1 ν n g) :=
 ⟨fun i hi => by simp [set1, show i ≠ nv by omega], fun _ _ => rfl, fun _ _ => rfl, fun _ _ => rfl, fun _ _ => rfl, fun _ _ => rfl, fun i hi => by simp [adr1, show i ≠ n by omega]⟩
def AppOK (ρ : Env) (ν : Nat → Addr) (w : World) (hp : List SB) (nv : Nat) (b : Option Nat) (v : SV) (sb : SB) (fs : List QF) (vr : Value) (w' : World) : Prop :=
 fs ≠ [] ∧ ∃ (g : Nat) (ρ' : Env) (ob : Option Nat), Agr nv hp.length ρ ρ' ν (adr1 ν hp.length g) ∧ vr = v.den ρ' (adr1 ν hp.length g) ∧ (∀ f ∈ fs, f.den ρ') ∧ sb.ro = false ∧ w.grownBy w' ob ∧
  (ob = none ∨ ∃ k sb0, b = some k ∧ ob = some (ν k).block ∧ hp[k]? = some sb0 ∧ sb0.dead ρ = false ∧ sb0.ro = false ∧ sb0.own = true) ∧
  (sb.dead ρ' = false → (∃ cur, w'.heap[g]? = some (.cells cur sb.t (0, 0)) ∧ sb.has ρ' (adr1 ν hp.length g) cur) ∧ (ob = some g ∨ g = w.heap.size))
section
variable {P : Program} {ρ : Env} {ν : Nat → Addr} {w : World} {hp : List SB}
theorem appK_ok {nv n : Nat} {len : IE} {ρ' : Env} {cap : Nat} (hl : len.den ρ' = (n : Int)) (hc : ρ'.iv nv = (cap : Int)) (h1 : n ≤ cap) (h2 : cap ≤ maxLen) : (appK nv len).den ρ' = true := by
 simp only [maxLen] at h2
 simp only [appK, BE.den, IE.den, hl, hc, Bool.and_eq_true, decide_eq_true_eq]
 omega
theorem appBound_ok {len : IE} {n bytes : Nat} (hl : len.den ρ = (n : Int)) (h : (appBound len bytes).den ρ = true) : n * bytes ≤ 140737488355328 := by
 have := of_decide_eq_true h
 rw [mulS_den, hl] at this
 simp only [IE.den] at this
 exact Int.ofNat_le.1 (by rw [Int.natCast_mul]; exact this)
theorem scs_holes {cs : List SC} {p : Nat} {c : SC} (h : anyHole cs = false) (hp : cs[p]? = some c) : c.isHole = false := anyHole_ok h c (List.mem_of_getElem? hp)
theorem appTo_ok (hh : HpOK ρ ν hp w) {t ty e : TypeId} {te : TI} (ht : P.underlying t = some (.slice e)) (hte : TyOK P e te) {nv : Nat} {dst : SV} {m : Nat} {news : List SC} {b : Option Nat} {v : SV} {sb : SB} {k : Nat} {fs : List QF} {os : List BE}
  (h : appTo te e nv hp dst m news = .app b v sb k fs os) (ho : ∀ o ∈ os, o.den ρ = true) (A : Addr) (cx : Nat) (hn : ∀ j c, news[j]? = some c → w.cell? (A.add j) = some (c.den ρ ν)) :
  ∃ vr w', (Builtin.append_ #[t, t] ty #[dst.den ρ ν, .slice (some A) m cx]).run P w = .ok vr w' ∧ AppOK ρ ν w hp nv b v sb fs vr w' := by
 unfold appTo at h
 split at h
 ·cases h
 rename_i hc
 simp only [Bool.or_eq_true, decide_eq_true_eq, Bool.not_eq_true', not_or, beq_eq_false_iff_ne, ne_eq, Decidable.not_not, Bool.not_eq_false, Bool.not_eq_true] at hc
 obtain ⟨⟨⟨⟨⟨c1, c2⟩, c3⟩, c4⟩, c5⟩, c6⟩ := hc
 split at h
 ·cases h
 rename_i b' c' len old obs hold
 split at h
 ·cases h
 rename_i hlsc
 replace hlsc : len.sc nv = true := by simpa using hlsc
 have main : ∀ (sb : SB) (os : List BE), (∀ o ∈ os, o.den ρ = true) → os = appBound (len.addS (.lit m)) te.bytes :: obs → sb.t = e → sb.ro = false → sb.nl = .lit false → sb.gone = false →
   (∀ (n : Nat) (xs : List Value) (cur : Array Value) (ρ' : Env) (g : Nat), Agr nv hp.length ρ ρ' ν (adr1 ν hp.length g) → len.den ρ = (n : Int) → OldIs ρ ν te.size n xs old → xs.length = n * te.size → cur.toList.take ((n + m) * te.size) = xs ++ news.map (·.den ρ ν) → (∃ cap : Nat, ρ'.iv nv = cap ∧ cur.size = cap * te.size) → sb.has ρ' (adr1 ν hp.length g) cur) →
   ∃ vr w', (Builtin.append_ #[t, t] ty #[dst.den ρ ν, .slice (some A) m cx]).run P w = .ok vr w' ∧
    AppOK ρ ν w hp nv b' (.w (.one (.sl { blk := hp.length, i1 := .lit 0, s1 := te.size } (len.addS (.lit m)) (.var nv)))) sb [.be (appK nv (len.addS (.lit m)))] vr w' := by
  intro sb os ho hos ht' hro hnl hgn hhas
  subst hos
  obtain ⟨n, xs, hD, hn', hO⟩ := oldOf_ok (ν := ν) hh hold (fun o hm => ho o (List.mem_cons_of_mem _ hm))
  have hlen := (toNat_addS (len := len) (ρ := ρ) m (by omega)).2
  have hb := appBound_ok (n := n + m) (by rw [hlen, hn']; simp) (ho _ (List.mem_cons_self ..))
  obtain ⟨vr, w', hr, hg, hnil, hat⟩ := append_run (P := P) (ty := ty) ht hte (by omega) (by omega) hD.own (some A) m cx (by simp) (news.map (·.den ρ ν)) (by simpa using c3)
   (fun B hB j u hj => by
     cases hB
     rw [List.getElem?_map] at hj
     simp only [Option.map_eq_some_iff] at hj
     obtain ⟨c, hc, rfl⟩ := hj
     exact hn j c hc)
   (fun u hu => by
     simp only [List.mem_map] at hu
     obtain ⟨c, hc, rfl⟩ := hu
     exact SC.oneCell c (anyHole_ok c4 c hc)) hb
  refine ⟨vr, w', hr, ?_⟩
  rcases hat with hv | ⟨g, cap, cur, hv, hcur, h1, h2, h3, h4, h5⟩
  ·exact absurd (hnil.1 hv).2 c5
  ·have hag := agr_set1 nv hp.length ρ ν g cap
   have hlen' : (len.addS (.lit m)).den (set1 ρ nv cap) = ((n + m : Nat) : Int) := by
    rw [IE.addS_den, IE.sc_den hag hlsc, hn']; simp [IE.den]
   refine ⟨by simp, g, set1 ρ nv cap, (dst.den ρ ν).ownBlock, hag, ?_, ?_, hro, hg, ?_, fun _ => ⟨⟨cur, by rw [ht']; exact hcur, ?_⟩, h5⟩⟩
   ·have hcv : (IE.var nv).den (set1 ρ nv cap) = (cap : Int) := by simp [IE.den, set1]
    rw [hv]
    simp only [SV.den, SW.den, SC.den, hlen', hcv, Int.toNat_natCast]
    simp [SA.den, SA.off, IE.den, Addr.add_zero, adr1]
   ·intro f hf
    rw [List.mem_singleton.1 hf]
    exact appK_ok hlen' (by simp [set1]) h1 h2
   ·exact hD.blk
   ·exact hhas n xs cur _ g hag hn' hO hD.own.1 h4 ⟨cap, by simp [set1], h3⟩
 split at h
 ·rename_i cs
  split at h
  ·cases h
  rename_i hcsc
  replace hcsc : scsSc nv hp.length cs = true := by simpa using hcsc
  cases h
  refine main _ _ ho rfl rfl rfl rfl rfl ?_
  intro n xs cur ρ' g hag hn' hO hxl hcur hcap
  obtain ⟨o1, o2⟩ := hO
  obtain ⟨cap, hcv, hcs⟩ := hcap
  refine ⟨fun u hu => (by cases hu), fun _ h => (by cases h), fun e0 n0 he => ?_, fun p c hp' hh' => ?_, fun gi g hg => (by simp at hg)⟩
  ·simp only [Option.some.injEq, Prod.mk.injEq] at he
   obtain ⟨rfl, rfl⟩ := he
   simp only [IE.den, hcv]
   exact ⟨Int.natCast_nonneg _, by rw [Int.toNat_natCast]; exact hcs⟩
  ·simp only at hp'
   have hplt : p < (n + m) * te.size := by
    have := (List.getElem?_eq_some_iff.1 hp').1
    rw [List.length_append, o1, c3, ← Nat.add_mul] at this
    exact this
   have h1 : (cur.toList.take ((n + m) * te.size))[p]? = some (c.den ρ ν) := by
    rw [hcur]
    rw [List.getElem?_append, o1] at hp'
    rw [List.getElem?_append, hxl]
    split at hp'
    ·rename_i hlt
     rw [if_pos hlt]
     exact o2 p c hp' hh'
    ·rename_i hlt
     rw [if_neg hlt, List.getElem?_map, hp']; rfl
   rw [List.getElem?_take_of_lt hplt] at h1
   have hden : c.den ρ' (adr1 ν hp.length g) = c.den ρ ν := by
    rcases List.mem_append.1 (List.mem_of_getElem? hp') with hm | hm
    ·exact scs_den hag hcsc c hm
    ·exact scs_den hag c6 c hm
   rw [hden]
   simpa using h1
 ·rename_i g0 us
  split at h
  ·cases h
  rename_i hcsc
  replace hcsc : (CV.up g0 0 us (.lit 0)).sc nv hp.length = true := by simpa using hcsc
  simp only [CV.sc, Bool.and_eq_true, Nat.blt_eq] at hcsc
  obtain ⟨⟨⟨gr, gn⟩, gu⟩, -⟩ := hcsc
  cases h
  refine main _ _ ho rfl rfl rfl rfl rfl ?_
  intro n xs cur ρ' g hag hn' hO hxl hcur hcap
  obtain ⟨q1, q2, q3, q4, q5, q6, q7⟩ := hO
  obtain ⟨cap, hcv, hcs⟩ := hcap
  have hl0 : 0 ≤ len.den ρ := by omega
  have hl0' : 0 ≤ len.den ρ' := by rw [IE.sc_den hag hlsc]; exact hl0
  refine ⟨fun u hu => ?_, fun h => (by cases h), fun e0 n0 he => ?_, fun p c hp hh => (by simp at hp), fun gi g' hg i1 i2 j a1 a2 a3 => ?_⟩
  ·rcases List.mem_append.1 hu with hu | hu
   ·exact upsOf_un hl0' te.size news 0 u hu
   ·obtain ⟨e1, e2, -⟩ := ups_den hag gu u hu
    rw [e1, e2]
    exact q6 u hu
  ·simp only [Option.some.injEq, Prod.mk.injEq] at he
   obtain ⟨rfl, rfl⟩ := he
   simp only [IE.den, hcv]
   exact ⟨Int.natCast_nonneg _, by rw [Int.toNat_natCast]; exact hcs⟩
  ·cases gi with
   | succ gi => simp at hg
   | zero =>
    simp at hg
    subst hg
    simp only at a1 a2 a3 ⊢
    have hb : ({ g0 with n1 := len.addS (.lit (m : Nat)) } : Seg).base ρ' i1 i2 j = g0.base ρ i1 i2 j := by
     rw [← Seg.base_den hag g0 gr]; rfl
    rw [hb]
    rw [q2] at a2
    have hi2 : i2 = 0 := by omega
    subst hi2
    rw [(toNat_addS m hl0').2, IE.sc_den hag hlsc, hn'] at a1
    rw [q5] at a3
    rw [q1, q3, q4, Nat.zero_mul]
    simp only [Nat.add_zero]
    have hi1 : i1 < n + m := by omega
    have hpos : i1 * te.size + j < (n + m) * te.size := by
     have : (i1 + 1) * te.size ≤ (n + m) * te.size := Nat.mul_le_mul_right _ hi1
     rw [Nat.add_mul] at this
     omega
    have h1 : cur[i1 * te.size + j]? = (xs ++ news.map (·.den ρ ν))[i1 * te.size + j]? := by
     rw [← hcur, List.getElem?_take_of_lt hpos]
     simp
    have hln : (len.den ρ').toNat = n := by rw [IE.sc_den hag hlsc, hn']; simp
    rw [h1, List.getElem?_append, hxl]
    by_cases hlt : i1 < n
    ·have hin : i1 * te.size + j < n * te.size := by
      have : (i1 + 1) * te.size ≤ n * te.size := Nat.mul_le_mul_right _ hlt
      rw [Nat.add_mul] at this
      omega
     rw [if_pos hin, upsOf_old hl0' us _ (by rw [hln]; exact hlt), upsVal_den hag gu]
     exact q7 i1 j hlt a3
    ·have hge : n * te.size ≤ i1 * te.size := Nat.mul_le_mul_right _ (by omega)
     rw [if_neg (by omega), List.getElem?_map]
     obtain ⟨i, rfl⟩ : ∃ i, i1 = n + i := ⟨i1 - n, by omega⟩
     have hidx : (n + i) * te.size + j - n * te.size = i * te.size + j := by rw [Nat.add_mul]; omega
     rw [hidx]
     have hlt2 : i * te.size + j < news.length := by
      rw [c3]
      have : (i + 1) * te.size ≤ m * te.size := Nat.mul_le_mul_right _ (by omega)
      rw [Nat.add_mul] at this
      omega
     rw [List.getElem?_eq_getElem hlt2]
     have hun := upsOf_new (ν := adr1 ν hp.length g) hl0' a3 us (g0.base ρ (n + i) 0 j) news 0 (Nat.zero_le _) (news[i * te.size + j]) (by rw [Nat.sub_zero]; exact List.getElem?_eq_getElem hlt2)
     rw [hln] at hun
     rw [hun]
     rw [scs_den hag c6 _ (List.getElem_mem hlt2)]
     rfl
theorem SC.sc_I {nv n : Nat} {ρ' : Env} {ν' : Nat → Addr} (hA : Agr nv n ρ ρ' ν ν') {c : SC} (h : c.sc nv n = true) : c.I ρ' = c.I ρ ∧ c.B ρ' = c.B ρ := by
 cases c <;> simp only [SC.I, SC.B, and_self, true_and, and_true]
 ·exact IE.sc_den hA h
 ·exact BE.sc_den hA h
theorem upsI_den {nv n : Nat} {ρ' : Env} {ν' : Nat → Addr} (hA : Agr nv n ρ ρ' ν ν') : ∀ {us : List Up}, upsSc nv n us = true → ∀ g i1 i2 j, (∀ b, upsI ρ' us g i1 i2 j b = upsI ρ us g i1 i2 j b) ∧ (∀ b, upsB ρ' us g i1 i2 j b = upsB ρ us g i1 i2 j b)
 | [], _ => fun _ _ _ _ => ⟨fun _ => rfl, fun _ => rfl⟩
 | u :: r, hs => fun g i1 i2 j => by
  simp only [upsSc, Bool.and_eq_true] at hs
  obtain ⟨e1, e2⟩ := SC.sc_I hA hs.1.2
  obtain ⟨r1, r2⟩ := upsI_den hA hs.2 g i1 i2 j
  constructor
  ·intro b
   simp only [upsI, IE.sc_den hA hs.1.1.1, IE.sc_den hA hs.1.1.2, e1, r1]
  ·intro b
   simp only [upsB, IE.sc_den hA hs.1.1.1, IE.sc_den hA hs.1.1.2, e2, r2]
theorem CV.sc_den {nv n : Nat} {ρ' : Env} {ν' : Nat → Addr} (hA : Agr nv n ρ ρ' ν ν') {c : CV} (h : c.sc nv n = true) (i1 i2 j : Nat) : c.I ρ' i1 i2 j = c.I ρ i1 i2 j ∧ c.B ρ' i1 i2 j = c.B ρ i1 i2 j := by
 cases c with
 | up g gi us sh =>
  simp only [CV.sc, Bool.and_eq_true, Nat.blt_eq] at h
  obtain ⟨⟨⟨h1, h2⟩, h3⟩, h4⟩ := h
  simp only [CV.I, CV.B, IE.sc_den hA h4, (upsI_den hA h3 _ _ _ _).1, (upsI_den hA h3 _ _ _ _).2, Seg.I, Seg.B, hA.ic g.r h1, hA.bc g.r h1, and_self]
 | ex cs s1 s2 lo =>
  simp only [CV.sc] at h
  simp only [CV.I, CV.B, List.getD_eq_getElem?_getD]
  cases hc : cs[i1 * s1 + i2 * s2 + lo + j]? with
  | none => exact ⟨rfl, rfl⟩
  | some c =>
   have : ∀ {l : List SC}, scsSc nv n l = true → ∀ c ∈ l, c.sc nv n = true := by
    intro l
    induction l with
    | nil => intro _ c hc; cases hc
    | cons d r ih =>
     intro hs c hc
     simp only [scsSc, Bool.and_eq_true] at hs
     rcases List.mem_cons.1 hc with rfl | hc
     ·exact hs.1
     ·exact ih hs.2 c hc
   exact SC.sc_I hA (this h c (List.mem_of_getElem? hc))
theorem appBulk_ok (hh : HpOK ρ ν hp w) {t ty e : TypeId} {te : TI} (ht : P.underlying t = some (.slice e)) (hte : TyOK P e te) {nv : Nat} {dst : SV} {n : IE} {cv : CV} {os0 : List BE} {b : Option Nat} {v : SV} {sb : SB} {k : Nat} {fs : List QF} {os : List BE}
  (h : appBulk te e nv hp dst n cv os0 = .app b v sb k fs os) (ho : ∀ o ∈ os, o.den ρ = true) (src : Option Addr) (cx : Nat) (h0 : src = none → n.den ρ = 0)
  (hn : (∀ o ∈ os0, o.den ρ = true) → te.zero.length = te.size → 0 ≤ n.den ρ ∧ ∃ news : List Value, RowIs ρ ν (te.zero.map kdOf) te.size (n.den ρ).toNat news cv ∧ (∀ A, src = some A → ∀ j u, news[j]? = some u → w.cell? (A.add j) = some u) ∧ ∀ u ∈ news, u.oneCell' = true) :
  (∀ o ∈ os0, o.den ρ = true) ∧ ∃ vr w', (Builtin.append_ #[t, t] ty #[dst.den ρ ν, .slice src (n.den ρ).toNat cx]).run P w = .ok vr w' ∧ AppOK ρ ν w hp nv b v sb fs vr w' := by
 unfold appBulk at h
 split at h
 ·cases h
 rename_i hc
 simp only [Bool.or_eq_true, decide_eq_true_eq, Bool.not_eq_true', not_or, beq_eq_false_iff_ne, ne_eq, Decidable.not_not, Bool.not_eq_false] at hc
 obtain ⟨⟨⟨⟨c1, c2⟩, c3⟩, c4⟩, c5⟩ := hc
 split at h
 ·cases h
 rename_i b' c' len old obs hold
 split at h
 ·cases h
 rename_i hlsc
 simp only [Bool.or_eq_true, Bool.not_eq_true', not_or, Bool.not_eq_false] at hlsc
 obtain ⟨⟨⟨l1, l2⟩, l3⟩, l4⟩ := hlsc
 simp only [ER.app.injEq] at h
 obtain ⟨rfl, rfl, rfl, rfl, rfl, rfl⟩ := h
 have ho0 : ∀ o ∈ os0, o.den ρ = true := fun o hm => ho o (by simp [hm])
 refine ⟨ho0, ?_⟩
 obtain ⟨n0, news, hN, hsrc, hone⟩ := hn ho0 c3
 obtain ⟨nn, xs, hD, hn', hO⟩ := oldOf_ok (ν := ν) hh hold (fun o hm => ho o (by simp [hm]))
 have hX := old_row c3 hn' hD.own.1 hO l3
 have hlen : (len.addS n).den ρ = ((nn + (n.den ρ).toNat : Nat) : Int) := by rw [IE.addS_den, hn']; omega
 have hb := appBound_ok (n := nn + (n.den ρ).toNat) hlen (ho _ (List.mem_cons_self ..))
 obtain ⟨vr, w', hr, hg, hnil, hat⟩ := append_run (P := P) (ty := ty) ht hte (by omega) (by omega) hD.own src (n.den ρ).toNat cx (fun hs => by rw [h0 hs]; rfl) news hN.len hsrc hone hb
 refine ⟨vr, w', hr, ?_⟩
 -- the new variables
 let mk : Nat → Env := fun cap => { ρ with
   iv := fun i => if i = nv then (cap : Int) else ρ.iv i
   ic := fun r => if r = nv + 1 then fun i _ j => if i < nn then (cvOld te old).I ρ i 0 j else cv.I ρ (i - nn) 0 j else ρ.ic r
   bc := fun r => if r = nv + 1 then fun i _ j => if i < nn then (cvOld te old).B ρ i 0 j else cv.B ρ (i - nn) 0 j else ρ.bc r
   vc := fun r => if r = nv + 1 then fun i _ j => if i < nn then (cvOld te old).V ρ ν i 0 j else cv.V ρ ν (i - nn) 0 j else ρ.vc r }
 have hag : ∀ cap g, Agr nv hp.length ρ (mk cap) ν (adr1 ν hp.length g) := fun cap g =>
  ⟨fun i hi => by simp [mk, show i ≠ nv by omega], fun _ _ => rfl, fun _ _ => rfl, fun i hi => by simp [mk, show i ≠ nv + 1 by omega], fun i hi => by simp [mk, show i ≠ nv + 1 by omega], fun i hi => by simp [mk, show i ≠ nv + 1 by omega], fun i hi => by simp [adr1, show i ≠ hp.length by omega]⟩
 have hkd : ∀ cap, (c'.andS (BE.ieqS n (.lit 0))).den (mk cap) = true ↔ vr = .slice none 0 0 := by
  intro cap
  rw [BE.andS_den, BE.ieqS_den, BE.sc_den (hag cap 0) l2, IE.sc_den (hag cap 0) c5, hnil]
  simp only [IE.den, Bool.and_eq_true, beq_iff_eq, hD.nil]
  constructor
  ·rintro ⟨a, b⟩; exact ⟨a, by omega⟩
  ·rintro ⟨a, b⟩; exact ⟨a, by omega⟩
 have hlen' : ∀ cap, (len.addS n).den (mk cap) = ((nn + (n.den ρ).toNat : Nat) : Int) := by
  intro cap
  rw [IE.addS_den, IE.sc_den (hag cap 0) l1, IE.sc_den (hag cap 0) c5, ← hlen, IE.addS_den]
 have hcv : ∀ cap, (IE.var nv).den (mk cap) = (cap : Int) := by intro cap; simp [IE.den, mk]
 have hnl0 : vr = .slice none 0 0 → nn + (n.den ρ).toNat = 0 := by
  intro hv
  obtain ⟨h1, h2⟩ := hnil.1 hv
  have := hD.own.2
  rcases this with ⟨_, hz⟩ | ⟨g, cap, cur, hv', -⟩
  ·omega
  ·rw [h1] at hv'; cases hv'
 have hcat : ∀ cap, QF.den (mk cap) (.cat (nv + 1) len (cvOld te old) n cv) := by
  intro cap i j
  simp only [IE.sc_den (hag cap 0) l1, IE.sc_den (hag cap 0) c5, (CV.sc_den (hag cap 0) l4 _ _ _).1, (CV.sc_den (hag cap 0) l4 _ _ _).2, (CV.sc_den (hag cap 0) c4 _ _ _).1, (CV.sc_den (hag cap 0) c4 _ _ _).2, hn']
  refine ⟨fun hi => ?_, fun hi => ?_⟩
  ·have : i < nn := by omega
   simp [mk, this]
  ·have h1 : ¬ nn + i < nn := by omega
   simp [mk, h1]
 have hfs : ∀ cap, nn + (n.den ρ).toNat ≤ cap → cap ≤ maxLen → (vr = .slice none 0 0 → cap = 0) → ∀ f ∈ [QF.be (appK nv (len.addS n)), .be (nilOb (c'.andS (BE.ieqS n (.lit 0))) (len.addS n)), .be (nilOb (c'.andS (BE.ieqS n (.lit 0))) (.var nv)), .cat (nv + 1) len (cvOld te old) n cv], f.den (mk cap) := by
  intro cap q1 q2 q3 f hf
  have nilb : ∀ l : IE, (vr = .slice none 0 0 → l.den (mk cap) = 0) → (nilOb (c'.andS (BE.ieqS n (.lit 0))) l).den (mk cap) = true := by
   intro l hl
   simp only [nilOb, BE.den, BE.notS_den, IE.den, Bool.or_eq_true, Bool.not_eq_true', beq_iff_eq]
   cases hk : (c'.andS (BE.ieqS n (.lit 0))).den (mk cap) with
   | false => exact .inl rfl
   | true => exact .inr (hl ((hkd cap).1 hk))
  simp only [List.mem_cons, List.not_mem_nil, or_false] at hf
  rcases hf with rfl | rfl | rfl | rfl
  ·exact appK_ok (hlen' cap) (hcv cap) q1 q2
  ·exact nilb _ fun hv => by rw [hlen', hnl0 hv]; rfl
  ·exact nilb _ fun hv => by rw [hcv, q3 hv]; rfl
  ·exact hcat cap
 rcases hat with hv | ⟨g, cap, cur, hv, hcur, h1, h2, h3, h4, h5⟩
 ·refine ⟨by simp, 0, mk 0, (dst.den ρ ν).ownBlock, hag 0 0, ?_, hfs 0 (by rw [hnl0 hv]; exact Nat.le_refl 0) (Nat.zero_le _) (fun _ => rfl), rfl, hg, hD.blk, fun hd => ?_⟩
  ·have hk := (hkd 0).2 hv
   split
   ·rename_i hkl
    rw [hkl] at hk
    cases hk
   ·simp only [SV.den, SW.den, SC.den, hk, if_true, hv]
  ·have hk := (hkd 0).2 hv
   simp [SB.dead, hk] at hd
 ·have hvn : vr ≠ .slice none 0 0 := by rw [hv]; simp
  have hk : (c'.andS (BE.ieqS n (.lit 0))).den (mk cap) = false := by
   rw [← Bool.not_eq_true]; exact fun h => hvn ((hkd cap).1 h)
  refine ⟨by simp, g, mk cap, (dst.den ρ ν).ownBlock, hag cap g, ?_, hfs cap h1 h2 (fun h => absurd h hvn), rfl, hg, hD.blk, fun _ => ⟨⟨cur, hcur, ?_⟩, h5⟩⟩
  ·have hden : Value.slice (some ⟨g, 0, none⟩) (nn + (n.den ρ).toNat) cap = SC.den (mk cap) (adr1 ν hp.length g) (.sl { blk := hp.length, i1 := .lit 0, s1 := te.size } (len.addS n) (.var nv)) := by
    simp only [SC.den, hlen', hcv, Int.toNat_natCast]
    simp [SA.den, SA.off, IE.den, Addr.add_zero, adr1]
   rw [hv, hden]
   split
   ·rfl
   ·simp only [SV.den, SW.den, SC.den, hk, Bool.false_eq_true, if_false]
  ·refine ⟨fun u hu => (by cases hu), fun h => (by cases h), fun e0 n0 he => ?_, fun p c hp hh => (by simp at hp), fun gi g' hg' i1 i2 j a1 a2 a3 => ?_⟩
   ·simp only [Option.some.injEq, Prod.mk.injEq] at he
    obtain ⟨rfl, rfl⟩ := he
    rw [hcv]
    exact ⟨Int.natCast_nonneg _, by rw [Int.toNat_natCast]; exact h3⟩
   ·cases gi with
    | succ gi => simp at hg'
    | zero =>
     simp at hg'
     subst hg'
     simp only at a1 a2 a3 ⊢
     rw [hlen'] at a1
     have hi2 : i2 = 0 := by omega
     subst hi2
     have hi1 : i1 < nn + (n.den ρ).toNat := by omega
     have hj : j < te.size := by rw [List.length_map, c3] at a3; exact a3
     have hpos : i1 * te.size + j < (nn + (n.den ρ).toNat) * te.size := by
      have : (i1 + 1) * te.size ≤ (nn + (n.den ρ).toNat) * te.size := Nat.mul_le_mul_right _ hi1
      rw [Nat.add_mul] at this
      omega
     have e1 : cur[i1 * te.size + j]? = (xs ++ news)[i1 * te.size + j]? := by
      rw [← h4, List.getElem?_take_of_lt hpos]
      simp
     rw [Seg.base_kd _ rfl]
     simp only [upsVal]
     rw [show i1 * te.size + 0 * 0 + 0 + j = i1 * te.size + j by omega, e1, List.getElem?_append, hX.len]
     by_cases hlt : i1 < nn
     ·have hin : i1 * te.size + j < nn * te.size := by
       have : (i1 + 1) * te.size ≤ nn * te.size := Nat.mul_le_mul_right _ hlt
       rw [Nat.add_mul] at this
       omega
      rw [if_pos hin, hX.at_ i1 j hlt hj]
      simp [mk, hlt]
     ·have hge : nn * te.size ≤ i1 * te.size := Nat.mul_le_mul_right _ (by omega)
      rw [if_neg (by omega)]
      have hidx : i1 * te.size + j - nn * te.size = (i1 - nn) * te.size + j := by rw [Nat.sub_mul]; omega
      rw [hidx, hN.at_ (i1 - nn) j (by omega) hj]
      simp [mk, hlt]
end
end Go.Rex
