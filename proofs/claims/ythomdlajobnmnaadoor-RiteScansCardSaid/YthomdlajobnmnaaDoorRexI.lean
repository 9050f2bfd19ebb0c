/- Rex, part I: a call by contract. -/
import Derived.Test.YthomdlajobnmnaaDoorRexH
set_option linter.unusedSimpArgs false
set_option linter.unusedVariables false
namespace Go.Rex

theorem postOld_ok {t : Tr} {σ : Sub} {hp' : List SB} : ∀ {Ts : List SB} {k0 : Nat} {hp res : List SB}, postOld t σ hp' Ts k0 hp = some res → (∀ j a, assoc j σ.bk = some a → a.blk < hp.length) →
  res.length = hp.length ∧ ∀ i, (∃ j T a U sb, Ts[j]? = some T ∧ T.own = true ∧ T.gone = false ∧ assoc (k0 + j) σ.bk = some a ∧ a.blk = i ∧ hp'[k0 + j]? = some U ∧ U.tr t = some sb ∧ res[i]? = some sb) ∨
   ((∀ j T a, Ts[j]? = some T → T.own = true → T.gone = false → assoc (k0 + j) σ.bk = some a → a.blk ≠ i) ∧ res[i]? = hp[i]?)
 | [], k0, hp, res, h, _ => by
  simp only [postOld, Option.some.injEq] at h
  subst h
  exact ⟨rfl, fun i => .inr ⟨fun j T a hj => by simp at hj, rfl⟩⟩
 | T :: r, k0, hp, res, h, hb => by
  have shift : ∀ {j : Nat}, k0 + 1 + j = k0 + (j + 1) := by intro j; omega
  have skip : postOld t σ hp' r (k0 + 1) hp = some res → ((T.own && !T.gone) = true → assoc k0 σ.bk = none) → res.length = hp.length ∧ ∀ i, (∃ j T' a U sb, (T :: r)[j]? = some T' ∧ T'.own = true ∧ T'.gone = false ∧ assoc (k0 + j) σ.bk = some a ∧ a.blk = i ∧ hp'[k0 + j]? = some U ∧ U.tr t = some sb ∧ res[i]? = some sb) ∨
    ((∀ j T' a, (T :: r)[j]? = some T' → T'.own = true → T'.gone = false → assoc (k0 + j) σ.bk = some a → a.blk ≠ i) ∧ res[i]? = hp[i]?) := by
   intro h hn
   obtain ⟨h1, h2⟩ := postOld_ok h hb
   refine ⟨h1, fun i => ?_⟩
   rcases h2 i with ⟨j, T', a, U, sb, e1, e2, e3, e4, e5, e6, e7, e8⟩ | ⟨h3, h4⟩
   ·exact .inl ⟨j + 1, T', a, U, sb, by simpa using e1, e2, e3, by rw [← shift]; exact e4, e5, by rw [← shift]; exact e6, e7, e8⟩
   ·refine .inr ⟨fun j T' a hj ho hg ha => ?_, h4⟩
    cases j with
    | zero =>
     simp at hj
     subst hj
     rw [Nat.add_zero, hn (by simp [ho, hg])] at ha
     cases ha
    | succ j => exact h3 j T' a (by simpa using hj) ho hg (by rw [shift]; exact ha)
  simp only [postOld] at h
  split at h
  ·rename_i hown
   simp only [Bool.and_eq_true, Bool.not_eq_true'] at hown
   split at h
   ·rename_i a ha
    split at h
    ·rename_i sb hsb
     obtain ⟨U, hU, htr⟩ := Option.bind_eq_some_iff.1 hsb
     obtain ⟨h1, h2⟩ := postOld_ok h (fun j a' h' => by rw [List.length_set]; exact hb j a' h')
     rw [List.length_set] at h1
     refine ⟨h1, fun i => ?_⟩
     rcases h2 i with ⟨j, T', a', U', sb', e1, e2, e3, e4, e5, e6, e7, e8⟩ | ⟨h3, h4⟩
     ·exact .inl ⟨j + 1, T', a', U', sb', by simpa using e1, e2, e3, by rw [← shift]; exact e4, e5, by rw [← shift]; exact e6, e7, e8⟩
     ·by_cases hi : a.blk = i
      ·subst hi
       refine .inl ⟨0, T, a, U, sb, rfl, hown.1, hown.2, ha, rfl, hU, htr, ?_⟩
       rw [h4, List.getElem?_set_self (hb _ _ ha)]
      ·refine .inr ⟨fun j T' a' hj ho hg ha' => ?_, by rw [h4, List.getElem?_set_ne hi]⟩
       cases j with
       | zero =>
        rw [Nat.add_zero, ha] at ha'
        cases ha'
        exact hi
       | succ j => exact h3 j T' a' (by simpa using hj) ho hg (by rw [shift]; exact ha')
    ·cases h
   ·rename_i hnone
    exact skip h fun _ => hnone
  ·rename_i hown
   exact skip h fun hc => absurd hc hown
theorem trSBs_at {t : Tr} : ∀ {l l' : List SB}, trSBs t l = some l' → l'.length = l.length ∧ ∀ (p : Nat) (c' : SB), l'[p]? = some c' → ∃ c, l[p]? = some c ∧ c.tr t = some c'
 | [], l', h => by simp [trSBs] at h; subst h; exact ⟨rfl, fun p c h => by simp at h⟩
 | c :: r, l', h => by
  obtain ⟨x, y, h1, h2, rfl⟩ := oMap2_some h
  obtain ⟨h3, h4⟩ := trSBs_at h2
  refine ⟨by simp [h3], fun p c' hp => ?_⟩
  cases p with
  | zero => simp at hp; subst hp; exact ⟨c, rfl, h1⟩
  | succ p => simpa using h4 p c' (by simpa using hp)
theorem conOld_at : ∀ {hp hp' : List SB}, conOld hp hp' = true → ∀ (k : Nat) (T U : SB), hp[k]? = some T → hp'[k]? = some U → T.own = true → U.gone = true ∨ (T.ro = false ∧ U.ro = false ∧ T.nl = U.nl)
 | [], _, _, k, T, U, h, _, _ => by simp at h
 | _ :: _, [], _, k, T, U, _, h, _ => by simp at h
 | x :: r, y :: s, h, k, T, U, hT, hU, ho => by
  simp only [conOld, Bool.and_eq_true, Bool.or_eq_true, Bool.not_eq_true'] at h
  cases k with
  | zero =>
   simp at hT hU
   subst hT hU
   rcases h.1 with (h | h) | h
   ·rw [ho] at h; cases h
   ·exact .inl h
   ·exact .inr ⟨h.1.1, h.1.2, BE.same_eq h.2⟩
  | succ k => exact conOld_at h.2 k T U (by simpa using hT) (by simpa using hU) ho
theorem conNew_at : ∀ {hp : List SB}, conNew hp = true → ∀ (k : Nat) (T : SB), hp[k]? = some T → T.gone = true ∨ (T.own = true ∧ T.ro = false)
 | [], _, k, T, h => by simp at h
 | x :: r, h, k, T, hT => by
  simp only [conNew, Bool.and_eq_true, Bool.or_eq_true, Bool.not_eq_true'] at h
  cases k with
  | zero => simp at hT; subst hT; exact h.1
  | succ k => exact conNew_at h.2 k T (by simpa using hT)
theorem subSc_ok {nv n : Nat} {σ : Sub} (h : subSc nv n σ = true) : (∀ i e, assoc i σ.iv = some e → e.sc nv = true) ∧ (∀ i e, assoc i σ.bv = some e → e.sc nv = true) ∧ (∀ i e, assoc i σ.vv = some e → e.sc nv n = true) ∧
  (∀ i e, assoc i σ.bk = some e → e.sc nv n = true) := by
 simp only [subSc, Bool.and_eq_true, List.all_eq_true] at h
 exact ⟨fun i e he => h.1.1.1 _ (assoc_mem he), fun i e he => h.1.1.2 _ (assoc_mem he), fun i e he => h.1.2 _ (assoc_mem he), fun i e he => h.2 _ (assoc_mem he)⟩
def postEnv (d m : Nat) (ρ ρp : Env) : Env where
 iv := fun i => if i < d then ρ.iv i else ρp.iv (i - d + m)
 bv := fun i => if i < d then ρ.bv i else ρp.bv (i - d + m)
 vv := fun i => if i < d then ρ.vv i else ρp.vv (i - d + m)
 ic := fun i => if i < d then ρ.ic i else ρp.ic (i - d + m)
 bc := fun i => if i < d then ρ.bc i else ρp.bc (i - d + m)
 vc := fun i => if i < d then ρ.vc i else ρp.vc (i - d + m)
def postAdr (n0 n : Nat) (ν νp : Nat → Addr) : Nat → Addr := fun i => if i < n0 then ν i else νp (i - n0 + n)
theorem post_agr (d m n0 n : Nat) (ρ ρp : Env) (ν νp : Nat → Addr) : Agr d n0 ρ (postEnv d m ρ ρp) ν (postAdr n0 n ν νp) :=
 ⟨fun i hi => by simp [postEnv, hi], fun i hi => by simp [postEnv, hi], fun i hi => by simp [postEnv, hi], fun i hi => by simp [postEnv, hi], fun i hi => by simp [postEnv, hi], fun i hi => by simp [postEnv, hi], fun i hi => by simp [postAdr, hi]⟩
section
variable {σ : Sub} {m d n n0 : Nat} {ρ ρp : Env} {ν νp : Nat → Addr}
theorem post_trd (h0 : σ.lo = 0) (h1 : σ.lob = 0) (hs : subSc d n0 σ = true) (hA : Agr m n (σ.env ρ ν) ρp (σ.adr ρ ν) νp) : Trd ⟨σ, m, d, n, n0⟩ ρp (postEnv d m ρ ρp) νp (postAdr n0 n ν νp) := by
 obtain ⟨s1, s2, s3, s4⟩ := subSc_ok hs
 have hag := post_agr d m n0 n ρ ρp ν νp
 refine ⟨fun i e hi he => ?_, fun i e hi he => ?_, fun i e hi he => ?_, fun i hi => ?_, fun i hi => ?_, fun i hi => ?_, fun i hi => ?_, fun i hi => ?_, fun i hi => ?_, fun k a hk ha hb => ?_, fun k hk => ?_⟩
 ·rw [IE.sc_den hag (s1 i e he), hA.iv i hi]; simp [Sub.env, Sub.nenv, h0, show assoc i σ.iv = some e from he]
 ·rw [BE.sc_den hag (s2 i e he), hA.bv i hi]; simp [Sub.env, Sub.nenv, h0, show assoc i σ.bv = some e from he]
 ·rw [SC.sc_den hag (s3 i e he), hA.vv i hi]; simp [Sub.env, h0, show assoc i σ.vv = some e from he]
 ·have e : i - m + d - d + m = i := by have : m ≤ i := hi; omega
  have q : ¬ (i - m + d < d) := by omega
  simp only [postEnv]
  rw [if_neg q, e]
 ·have e : i - m + d - d + m = i := by have : m ≤ i := hi; omega
  have q : ¬ (i - m + d < d) := by omega
  simp only [postEnv]
  rw [if_neg q, e]
 ·have e : i - m + d - d + m = i := by have : m ≤ i := hi; omega
  have q : ¬ (i - m + d < d) := by omega
  simp only [postEnv]
  rw [if_neg q, e]
 ·have e : i - m + d - d + m = i := by have : m ≤ i := hi; omega
  have q : ¬ (i - m + d < d) := by omega
  simp only [postEnv]
  rw [if_neg q, e]
 ·have e : i - m + d - d + m = i := by have : m ≤ i := hi; omega
  have q : ¬ (i - m + d < d) := by omega
  simp only [postEnv]
  rw [if_neg q, e]
 ·have e : i - m + d - d + m = i := by have : m ≤ i := hi; omega
  have q : ¬ (i - m + d < d) := by omega
  simp only [postEnv]
  rw [if_neg q, e]
 ·have hsc := s4 k a ha
  simp only [SA.sc, Bool.and_eq_true, Nat.blt_eq] at hsc
  rw [hA.bl k hk]
  simp [postAdr, hsc.1.1, Sub.adr, h1, show assoc k σ.bk = some a from ha, SA.den, SA.base_ok (ρ := ρ) hb, Addr.add_zero]
 ·have e : k - n + n0 - n0 + n = k := by have : n ≤ k := hk; omega
  have q : ¬ (k - n + n0 < n0) := by omega
  simp only [postAdr]
  rw [if_neg q, e]
theorem call_hp {k : Con} {hp hpO new : List SB} {os : List BE} {w w' : World} {z : Nat} {W : Nat → Prop} (hwf : conWf k = true) (h0 : σ.lo = 0) (h1 : σ.lob = 0) (hi : instHp σ k.hp hp = some os) (ho : ∀ o ∈ os, o.den ρ = true)
  (hs : subSc d hp.length σ = true) (hsc : hpSc d hp.length hp = true) (hh : HpOK ρ ν hp w) (hown : OwnOK z W ρ ν hp) (hz : z ≤ w.heap.size)
  (hA : Agr k.nv k.hp.length (σ.env ρ ν) ρp (σ.adr ρ ν) νp) (hP : HpOK ρp νp k.hp' w') (hW : Wrt w (ownW (σ.env ρ ν) (σ.adr ρ ν) k.hp) w') (hO : OwnOK w.heap.size (ownW (σ.env ρ ν) (σ.adr ρ ν) k.hp) ρp νp k.hp')
  (h2 : postOld ⟨σ, k.nv, d, k.hp.length, hp.length⟩ σ k.hp' k.hp 0 hp = some hpO) (h3 : trSBs ⟨σ, k.nv, d, k.hp.length, hp.length⟩ (k.hp'.drop k.hp.length) = some new) :
  HpOK (postEnv d k.nv ρ ρp) (postAdr hp.length k.hp.length ν νp) (hpO ++ new) w' ∧ OwnOK z W (postEnv d k.nv ρ ρp) (postAdr hp.length k.hp.length ν νp) (hpO ++ new) ∧ hpO.length = hp.length ∧ ∀ b, ownW (σ.env ρ ν) (σ.adr ρ ν) k.hp b → z ≤ b ∨ W b := by
 have H := post_trd h0 h1 hs hA
 have hag := post_agr d k.nv hp.length k.hp.length ρ ρp ν νp
 simp only [conWf, Bool.and_eq_true] at hwf
 obtain ⟨⟨⟨⟨wf1, wf2⟩, wf3⟩, wf4⟩, wf5⟩ := hwf
 obtain ⟨s1, s2, s3, s4⟩ := subSc_ok hs
 obtain ⟨hlen, hcl⟩ := postOld_ok h2 (fun j a ha => by
   have := s4 j a ha
   simp only [SA.sc, Bool.and_eq_true, Nat.blt_eq] at this
   exact this.1.1)
 simp only [Nat.zero_add] at hcl
 obtain ⟨hnl, hnew⟩ := trSBs_at h3
 generalize hρ' : postEnv d k.nv ρ ρp = ρ' at *
 generalize hν' : postAdr hp.length k.hp.length ν νp = ν' at *
 -- what a block that may be written was
 have target : ∀ (j : Nat) (T : SB), k.hp[j]? = some T → T.own = true → T.dead (σ.env ρ ν) = false → ∃ a A, assoc j σ.bk = some a ∧ hp[a.blk]? = some A ∧ A.dead ρ = false ∧ A.own = true ∧ A.ro = false ∧ σ.adr ρ ν j = ν a.blk := by
  intro j T hj hT hd
  obtain ⟨a, A, hB⟩ := inst_blk hi ho hj hd
  have hb := hB.blk
  simp only [Sub.blk, h1] at hb
  have hbk : ∃ a', assoc j σ.bk = some a' ∧ a'.blk = a.blk := by
   have h0 : Nat.blt j 0 = false := by cases j <;> rfl
   rw [h0] at hb
   simpa using hb
  obtain ⟨a', ha', e⟩ := hbk
  have hro : T.ro = false := by
   have hg := SB.live_gone hd
   have hx : ∃ U, k.hp'[j]? = some U := by
    have : j < k.hp'.length := Nat.lt_of_lt_of_le (List.getElem?_eq_some_iff.1 hj).1 (by simpa using wf2)
    exact ⟨_, List.getElem?_eq_getElem this⟩
   obtain ⟨U, hU⟩ := hx
   -- own blocks are not only read: by the match itself
   cases hr : T.ro with
   | false => rfl
   | true =>
    exfalso
    unfold instHp at hi
    split at hi
    ·obtain ⟨os', q1, q2⟩ := mBlks_ok hi j T hj
     rw [Nat.zero_add] at q1
     unfold mBlk at q1
     have h0 : Nat.blt j σ.lob = false := by rw [h1]; cases j <;> rfl
     rw [hg, h0, ha'] at q1
     simp only [Bool.false_eq_true, if_false] at q1
     split at q1
     ·unfold mSBx at q1
      simp [hT, hr] at q1
     ·cases q1
    ·cases hi
  obtain ⟨r1, r2⟩ := hB.ro hro
  refine ⟨a', A, ha', by rw [e]; exact hB.hp, hB.live, hB.own hT, r1, ?_⟩
  rw [hB.adr, r2, Addr.add_zero, e]
 have notW : ∀ (i : Nat) (s : SB), hp[i]? = some s → s.dead ρ = false → (∀ j T a, k.hp[j]? = some T → T.own = true → T.gone = false → assoc j σ.bk = some a → a.blk ≠ i) → ¬ ownW (σ.env ρ ν) (σ.adr ρ ν) k.hp (ν i).block := by
  rintro i s hi' hd hno ⟨j, T, hj, hT, hTd, hb⟩
  obtain ⟨a, A, ha, hA', hAd, _, hAr, hadr⟩ := target j T hj hT hTd
  rw [hadr] at hb
  exact hno j T a hj hT (SB.live_gone hTd) ha (hh.inj _ _ A s hA' hi' hAd hd hAr hb.symm)
 -- the three kinds of blocks
 have kinds : ∀ (i : Nat) (s : SB), (hpO ++ new)[i]? = some s → s.dead ρ' = false →
   (hp[i]? = some s ∧ s.dead ρ = false ∧ (∀ j T a, k.hp[j]? = some T → T.own = true → T.gone = false → assoc j σ.bk = some a → a.blk ≠ i) ∧ ν' i = ν i) ∨
   (∃ j U, k.hp'[j]? = some U ∧ U.dead ρp = false ∧ s.t = U.t ∧ s.ro = false ∧ U.ro = false ∧ (∀ arr, U.has ρp νp arr → s.has ρ' ν' arr) ∧ ν' i = νp j ∧
     ((j < k.hp.length ∧ ∃ a A, assoc j σ.bk = some a ∧ a.blk = i ∧ hp[i]? = some A ∧ A.dead ρ = false ∧ A.own = true ∧ A.ro = false ∧ ν' i = ν i) ∨ (hp.length ≤ i ∧ j = k.hp.length + (i - hp.length) ∧ U.own = true))) := by
  intro i s hs' hd
  rw [List.getElem?_append] at hs'
  split at hs'
  ·rename_i hlt
   rw [hlen] at hlt
   have hνi : ν' i = ν i := by rw [← hν']; simp [postAdr, hlt]
   rcases hcl i with ⟨j, T, a, U, sb, e1, e2, e3, e4, e5, e6, e7, e8⟩ | ⟨q1, q2⟩
   ·rw [e8] at hs'
    simp at hs'
    subst hs'
    obtain ⟨g1, g2, g3, g4, g5, g6⟩ := SB.tr_ok H e7 (SB.live_gone hd)
    have hUd : U.dead ρp = false := by
     unfold SB.dead at hd ⊢
     rw [g1, ← g5]
     simp at hd
     simp [hd.2]
    rcases conOld_at wf4 j T U e1 e6 e2 with hc | ⟨c1, c2, c3⟩
    ·rw [g1] at hc; cases hc
    have hTd : T.dead (σ.env ρ ν) = false := by
     have hjlt : j < k.hp.length := (List.getElem?_eq_some_iff.1 e1).1
     have hTs := hpSc_at wf3 j T e1
     have := SB.sc_nl hA hTs e3
     unfold SB.dead at hUd ⊢
     rw [e3, Bool.false_or, ← this, c3]
     simp at hUd
     exact hUd.2
    obtain ⟨a', A, ha, hA', hAd, hAo, hAr, hadr⟩ := target j T e1 e2 hTd
    rw [e4] at ha
    cases ha
    have hjlt : j < k.hp.length := (List.getElem?_eq_some_iff.1 e1).1
    refine .inr ⟨j, U, e6, hUd, g2, g3.trans c2, c2, g6, ?_, .inl ⟨hjlt, a, A, e4, e5, by rw [← e5]; exact hA', hAd, hAo, hAr, hνi⟩⟩
    rw [hνi, hA.bl j hjlt, hadr, e5]
   ·rw [q2] at hs'
    exact .inl ⟨hs', by rwa [SB.sc_dead hag (hpSc_at hsc i s hs')] at hd, q1, hνi⟩
  ·rename_i hge
   rw [hlen] at hge hs'
   obtain ⟨U, hU, htr⟩ := hnew _ s hs'
   rw [List.getElem?_drop] at hU
   obtain ⟨g1, g2, g3, g4, g5, g6⟩ := SB.tr_ok H htr (SB.live_gone hd)
   have hUd : U.dead ρp = false := by
    unfold SB.dead at hd ⊢
    rw [g1, ← g5]
    simp at hd
    simp [hd.2]
   have hcn := conNew_at wf5 (i - hp.length) U (by rw [List.getElem?_drop]; exact hU)
   rcases hcn with hcn | ⟨c1, c2⟩
   ·rw [g1] at hcn; cases hcn
   refine .inr ⟨k.hp.length + (i - hp.length), U, hU, hUd, g2, g3.trans c2, c2, g6, ?_, .inr ⟨by omega, rfl, c1⟩⟩
   rw [← hν']
   have : ¬ i < hp.length := by omega
   simp only [postAdr, if_neg this]
   congr 1
   omega
 -- new blocks lie apart from the caller's
 have newApart : ∀ (i : Nat) (s : SB) (j : Nat) (U : SB), hp[i]? = some s → s.dead ρ = false → (∀ j T a, k.hp[j]? = some T → T.own = true → T.gone = false → assoc j σ.bk = some a → a.blk ≠ i) →
   k.hp'[j]? = some U → U.own = true → U.dead ρp = false → (ν i).block ≠ (νp j).block := by
  intro i s j U hi' hd hno hU hUo hUd he
  rcases hO j U hU hUo hUd with h | h
  ·have := hh.lt hi' hd
   omega
  ·rw [← he] at h
   exact notW i s hi' hd hno h
 refine ⟨⟨fun i j x y hx hy dx dy rx he => ?_, fun i s hs' hd hr => ?_, fun i s hs' hd hr => ?_⟩, fun i s hs' hso hd => ?_, hlen, fun b hb => ?_⟩
 ·rcases kinds i x hx dx with ⟨a1, a2, a3, a4⟩ | ⟨j1, U1, b1, b2, b3, b4, b5, b6, b7, b8⟩
  ·rcases kinds j y hy dy with ⟨c1, c2, c3, c4⟩ | ⟨j2, U2, d1, d2, d3, d4, d5, d6, d7, d8⟩
   ·rw [a4, c4] at he
    exact hh.inj i j x y a1 c1 a2 c2 rx he
   ·rcases d8 with ⟨e1, a, A, e2, e3, e4, e5, e6, e7, e8⟩ | ⟨e1, e2, e3⟩
    ·rw [a4, e8] at he
     exact (hh.inj j i A x e4 a1 e5 a2 e7 he.symm).symm
    ·rw [a4, d7] at he
     exact absurd he (newApart i x j2 U2 a1 a2 a3 d1 e3 d2)
  ·rcases kinds j y hy dy with ⟨c1, c2, c3, c4⟩ | ⟨j2, U2, d1, d2, d3, d4, d5, d6, d7, d8⟩
   ·rcases b8 with ⟨e1, a, A, e2, e3, e4, e5, e6, e7, e8⟩ | ⟨e1, e2, e3⟩
    ·rw [e8, c4] at he
     exact hh.inj i j A y e4 c1 e5 c2 e7 he
    ·rw [b7, c4] at he
     exact absurd he.symm (newApart j y j1 U1 c1 c2 c3 b1 e3 b2)
   ·rw [b7, d7] at he
    have hj := hP.inj j1 j2 U1 U2 b1 d1 b2 d2 b5 he
    subst hj
    rcases b8 with ⟨e1, a, A, e2, e3, e4, e5, e6, e7, e8⟩ | ⟨e1, e2, e3⟩ <;> rcases d8 with ⟨f1, a', A', f2, f3, f4, f5, f6, f7, f8⟩ | ⟨f1, f2, f3⟩
    ·rw [e2] at f2
     cases f2
     rw [← e3, ← f3]
    ·omega
    ·omega
    ·omega
 ·rcases kinds i s hs' hd with ⟨a1, a2, a3, a4⟩ | ⟨j1, U1, b1, b2, b3, b4, b5, b6, b7, b8⟩
  ·obtain ⟨q0, arr, q1, q2⟩ := hh.blk i s a1 a2 hr
   rw [a4]
   refine ⟨q0, arr, ?_, SB.sc_has hag (hpSc_at hsc i s a1) (SB.live_gone a2) q2⟩
   rw [hW.block _ (hh.lt a1 a2) (notW i s a1 a2 a3)]
   exact q1
  ·obtain ⟨q0, arr, q1, q2⟩ := hP.blk j1 U1 b1 b2 b5
   rw [b7]
   exact ⟨q0, arr, by rw [b3]; exact q1, b6 arr q2⟩
 ·rcases kinds i s hs' hd with ⟨a1, a2, a3, a4⟩ | ⟨j1, U1, b1, b2, b3, b4, b5, b6, b7, b8⟩
  ·obtain ⟨q0, arr, q1, q2⟩ := hh.rd i s a1 a2 hr
   rw [a4]
   refine ⟨q0.of id rfl hW.size (hW.block _ (hh.lt a1 a2) (notW i s a1 a2 a3)), arr, SB.sc_has hag (hpSc_at hsc i s a1) (SB.live_gone a2) q1, fun p v hp => ?_⟩
   rw [World.cell?_of_block (w := w) (w' := w')]
   ·exact q2 p v hp
   ·rw [add_block]; exact hW.block _ (hh.lt a1 a2) (notW i s a1 a2 a3)
  ·rw [b4] at hr; cases hr
 ·rcases kinds i s hs' hd with ⟨a1, a2, a3, a4⟩ | ⟨j1, U1, b1, b2, b3, b4, b5, b6, b7, b8⟩
  ·rw [a4]; exact hown i s a1 hso a2
  ·rcases b8 with ⟨e1, a, A, e2, e3, e4, e5, e6, e7, e8⟩ | ⟨e1, e2, e3⟩
   ·rw [e8]; exact hown i A e4 e6 e5
   ·rw [b7]
    rcases hO j1 U1 b1 e3 b2 with h | ⟨j, T, hj, hT, hTd, hb⟩
    ·exact .inl (Nat.le_trans hz h)
    ·obtain ⟨a, A, ha, hA', hAd, hAo, hAr, hadr⟩ := target j T hj hT hTd
     rw [hb, hadr]
     exact hown _ A hA' hAo hAd
 ·obtain ⟨j, T, hj, hT, hTd, hb⟩ := hb
  obtain ⟨a, A, ha, hA', hAd, hAo, hAr, hadr⟩ := target j T hj hT hTd
  rw [hb, hadr]
  exact hown _ A hA' hAo hAd
end
end Go.Rex
