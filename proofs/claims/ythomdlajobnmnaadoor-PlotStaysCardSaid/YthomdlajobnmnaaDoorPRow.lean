/- 'PlotRow': the last one that was freed is given first -/
import Derived.Test.YthomdlajobnmnaaDoorPReb
set_option linter.unusedSimpArgs false
set_option linter.unusedVariables false
namespace Go.Proofs.YthomdlajobnmnaaDoor
open Go.Rex
theorem tmP (x n : Int) (h : 0 < n) (hx : 0 ≤ x) : 0 ≤ x.tmod n ∧ x.tmod n < n := by
  rw [Int.tmod_eq_emod_of_nonneg hx]
  exact ⟨Int.emod_nonneg _ (by omega), Int.emod_lt_of_pos _ h⟩
theorem wrP (x : Int) : 0 ≤ IntKind.u64.wrap x := by
  rw [IntKind.wrap_u64]
  omega
theorem wrS {x : Int} (h0 : 0 ≤ x) (h1 : x < 100000) : IntKind.u64.wrap x = x := by
  rw [IntKind.wrap_u64]
  omega
def Nq (q : Env) : Int := (IntKind.u64.wrap (q.iv 0)).tmod 100
theorem nq_rng (q : Env) : 0 ≤ Nq q ∧ Nq q < 100 := tmP _ 100 (by decide) (wrP _)
/-- the number of a slot that a number of the input names -/
def Sq (q : Env) (x : Int) : Int := 1 + (IntKind.u64.wrap x).tmod (IntKind.u64.wrap (Nq q))
theorem sq_rng {q : Env} (h : 0 < Nq q) (x : Int) : 1 ≤ Sq q x ∧ Sq q x ≤ Nq q := by
  have h1 := nq_rng q
  unfold Sq
  rw [wrS h1.1 (by omega)]
  have := tmP (IntKind.u64.wrap x) (Nq q) h (wrP x)
  omega
/-- so many slots have been given -/
structure R1 (p : PS) (n i : Int) : Prop where
  ok : p.OK
  ns : p.ns = n
  nb : p.nb = 0
  nf : p.nf = n - i
  fr : ∀ k : Nat, (k : Int) < n - i → p.fr k = n - k
  gen : ∀ j : Nat, (j : Int) < n → p.gen j = if (j : Int) < i then 1 else 0
  steps : p.steps ≤ i
/-- slots have been freed -/
structure R2 (p : PS) (n c : Int) (f : Nat → Int) (s : Int) : Prop where
  ok : p.OK
  ns : p.ns = n
  nb : p.nb = 0
  nf : p.nf = c
  fr : ∀ k : Nat, (k : Int) < c → p.fr k = f k
  gen : ∀ j : Nat, (j : Int) < n → p.gen j = 1
  steps : p.steps ≤ s
/-- slots are given again -/
structure R3 (p : PS) (n c : Int) (f : Nat → Int) (s : Int) : Prop where
  ok : p.OK
  ns : p.ns = n
  nb : p.nb = 0
  nf : p.nf = c
  fr : ∀ k : Nat, (k : Int) < c → p.fr k = f k
  gen : ∀ k : Nat, (k : Int) < c → p.gen (p.fr k - 1).toNat = 1
  steps : p.steps ≤ s
theorem act_next {p p' : PS} {a : Ac} {s n : Int} {R : Option Rp} (h : p.OK) (hn : p.ns = n) (hb : p.nb = 0) (hs : p.steps ≤ s) (hp : p.act a = (p', R)) : p'.OK ∧ p'.ns = n ∧ p'.nb = 0 ∧ p'.steps ≤ s + 1 := by
  have h1 := h.act a
  have h2 := p.act_steps a
  have h3 := p.act_dims a
  rw [hp] at h1 h2 h3
  simp only at h1 h2 h3
  exact ⟨h1, by rw [h3.1, hn], by rw [h3.2, hb], by omega⟩
theorem Fresh.r1 {p : PS} {n : Int} (h : Fresh p 0 n) (h1 : 0 ≤ n ∧ n ≤ 1024) : R1 p n 0 :=
  ⟨h.ok h1 ⟨by decide, by decide⟩, h.ns, h.nb, by rw [h.nf]; omega, fun k hk => h.fr k (by omega), fun j _ => by rw [h.gen, if_neg (by omega)], by rw [h.steps]; exact Int.le_refl 0⟩
theorem R1.step {p : PS} {a : Ac} {n i : Int} (h : R1 p n i) (h0 : 0 ≤ i) (hi : i < n) (hk : a.kind = 4) : R1 (p.act a).1 n (i + 1) ∧ (p.act a).2 = some ⟨⟨i + 1, 1, 0, 0, false⟩, true⟩ := by
  have hn := h.nf
  have hf : p.fr (p.nf - 1).toNat = i + 1 := by
    rw [hn, h.fr (n - i - 1).toNat (by omega)]
    omega
  have ha := act_alloc hk (show ¬ p.nf = 0 by omega) hf
  obtain ⟨x1, x2, x3, x4⟩ := act_next h.ok h.ns h.nb h.steps ha
  have e : (i + 1 - 1).toNat = i.toNat := by congr 1; omega
  have g := h.gen i.toNat (by omega)
  rw [if_neg (by omega)] at g
  rw [ha]
  refine ⟨⟨x1, x2, x3, ?_, fun k hk => ?_, fun j hj => ?_, x4⟩, ?_⟩
  · show p.nf - 1 = n - (i + 1)
    omega
  · exact h.fr k (by omega)
  · show (if j = (i + 1 - 1).toNat then _ else _) = _
    rw [e]
    by_cases hji : j = i.toNat
    · rw [if_pos hji, if_pos (by omega), g]
      rfl
    · rw [if_neg hji, h.gen j hj]
      by_cases hlt : (j : Int) < i
      · rw [if_pos hlt, if_pos (by omega)]
      · rw [if_neg hlt, if_neg (by omega)]
  · rw [e, g]
    rfl
theorem R1.done {p : PS} {n i : Int} {f : Nat → Int} (h : R1 p n i) (hi : i = n) (h1 : n ≤ 100) : R2 p n 0 f 100 :=
  ⟨h.ok, h.ns, h.nb, by rw [h.nf, hi]; omega, fun k hk => by omega, fun j hj => by rw [h.gen j hj, if_pos (by omega)], by have := h.steps; omega⟩
theorem R2.step {p : PS} {a : Ac} {n c s : Int} {f f' : Nat → Int} (h : R2 p n c f s) (hk : a.kind = 5) (hs : 1 ≤ a.old.slot ∧ a.old.slot ≤ n) (hg : a.old.gen = 1) (hf : ∀ k, f' k = if k = c.toNat then a.old.slot else f k) :
    ∃ b, (p.act a).2 = some ⟨Wd.zero, b⟩ ∧ (b = true → R2 (p.act a).1 n (c + 1) f' (s + 1)) ∧ (b = false → R2 (p.act a).1 n c f (s + 1)) := by
  have hv : p.valid a := by simp [PS.valid, hk, PS.is, h.ns, hs]
  have h0 := h.ok.nf
  rw [h.nf] at h0
  by_cases hr : p.right a
  · have ha := act_to hv hr (makes5 hk)
    obtain ⟨x1, x2, x3, x4⟩ := act_next h.ok h.ns h.nb h.steps ha
    rw [ha]
    refine ⟨true, rfl, fun _ => ⟨x1, x2, x3, ?_, fun k hk => ?_, h.gen, x4⟩, fun h => (by cases h)⟩
    · show p.nf + 1 = c + 1
      rw [h.nf]
    · show (if k = p.nf.toNat then a.old.slot else p.fr k) = f' k
      rw [h.nf, hf k]
      by_cases hkc : k = c.toNat
      · rw [if_pos hkc, if_pos hkc]
      · rw [if_neg hkc, if_neg hkc, h.fr k (by omega)]
  · have ha := act_wrong hv hr
    obtain ⟨x1, x2, x3, x4⟩ := act_next h.ok h.ns h.nb h.steps ha
    rw [ha]
    exact ⟨false, by simp [refusedW, hk, Rp.no], fun h => (by cases h), fun _ => ⟨x1, x2, x3, h.nf, h.fr, h.gen, x4⟩⟩
theorem R2.to {p p' : PS} {n c s s' : Int} {f f' : Nat → Int} (h : R2 p n c f s) (hp : p' = p) (hs : s ≤ s') (hf : ∀ k : Nat, (k : Int) < c → f' k = f k) : R2 p' n c f' s' := by
  subst hp
  exact ⟨h.ok, h.ns, h.nb, h.nf, fun k hk => by rw [h.fr k hk, hf k hk], h.gen, Int.le_trans h.steps hs⟩
theorem R3.to {p p' : PS} {n c s s' : Int} {f f' : Nat → Int} (h : R3 p n c f s) (hp : p' = p) (hs : s ≤ s') (hf : ∀ k : Nat, (k : Int) < c → f' k = f k) : R3 p' n c f' s' := by
  subst hp
  exact ⟨h.ok, h.ns, h.nb, h.nf, fun k hk => by rw [h.fr k hk, hf k hk], h.gen, Int.le_trans h.steps hs⟩
theorem R2.r3 {p : PS} {n c s : Int} {f : Nat → Int} (h : R2 p n c f s) : R3 p n c f s := by
  refine ⟨h.ok, h.ns, h.nb, h.nf, h.fr, fun k hk => ?_, h.steps⟩
  have := h.ok.fr k (by rw [h.nf]; exact hk)
  rw [h.ns] at this
  exact h.gen _ (by omega)
theorem R3.step {p : PS} {a : Ac} {n c s : Int} {f : Nat → Int} (h : R3 p n (c + 1) f s) (h0 : 0 ≤ c) (hk : a.kind = 4) : R3 (p.act a).1 n c f (s + 1) ∧ (p.act a).2 = some ⟨⟨f c.toNat, 2, 0, 0, false⟩, true⟩ := by
  have hn := h.nf
  have e1 : (p.nf - 1).toNat = c.toNat := by rw [hn]; congr 1; omega
  have hf : p.fr (p.nf - 1).toNat = f c.toNat := by
    rw [e1]
    exact h.fr c.toNat (by omega)
  have ha := act_alloc hk (show ¬ p.nf = 0 by omega) hf
  obtain ⟨x1, x2, x3, x4⟩ := act_next h.ok h.ns h.nb h.steps ha
  have g := h.gen c.toNat (by omega)
  rw [h.fr c.toNat (by omega)] at g
  rw [ha]
  refine ⟨⟨x1, x2, x3, ?_, fun k hk => h.fr k (by omega), fun k hk => ?_, x4⟩, ?_⟩
  · show p.nf - 1 = c
    omega
  · show (if (p.fr k - 1).toNat = (f c.toNat - 1).toNat then _ else p.gen (p.fr k - 1).toNat) = 1
    have h1 := h.ok.fr k (by omega)
    have h2 := h.ok.fr c.toNat (by omega)
    have h3 := h.ok.one k c.toNat (by omega) (by omega)
    rw [h.fr c.toNat (by omega)] at h2 h3
    rw [if_neg (by omega)]
    exact h.gen k (by omega)
  · rw [g]
    rfl
theorem R3.last {p : PS} {a : Ac} {n s : Int} {f : Nat → Int} (h : R3 p n 0 f s) (hk : a.kind = 4) : (p.act a).1.nf = 0 ∧ (p.act a).2 = some Rp.no := by
  have ha := act_to (p := p) (a := a) (by simp [PS.valid, hk]) (by simp [PS.right, hk]) (makes4z hk h.nf)
  rw [ha]
  exact ⟨h.nf, rfl⟩
def aNew : Ac := ⟨4, 0, 0, 0, ⟨0, 0, 0, 0, false⟩, ⟨0, 0, 0, 0, false⟩⟩
noncomputable def prowE : Ex := { sched := sched, loops := [L3a, L3b, L3c], cons := [awakeP, newCon, doCon], fin := lawConR 27 ssP 6 rtP 3 [shI, shInts] }
def prowOut : Out :=
  .call 0 { lo := 0, lob := 0, bk := [(9, { blk := 9 }), (7, { blk := 7 }), (5, { blk := 5 }), (3, { blk := 3 }), (1, { blk := 1 }), (10, { blk := 10 }), (8, { blk := 8 }), (6, { blk := 6 }), (4, { blk := 4 }), (2, { blk := 2 }), (0, { blk := 0 })] } 5 <|
   .ob (.inr .i64 (.mod (.wrap .u64 (.var 0)) (.lit 100))) <|
   .call 1 { lo := 0, lob := 0, iv := [(1, (.lit 0)), (0, (.mod (.wrap .u64 (.var 0)) (.lit 100)))] } 5 <|
   .loop 15 { lo := 15, lob := 17, iv := [(24, (.var 9)), (23, (.var 8)), (21, (.var 7)), (20, (.var 6)), (15, (.lit 0))], bv := [(25, (.var 10)), (19, (.var 5))], ct := [(22, .up { r := 14, n1 := (.var 6), s1 := 1, ks := [.int .i64] } 0 [] (.lit 0)), (18, .up { r := 13, n1 := (.mod (.wrap .u64 (.var 0)) (.lit 100)), s1 := 52, n2 := 10, s2 := 5, lo := 2, ks := [.int .i64, .int .i64, .int .i64, .int .i64, .bool] } 1 [] (.lit 0)), (17, .up { r := 12, n1 := (.mod (.wrap .u64 (.var 0)) (.lit 100)), s1 := 52, ks := [.int .i64, .bool] } 0 [] (.lit 0)), (16, .up { r := 11, n1 := (.lit 0), s1 := 5, ks := [.int .i64, .int .i64, .int .i64, .int .i64, .bool] } 0 [] (.lit 0))], bk := [(18, { blk := 16 }), (17, { blk := 15, i1 := (.lit 0), s1 := 1 })] } <|
   .br (.ilt (.var 15) (.mod (.wrap .u64 (.var 0)) (.lit 100)))
   (.call 2 { lo := 0, lob := 0, iv := [(20, (.var 24)), (19, (.var 23)), (18, (.var 21)), (17, (.var 20)), (15, (.mod (.wrap .u64 (.var 0)) (.lit 100))), (14, (.lit 0)), (12, (.lit 0)), (11, (.lit 0)), (10, (.lit 0)), (9, (.lit 0)), (7, (.lit 0)), (6, (.lit 0)), (5, (.lit 0)), (4, (.lit 0)), (3, (.lit 0)), (2, (.lit 0)), (1, (.lit 0)), (0, (.lit 4))], bv := [(21, (.var 25)), (16, (.var 19)), (13, (.lit false)), (8, (.lit false))], ct := [(25, .up { r := 22, n1 := (.var 20), s1 := 1, ks := [.int .i64] } 0 [] (.lit 0)), (24, .up { r := 18, n1 := (.mod (.wrap .u64 (.var 0)) (.lit 100)), s1 := 52, n2 := 10, s2 := 5, lo := 2, ks := [.int .i64, .int .i64, .int .i64, .int .i64, .bool] } 1 [] (.lit 0)), (23, .up { r := 17, n1 := (.mod (.wrap .u64 (.var 0)) (.lit 100)), s1 := 52, ks := [.int .i64, .bool] } 0 [] (.lit 0)), (22, .up { r := 16, n1 := (.lit 0), s1 := 5, ks := [.int .i64, .int .i64, .int .i64, .int .i64, .bool] } 0 [] (.lit 0))], bk := [(12, { blk := 18 }), (11, { blk := 17, i1 := (.lit 0), s1 := 1 }), (10, { blk := 14, i1 := (.lit 0), s1 := 52 }), (9, { blk := 13, i1 := (.lit 0), s1 := 5 }), (7, { blk := 9 }), (5, { blk := 7 }), (3, { blk := 5 }), (1, { blk := 1 }), (6, { blk := 8 }), (4, { blk := 6 }), (2, { blk := 4 }), (0, { blk := 0 }), (8, { blk := 12 })] } 26 <|
    .ob (.or (.not (.var 31)) (.inr .i64 (.add (.var 15) (.lit 1)))) <|
    .br (.not (.var 31))
    (.fin { lo := 5, lob := 12, bv := [(5, (.lit false))] })
    (.br (.not (.and (.ieq (.var 26) (.add (.var 15) (.lit 1))) (.and (.ieq (.var 27) (.lit 1)) (.and (.ieq (.var 28) (.lit 0)) (.and (.ieq (.var 29) (.lit 0)) (.not (.var 30)))))))
     (.fin { lo := 5, lob := 12, bv := [(5, (.lit false))] })
     (.ob (.inr .i64 (.add (.var 15) (.lit 1))) <|
      .back 0 { lo := 15, lob := 17, iv := [(24, (.var 37)), (23, (.var 36)), (21, (.var 35)), (20, (.var 34)), (15, (.add (.var 15) (.lit 1)))], bv := [(25, (.var 38)), (19, (.var 33))], ct := [(22, .up { r := 42, n1 := (.var 34), s1 := 1, ks := [.int .i64] } 0 [] (.lit 0)), (18, .up { r := 41, n1 := (.mod (.wrap .u64 (.var 0)) (.lit 100)), s1 := 52, n2 := 10, s2 := 5, lo := 2, ks := [.int .i64, .int .i64, .int .i64, .int .i64, .bool] } 1 [] (.lit 0)), (17, .up { r := 40, n1 := (.mod (.wrap .u64 (.var 0)) (.lit 100)), s1 := 52, ks := [.int .i64, .bool] } 0 [] (.lit 0)), (16, .up { r := 39, n1 := (.lit 0), s1 := 5, ks := [.int .i64, .int .i64, .int .i64, .int .i64, .bool] } 0 [] (.lit 0))], bk := [(18, { blk := 20 }), (17, { blk := 19, i1 := (.lit 0), s1 := 1 })] })))
   (.loop 26 { lo := 26, lob := 20, iv := [(38, (.var 24)), (37, (.var 23)), (35, (.var 21)), (34, (.var 20)), (29, (.lit 0)), (27, (.lit 0)), (26, (.lit 0))], bv := [(39, (.var 25)), (33, (.var 19))], ct := [(36, .up { r := 22, n1 := (.var 20), s1 := 1, ks := [.int .i64] } 0 [] (.lit 0)), (28, .ex [] 1 0 0), (32, .up { r := 18, n1 := (.mod (.wrap .u64 (.var 0)) (.lit 100)), s1 := 52, n2 := 10, s2 := 5, lo := 2, ks := [.int .i64, .int .i64, .int .i64, .int .i64, .bool] } 1 [] (.lit 0)), (31, .up { r := 17, n1 := (.mod (.wrap .u64 (.var 0)) (.lit 100)), s1 := 52, ks := [.int .i64, .bool] } 0 [] (.lit 0)), (30, .up { r := 16, n1 := (.lit 0), s1 := 5, ks := [.int .i64, .int .i64, .int .i64, .int .i64, .bool] } 0 [] (.lit 0))], bk := [(22, { blk := 18 }), (21, { blk := 17, i1 := (.lit 0), s1 := 1 }), (20, { blk := 19, i1 := (.lit 0), s1 := 1 })] } <|
    .ob (.or (.not (.var 1)) (.ieq (.var 2) (.lit 0))) <|
    .ob (.ile (.lit 0) (.var 2)) <|
    .br (.and (.and (.ilt (.var 29) (.var 2)) (.ilt (.var 29) (.lit 100))) (.ilt (.lit 0) (.mod (.wrap .u64 (.var 0)) (.lit 100))))
    (.ob (.not (.var 1)) <|
     .ob (.ile (.lit 0) (.var 29)) <|
     .ob (.not (.ieq (.wrap .u64 (.mod (.wrap .u64 (.var 0)) (.lit 100))) (.lit 0))) <|
     .ob (.inr .i64 (.mod (.wrap .u64 (.cell 4 (.var 29) (.lit 0) 0)) (.wrap .u64 (.mod (.wrap .u64 (.var 0)) (.lit 100))))) <|
     .ob (.inr .i64 (.add (.lit 1) (.mod (.wrap .u64 (.cell 4 (.var 29) (.lit 0) 0)) (.wrap .u64 (.mod (.wrap .u64 (.var 0)) (.lit 100)))))) <|
     .call 2 { lo := 0, lob := 0, iv := [(20, (.var 38)), (19, (.var 37)), (18, (.var 35)), (17, (.var 34)), (15, (.mod (.wrap .u64 (.var 0)) (.lit 100))), (14, (.lit 0)), (12, (.lit 0)), (11, (.lit 0)), (10, (.lit 0)), (9, (.lit 0)), (7, (.lit 0)), (6, (.lit 0)), (5, (.lit 1)), (4, (.add (.lit 1) (.mod (.wrap .u64 (.cell 4 (.var 29) (.lit 0) 0)) (.wrap .u64 (.mod (.wrap .u64 (.var 0)) (.lit 100)))))), (3, (.lit 0)), (2, (.lit 0)), (1, (.lit 0)), (0, (.lit 5))], bv := [(21, (.var 39)), (16, (.var 33)), (13, (.lit false)), (8, (.lit false))], ct := [(25, .up { r := 36, n1 := (.var 34), s1 := 1, ks := [.int .i64] } 0 [] (.lit 0)), (24, .up { r := 32, n1 := (.mod (.wrap .u64 (.var 0)) (.lit 100)), s1 := 52, n2 := 10, s2 := 5, lo := 2, ks := [.int .i64, .int .i64, .int .i64, .int .i64, .bool] } 1 [] (.lit 0)), (23, .up { r := 31, n1 := (.mod (.wrap .u64 (.var 0)) (.lit 100)), s1 := 52, ks := [.int .i64, .bool] } 0 [] (.lit 0)), (22, .up { r := 30, n1 := (.lit 0), s1 := 5, ks := [.int .i64, .int .i64, .int .i64, .int .i64, .bool] } 0 [] (.lit 0))], bk := [(12, { blk := 22 }), (11, { blk := 21, i1 := (.lit 0), s1 := 1 }), (10, { blk := 14, i1 := (.lit 0), s1 := 52 }), (9, { blk := 13, i1 := (.lit 0), s1 := 5 }), (7, { blk := 9 }), (5, { blk := 7 }), (3, { blk := 5 }), (1, { blk := 1 }), (6, { blk := 8 }), (4, { blk := 6 }), (2, { blk := 4 }), (0, { blk := 0 }), (8, { blk := 12 })] } 40 <|
     .br (.var 45)
     (.ob (.ile (.mul (.add (.var 26) (.lit 1)) (.lit 8)) (.lit 140737488355328)) <|
      .ob (.ile (.lit 0) (.var 26)) <|
      .ob (.ile (.var 26) (.var 27)) <|
      .ob (.ile (.var 27) (.lit 9223372036854775807)) <|
      .new 57 [.be (.and (.ile (.add (.var 26) (.lit 1)) (.var 57)) (.ile (.var 57) (.lit 9223372036854775807)))] <|
      .ob (.inr .i64 (.add (.var 29) (.lit 1))) <|
      .back 0 { lo := 26, lob := 20, iv := [(38, (.var 51)), (37, (.var 50)), (35, (.var 49)), (34, (.var 48)), (29, (.add (.var 29) (.lit 1))), (27, (.var 57)), (26, (.add (.var 26) (.lit 1)))], bv := [(39, (.var 52)), (33, (.var 47))], ct := [(36, .up { r := 56, n1 := (.var 48), s1 := 1, ks := [.int .i64] } 0 [] (.lit 0)), (28, .up { r := 28, n1 := (.add (.var 26) (.lit 1)), s1 := 1, ks := [.int .i64] } 0 [⟨0, (.var 26), (.lit 0), 0, .int .i64 (.add (.lit 1) (.mod (.wrap .u64 (.cell 4 (.var 29) (.lit 0) 0)) (.wrap .u64 (.mod (.wrap .u64 (.var 0)) (.lit 100)))))⟩] (.lit 0)), (32, .up { r := 55, n1 := (.mod (.wrap .u64 (.var 0)) (.lit 100)), s1 := 52, n2 := 10, s2 := 5, lo := 2, ks := [.int .i64, .int .i64, .int .i64, .int .i64, .bool] } 1 [] (.lit 0)), (31, .up { r := 54, n1 := (.mod (.wrap .u64 (.var 0)) (.lit 100)), s1 := 52, ks := [.int .i64, .bool] } 0 [] (.lit 0)), (30, .up { r := 53, n1 := (.lit 0), s1 := 5, ks := [.int .i64, .int .i64, .int .i64, .int .i64, .bool] } 0 [] (.lit 0))], bk := [(22, { blk := 24 }), (21, { blk := 23, i1 := (.lit 0), s1 := 1 }), (20, { blk := 27, i1 := (.lit 0), s1 := 1 })] })
     (.ob (.inr .i64 (.add (.var 29) (.lit 1))) <|
      .back 0 { lo := 26, lob := 20, iv := [(38, (.var 51)), (37, (.var 50)), (35, (.var 49)), (34, (.var 48)), (29, (.add (.var 29) (.lit 1))), (27, (.var 27)), (26, (.var 26))], bv := [(39, (.var 52)), (33, (.var 47))], ct := [(36, .up { r := 56, n1 := (.var 48), s1 := 1, ks := [.int .i64] } 0 [] (.lit 0)), (28, .up { r := 28, n1 := (.var 26), s1 := 1, ks := [.int .i64] } 0 [] (.lit 0)), (32, .up { r := 55, n1 := (.mod (.wrap .u64 (.var 0)) (.lit 100)), s1 := 52, n2 := 10, s2 := 5, lo := 2, ks := [.int .i64, .int .i64, .int .i64, .int .i64, .bool] } 1 [] (.lit 0)), (31, .up { r := 54, n1 := (.mod (.wrap .u64 (.var 0)) (.lit 100)), s1 := 52, ks := [.int .i64, .bool] } 0 [] (.lit 0)), (30, .up { r := 53, n1 := (.lit 0), s1 := 5, ks := [.int .i64, .int .i64, .int .i64, .int .i64, .bool] } 0 [] (.lit 0))], bk := [(22, { blk := 24 }), (21, { blk := 23, i1 := (.lit 0), s1 := 1 }), (20, { blk := 20, i1 := (.lit 0), s1 := 1 })] }))
    (.ob (.ile (.lit 0) (.var 26)) <|
     .ob (.inr .i64 (.sub (.var 26) (.lit 1))) <|
     .loop 40 { lo := 40, lob := 23, iv := [(49, (.var 38)), (48, (.var 37)), (46, (.var 35)), (45, (.var 34)), (40, (.sub (.var 26) (.lit 1)))], bv := [(50, (.var 39)), (44, (.var 33))], ct := [(47, .up { r := 36, n1 := (.var 34), s1 := 1, ks := [.int .i64] } 0 [] (.lit 0)), (43, .up { r := 32, n1 := (.mod (.wrap .u64 (.var 0)) (.lit 100)), s1 := 52, n2 := 10, s2 := 5, lo := 2, ks := [.int .i64, .int .i64, .int .i64, .int .i64, .bool] } 1 [] (.lit 0)), (42, .up { r := 31, n1 := (.mod (.wrap .u64 (.var 0)) (.lit 100)), s1 := 52, ks := [.int .i64, .bool] } 0 [] (.lit 0)), (41, .up { r := 30, n1 := (.lit 0), s1 := 5, ks := [.int .i64, .int .i64, .int .i64, .int .i64, .bool] } 0 [] (.lit 0))], bk := [(24, { blk := 22 }), (23, { blk := 21, i1 := (.lit 0), s1 := 1 })] } <|
     .br (.ile (.lit 0) (.var 40))
     (.call 2 { lo := 0, lob := 0, iv := [(20, (.var 49)), (19, (.var 48)), (18, (.var 46)), (17, (.var 45)), (15, (.mod (.wrap .u64 (.var 0)) (.lit 100))), (14, (.lit 0)), (12, (.lit 0)), (11, (.lit 0)), (10, (.lit 0)), (9, (.lit 0)), (7, (.lit 0)), (6, (.lit 0)), (5, (.lit 0)), (4, (.lit 0)), (3, (.lit 0)), (2, (.lit 0)), (1, (.lit 0)), (0, (.lit 4))], bv := [(21, (.var 50)), (16, (.var 44)), (13, (.lit false)), (8, (.lit false))], ct := [(25, .up { r := 47, n1 := (.var 45), s1 := 1, ks := [.int .i64] } 0 [] (.lit 0)), (24, .up { r := 43, n1 := (.mod (.wrap .u64 (.var 0)) (.lit 100)), s1 := 52, n2 := 10, s2 := 5, lo := 2, ks := [.int .i64, .int .i64, .int .i64, .int .i64, .bool] } 1 [] (.lit 0)), (23, .up { r := 42, n1 := (.mod (.wrap .u64 (.var 0)) (.lit 100)), s1 := 52, ks := [.int .i64, .bool] } 0 [] (.lit 0)), (22, .up { r := 41, n1 := (.lit 0), s1 := 5, ks := [.int .i64, .int .i64, .int .i64, .int .i64, .bool] } 0 [] (.lit 0))], bk := [(12, { blk := 24 }), (11, { blk := 23, i1 := (.lit 0), s1 := 1 }), (10, { blk := 14, i1 := (.lit 0), s1 := 52 }), (9, { blk := 13, i1 := (.lit 0), s1 := 5 }), (7, { blk := 9 }), (5, { blk := 7 }), (3, { blk := 5 }), (1, { blk := 1 }), (6, { blk := 8 }), (4, { blk := 6 }), (2, { blk := 4 }), (0, { blk := 0 }), (8, { blk := 12 })] } 51 <|
      .ob (.ilt (.var 40) (.var 26)) <|
      .br (.not (.and (.ieq (.var 51) (.cell 28 (.var 40) (.lit 0) 0)) (.and (.ieq (.var 52) (.lit 2)) (.and (.ieq (.var 53) (.lit 0)) (.and (.ieq (.var 54) (.lit 0)) (.not (.var 55)))))))
      (.fin { lo := 5, lob := 12, bv := [(5, (.lit false))] })
      (.ob (.inr .i64 (.sub (.var 40) (.lit 1))) <|
       .back 0 { lo := 40, lob := 23, iv := [(49, (.var 62)), (48, (.var 61)), (46, (.var 60)), (45, (.var 59)), (40, (.sub (.var 40) (.lit 1)))], bv := [(50, (.var 63)), (44, (.var 58))], ct := [(47, .up { r := 67, n1 := (.var 59), s1 := 1, ks := [.int .i64] } 0 [] (.lit 0)), (43, .up { r := 66, n1 := (.mod (.wrap .u64 (.var 0)) (.lit 100)), s1 := 52, n2 := 10, s2 := 5, lo := 2, ks := [.int .i64, .int .i64, .int .i64, .int .i64, .bool] } 1 [] (.lit 0)), (42, .up { r := 65, n1 := (.mod (.wrap .u64 (.var 0)) (.lit 100)), s1 := 52, ks := [.int .i64, .bool] } 0 [] (.lit 0)), (41, .up { r := 64, n1 := (.lit 0), s1 := 5, ks := [.int .i64, .int .i64, .int .i64, .int .i64, .bool] } 0 [] (.lit 0))], bk := [(24, { blk := 26 }), (23, { blk := 25, i1 := (.lit 0), s1 := 1 })] }))
     (.call 2 { lo := 0, lob := 0, iv := [(20, (.var 49)), (19, (.var 48)), (18, (.var 46)), (17, (.var 45)), (15, (.mod (.wrap .u64 (.var 0)) (.lit 100))), (14, (.lit 0)), (12, (.lit 0)), (11, (.lit 0)), (10, (.lit 0)), (9, (.lit 0)), (7, (.lit 0)), (6, (.lit 0)), (5, (.lit 0)), (4, (.lit 0)), (3, (.lit 0)), (2, (.lit 0)), (1, (.lit 0)), (0, (.lit 4))], bv := [(21, (.var 50)), (16, (.var 44)), (13, (.lit false)), (8, (.lit false))], ct := [(25, .up { r := 47, n1 := (.var 45), s1 := 1, ks := [.int .i64] } 0 [] (.lit 0)), (24, .up { r := 43, n1 := (.mod (.wrap .u64 (.var 0)) (.lit 100)), s1 := 52, n2 := 10, s2 := 5, lo := 2, ks := [.int .i64, .int .i64, .int .i64, .int .i64, .bool] } 1 [] (.lit 0)), (23, .up { r := 42, n1 := (.mod (.wrap .u64 (.var 0)) (.lit 100)), s1 := 52, ks := [.int .i64, .bool] } 0 [] (.lit 0)), (22, .up { r := 41, n1 := (.lit 0), s1 := 5, ks := [.int .i64, .int .i64, .int .i64, .int .i64, .bool] } 0 [] (.lit 0))], bk := [(12, { blk := 24 }), (11, { blk := 23, i1 := (.lit 0), s1 := 1 }), (10, { blk := 14, i1 := (.lit 0), s1 := 52 }), (9, { blk := 13, i1 := (.lit 0), s1 := 5 }), (7, { blk := 9 }), (5, { blk := 7 }), (3, { blk := 5 }), (1, { blk := 1 }), (6, { blk := 8 }), (4, { blk := 6 }), (2, { blk := 4 }), (0, { blk := 0 }), (8, { blk := 12 })] } 51 <|
      .br (.not (.var 56))
      (.ob (.ile (.lit 0) (.mod (.wrap .u64 (.var 0)) (.lit 100))) <|
       .ob (.or (.not (.var 58)) (.ieq (.var 59) (.lit 0))) <|
       .ob (.ile (.lit 0) (.var 59)) <|
       .ob (.inr .i64 (.sub (.mod (.wrap .u64 (.var 0)) (.lit 100)) (.var 59))) <|
       .fin { lo := 5, lob := 12, bv := [(5, (.ieq (.sub (.mod (.wrap .u64 (.var 0)) (.lit 100)) (.var 59)) (.mod (.wrap .u64 (.var 0)) (.lit 100))))] })
      (.fin { lo := 5, lob := 12, bv := [(5, (.lit false))] }))))
theorem prow_run : exec tab prowE 8000 [] (cfg0 3 5 [] (lawConR 27 ssP 6 rtP 3 [shI, shInts]).gl (lawConR 27 ssP 6 rtP 3 [shI, shInts]).hp (lawConR 27 ssP 6 rtP 3 [shI, shInts]).args) = prowOut := by kernel_rfl
def rInv1 (ρ : Env) : Prop := (0 ≤ ρ.iv 15 ∧ ρ.iv 15 ≤ Nq ρ) ∧ OkSl ρ 19 ∧ R1 (psLp ρ 0 (Nq ρ) 16) (Nq ρ) (ρ.iv 15)
def rInv2 (ρ : Env) : Prop := (0 ≤ ρ.iv 29 ∧ ρ.iv 29 ≤ 100) ∧ (0 ≤ ρ.iv 26 ∧ ρ.iv 26 ≤ ρ.iv 27 ∧ ρ.iv 27 ≤ 9223372036854775807 ∧ ρ.iv 26 ≤ ρ.iv 29) ∧ OkSl ρ 33 ∧ R2 (psLp ρ 0 (Nq ρ) 30) (Nq ρ) (ρ.iv 26) (fun k => ρ.ic 28 k 0 0) (100 + ρ.iv 29)
def rK3 (ρ : Env) : Prop := 0 ≤ ρ.iv 26 ∧ ρ.iv 26 ≤ 100
def rInv3 (ρ : Env) : Prop := (-1 ≤ ρ.iv 40 ∧ ρ.iv 40 < ρ.iv 26) ∧ OkSl ρ 44 ∧ R3 (psLp ρ 0 (Nq ρ) 41) (Nq ρ) (ρ.iv 40 + 1) (fun k => ρ.ic 28 k 0 0) (300 - ρ.iv 40)
set_option maxHeartbeats 4000000 in
theorem prow_sat (ρ : Env) (hpre : lawPre [shI, shInts] ρ.num) : Sat (lawPostR ssP [shI, shInts]) lSem [] ρ prowOut := by
  replace hpre : _ ∧ ((ρ.bv 1 = true → ρ.iv 2 = 0 ∧ ρ.iv 3 = 0) ∧ 0 ≤ ρ.iv 2 ∧ ρ.iv 2 ≤ ρ.iv 3 ∧ ρ.iv 3 ≤ 9223372036854775807 ∧ _) ∧ _ := hpre
  have hk : OkSl ρ 1 := ⟨fun h => (hpre.2.1.1 h).1, hpre.2.1.2.1, hpre.2.1.2.2.1, hpre.2.1.2.2.2.1⟩
  clear hpre
  unfold prowOut
  refine Sat.callK (c := awakeP) rfl trivial (fun q => OkSl q 1) (fun _ _ => hk) fun q hk => ?_
  have hn := nq_rng q
  refine Sat.ob (by
    show (decide (_ ≤ Nq q) && decide (Nq q ≤ _)) = true
    simp only [D.i64min, D.i64max, Bool.and_eq_true, decide_eq_true_eq]
    omega) (new_call rfl (n := 0) (m := Nq q) rfl rfl ⟨hn.1, by omega⟩ ⟨by decide, by decide⟩ (fun u => OkSl u 1 ∧ OkSl u 5 ∧ R1 (psRd u 0 (Nq u) 5) (Nq u) 0) (fun e ho hf => ⟨hk, ho, hf.r1 ⟨hn.1, by omega⟩⟩) fun u hu => ?_)
  obtain ⟨hk, ho, hr⟩ := hu
  refine Sat.loopK rInv1 (fun r => (100 - r.iv 15).toNat) (fun r => OkSl r 1) ⟨⟨Int.le_refl 0, (nq_rng u).1⟩, ho, ?_⟩ (fun _ => hk) fun r hk hI => ?_
  · refine cast (congrArg (fun p => R1 p (Nq u) 0) ?_) hr
    exact Eq.symm (PS.ext' rfl rfl rfl rfl rfl rfl (fun i => by simp [psRd, psLp, mkW, -Int.pred_toNat, Sub.nenv, assoc, CV.I, CV.B, upsI, upsB, Seg.I, Seg.B, SC.I, SC.B, IE.den, BE.den]) (fun i => by simp [psRd, psLp, -Int.pred_toNat, Sub.nenv, assoc, CV.I, CV.B, upsI, upsB, Seg.I, Seg.B, SC.I, SC.B, IE.den, BE.den]) (fun i => by simp [psRd, psLp, -Int.pred_toNat, Sub.nenv, assoc, CV.I, CV.B, upsI, upsB, Seg.I, Seg.B, SC.I, SC.B, IE.den, BE.den]) (fun i k => by simp [psRd, psLp, mkW, -Int.pred_toNat, Sub.nenv, assoc, CV.I, CV.B, upsI, upsB, Seg.I, Seg.B, SC.I, SC.B, IE.den, BE.den]) (fun i => by simp [psRd, psLp, -Int.pred_toNat, Sub.nenv, assoc, CV.I, CV.B, upsI, upsB, Seg.I, Seg.B, SC.I, SC.B, IE.den, BE.den]))
  replace hI : rInv1 r := hI
  rw [show (100 - r.num.iv 15).toNat = (100 - r.iv 15).toNat from rfl]
  obtain ⟨⟨i1, i2⟩, ho, hr⟩ := hI
  have hn := nq_rng r
  refine Sat.br (fun hlt => ?_) (fun hge => ?_)
  · replace hlt : r.iv 15 < Nq r := of_decide_eq_true hlt
    obtain ⟨r1, r2⟩ := hr.step (a := aNew) i1 hlt rfl
    have hst := hr.steps
    refine do_call rfl (psLp r 0 (Nq r) 16) aNew (n := 0) (m := Nq r) rfl rfl (PS.ext' rfl rfl rfl rfl rfl rfl (fun i => by simp [psRd, psLp, mkW, -Int.pred_toNat, Sub.nenv, assoc, CV.I, CV.B, upsI, upsB, Seg.I, Seg.B, SC.I, SC.B, IE.den, BE.den]) (fun i => by simp [psRd, psLp, -Int.pred_toNat, Sub.nenv, assoc, CV.I, CV.B, upsI, upsB, Seg.I, Seg.B, SC.I, SC.B, IE.den, BE.den]) (fun i => by simp [psRd, psLp, -Int.pred_toNat, Sub.nenv, assoc, CV.I, CV.B, upsI, upsB, Seg.I, Seg.B, SC.I, SC.B, IE.den, BE.den]) (fun i k => by simp [psRd, psLp, mkW, -Int.pred_toNat, Sub.nenv, assoc, CV.I, CV.B, upsI, upsB, Seg.I, Seg.B, SC.I, SC.B, IE.den, BE.den]) (fun i => by simp [psRd, psLp, -Int.pred_toNat, Sub.nenv, assoc, CV.I, CV.B, upsI, upsB, Seg.I, Seg.B, SC.I, SC.B, IE.den, BE.den])) rfl ho hr.ok (by omega)
      (fun u => (OkSl u 1 ∧ 0 ≤ u.iv 15 ∧ u.iv 15 < Nq u ∧ (100 - (u.iv 15 + 1)).toNat < (100 - r.iv 15).toNat) ∧ OkSl u 33 ∧ R1 (psRd u 0 (Nq u) 33) (Nq u) (u.iv 15 + 1) ∧ rpRd u 26 = ⟨⟨u.iv 15 + 1, 1, 0, 0, false⟩, true⟩)
      (fun e h1 h2 h3 h4 => ⟨⟨hk, i1, hlt, ?_⟩, h1, by rw [show Nq (r.join 26 e) = Nq r from rfl, h2]; exact r1, by rw [h4, r2]; rfl⟩) fun u hu => ?_
    · show (100 - (r.iv 15 + 1)).toNat < (100 - r.iv 15).toNat
      omega
    obtain ⟨⟨hk, j1, j2, j3⟩, ho, hr, hw⟩ := hu
    have hn := nq_rng u
    obtain ⟨w1, w2, w3, w4, w5⟩ := wd_eq (congrArg Rp.word hw)
    have w6 : u.bv 31 = true := congrArg Rp.ok hw
    replace w1 : u.iv 26 = u.iv 15 + 1 := w1
    replace w2 : u.iv 27 = 1 := w2
    replace w3 : u.iv 28 = 0 := w3
    replace w4 : u.iv 29 = 0 := w4
    replace w5 : u.bv 30 = false := w5
    refine Sat.ob (by simp only [D.le, D.lef, D.lt, D.ltf, D.eq, D.eqf, D.not, D.notf, D.and, D.andf, D.or, D.orf, D.inr, D.var, D.lit, D.cellB, D.beq, D.beqf, D.litI, D.varI, D.add, D.sub, D.mul, D.min, D.max, D.cellI, D.i64min, D.i64max, Int.toNat_zero]; omega) (Sat.br (fun hb => ?_) (fun _ => Sat.br (fun hb => ?_) (fun _ => Sat.ob (by simp only [D.le, D.lef, D.lt, D.ltf, D.eq, D.eqf, D.not, D.notf, D.and, D.andf, D.or, D.orf, D.inr, D.var, D.lit, D.cellB, D.beq, D.beqf, D.litI, D.varI, D.add, D.sub, D.mul, D.min, D.max, D.cellI, D.i64min, D.i64max, Int.toNat_zero]; omega) (Sat.back rfl ⟨⟨⟨by show 0 ≤ u.iv 15 + 1; omega, by show u.iv 15 + 1 ≤ Nq u; omega⟩, ho, ?_⟩, j3⟩))))
    · simp [BE.den, w6] at hb
    · simp [BE.den, IE.den, w1, w2, w3, w4, w5] at hb
    · refine cast (congrArg (fun p => R1 p (Nq u) (u.iv 15 + 1)) ?_) hr
      exact Eq.symm (PS.ext' rfl rfl rfl rfl rfl rfl (fun i => by simp [psRd, psLp, mkW, -Int.pred_toNat, Sub.nenv, assoc, CV.I, CV.B, upsI, upsB, Seg.I, Seg.B, SC.I, SC.B, IE.den, BE.den]) (fun i => by simp [psRd, psLp, -Int.pred_toNat, Sub.nenv, assoc, CV.I, CV.B, upsI, upsB, Seg.I, Seg.B, SC.I, SC.B, IE.den, BE.den]) (fun i => by simp [psRd, psLp, -Int.pred_toNat, Sub.nenv, assoc, CV.I, CV.B, upsI, upsB, Seg.I, Seg.B, SC.I, SC.B, IE.den, BE.den]) (fun i k => by simp [psRd, psLp, mkW, -Int.pred_toNat, Sub.nenv, assoc, CV.I, CV.B, upsI, upsB, Seg.I, Seg.B, SC.I, SC.B, IE.den, BE.den]) (fun i => by simp [psRd, psLp, -Int.pred_toNat, Sub.nenv, assoc, CV.I, CV.B, upsI, upsB, Seg.I, Seg.B, SC.I, SC.B, IE.den, BE.den]))
  · replace hge : ¬ r.iv 15 < Nq r := of_decide_eq_false hge
    have r2 := hr.done (f := fun _ => 0) (by omega) (by omega)
    refine Sat.loopK rInv2 (fun s => (100 - s.iv 29).toNat) (fun s => OkSl s 1) ⟨⟨Int.le_refl 0, by show (0 : Int) ≤ 100; decide⟩, ⟨Int.le_refl 0, Int.le_refl 0, by show (0 : Int) ≤ _; decide, Int.le_refl 0⟩, ho, ?_⟩ (fun _ => hk) fun s hk hI => ?_
    · have e : ∀ f : Nat → Int, R2 (psLp r 0 (Nq r) 16) (Nq r) 0 f 100 := fun f => ⟨r2.ok, r2.ns, r2.nb, r2.nf, fun k hk => by omega, r2.gen, r2.steps⟩
      refine cast (congrArg (fun p => R2 p (Nq r) 0 _ 100) ?_) (e _)
      exact Eq.symm (PS.ext' rfl rfl rfl rfl rfl rfl (fun i => by simp [psRd, psLp, mkW, -Int.pred_toNat, Sub.nenv, assoc, CV.I, CV.B, upsI, upsB, Seg.I, Seg.B, SC.I, SC.B, IE.den, BE.den]) (fun i => by simp [psRd, psLp, -Int.pred_toNat, Sub.nenv, assoc, CV.I, CV.B, upsI, upsB, Seg.I, Seg.B, SC.I, SC.B, IE.den, BE.den]) (fun i => by simp [psRd, psLp, -Int.pred_toNat, Sub.nenv, assoc, CV.I, CV.B, upsI, upsB, Seg.I, Seg.B, SC.I, SC.B, IE.den, BE.den]) (fun i k => by simp [psRd, psLp, mkW, -Int.pred_toNat, Sub.nenv, assoc, CV.I, CV.B, upsI, upsB, Seg.I, Seg.B, SC.I, SC.B, IE.den, BE.den]) (fun i => by simp [psRd, psLp, -Int.pred_toNat, Sub.nenv, assoc, CV.I, CV.B, upsI, upsB, Seg.I, Seg.B, SC.I, SC.B, IE.den, BE.den]))
    replace hI : rInv2 s := hI
    rw [show (100 - s.num.iv 29).toNat = (100 - s.iv 29).toNat from rfl]
    obtain ⟨⟨i1, i2⟩, ⟨f1, f2, f3, f4⟩, ho, hr⟩ := hI
    have hn := nq_rng s
    refine Sat.ob (nilOb hk) (Sat.ob (decide_eq_true hk.2.1) (Sat.br (fun hlt => ?_) (fun _ => ?_)))
    · replace hlt : (s.iv 29 < s.iv 2 ∧ s.iv 29 < 100) ∧ 0 < Nq s := by
        have h : ((decide (s.iv 29 < s.iv 2) && decide (s.iv 29 < 100)) && decide (0 < Nq s)) = true := hlt
        simpa using h
      obtain ⟨⟨l1, l2⟩, l3⟩ := hlt
      have hS := sq_rng l3 (s.ic 4 (s.iv 29).toNat 0 0)
      have hst := hr.steps
      have hw : IntKind.u64.wrap (Nq s) = Nq s := wrS hn.1 (by omega)
      obtain ⟨b, b1, b2, b3⟩ := hr.step (a := ⟨5, 0, 0, 0, ⟨Sq s (s.ic 4 (s.iv 29).toNat 0 0), 1, 0, 0, false⟩, ⟨0, 0, 0, 0, false⟩⟩) (f' := fun k => if k = (s.iv 26).toNat then Sq s (s.ic 4 (s.iv 29).toNat 0 0) else s.ic 28 k 0 0) rfl hS rfl (fun k => rfl)
      refine Sat.ob (nilLt hk (by simp only [Nat.reduceAdd]; omega)) (Sat.ob (decide_eq_true i1) (Sat.ob ?_ (Sat.ob ?_ (Sat.ob ?_ ?_))))
      · show (!(IntKind.u64.wrap (Nq s) == 0)) = true
        rw [hw]
        simp
        omega
      · have h : 0 ≤ Sq s (s.ic 4 (s.iv 29).toNat 0 0) - 1 ∧ Sq s (s.ic 4 (s.iv 29).toNat 0 0) - 1 ≤ 100 := by omega
        show (decide (_ ≤ (IntKind.u64.wrap (s.ic 4 (s.iv 29).toNat 0 0)).tmod (IntKind.u64.wrap (Nq s))) && decide ((IntKind.u64.wrap (s.ic 4 (s.iv 29).toNat 0 0)).tmod (IntKind.u64.wrap (Nq s)) ≤ _)) = true
        have e : (IntKind.u64.wrap (s.ic 4 (s.iv 29).toNat 0 0)).tmod (IntKind.u64.wrap (Nq s)) = Sq s (s.ic 4 (s.iv 29).toNat 0 0) - 1 := by unfold Sq; omega
        rw [e]
        simp only [D.i64min, D.i64max, Bool.and_eq_true, decide_eq_true_eq]
        omega
      · show (decide (_ ≤ Sq s (s.ic 4 (s.iv 29).toNat 0 0)) && decide (Sq s (s.ic 4 (s.iv 29).toNat 0 0) ≤ _)) = true
        simp only [D.i64min, D.i64max, Bool.and_eq_true, decide_eq_true_eq]
        omega
      refine do_call rfl (psLp s 0 (Nq s) 30) ⟨5, 0, 0, 0, ⟨Sq s (s.ic 4 (s.iv 29).toNat 0 0), 1, 0, 0, false⟩, ⟨0, 0, 0, 0, false⟩⟩ (n := 0) (m := Nq s) rfl rfl (PS.ext' rfl rfl rfl rfl rfl rfl (fun i => by simp [psRd, psLp, mkW, -Int.pred_toNat, Sub.nenv, assoc, CV.I, CV.B, upsI, upsB, Seg.I, Seg.B, SC.I, SC.B, IE.den, BE.den]) (fun i => by simp [psRd, psLp, -Int.pred_toNat, Sub.nenv, assoc, CV.I, CV.B, upsI, upsB, Seg.I, Seg.B, SC.I, SC.B, IE.den, BE.den]) (fun i => by simp [psRd, psLp, -Int.pred_toNat, Sub.nenv, assoc, CV.I, CV.B, upsI, upsB, Seg.I, Seg.B, SC.I, SC.B, IE.den, BE.den]) (fun i k => by simp [psRd, psLp, mkW, -Int.pred_toNat, Sub.nenv, assoc, CV.I, CV.B, upsI, upsB, Seg.I, Seg.B, SC.I, SC.B, IE.den, BE.den]) (fun i => by simp [psRd, psLp, -Int.pred_toNat, Sub.nenv, assoc, CV.I, CV.B, upsI, upsB, Seg.I, Seg.B, SC.I, SC.B, IE.den, BE.den])) rfl ho hr.ok (by omega)
        (fun u => (OkSl u 1 ∧ (0 ≤ u.iv 29 ∧ u.iv 29 < 100) ∧ (100 - (u.iv 29 + 1)).toNat < (100 - s.iv 29).toNat) ∧ (0 ≤ u.iv 26 ∧ u.iv 26 ≤ u.iv 27 ∧ u.iv 27 ≤ 9223372036854775807 ∧ u.iv 26 ≤ u.iv 29) ∧ OkSl u 47 ∧
          (u.bv 45 = true → R2 (psRd u 0 (Nq u) 47) (Nq u) (u.iv 26 + 1) (fun k => if k = (u.iv 26).toNat then Sq u (u.ic 4 (u.iv 29).toNat 0 0) else u.ic 28 k 0 0) (100 + u.iv 29 + 1)) ∧
          (u.bv 45 = false → R2 (psRd u 0 (Nq u) 47) (Nq u) (u.iv 26) (fun k => u.ic 28 k 0 0) (100 + u.iv 29 + 1)))
        (fun e h1 h2 h3 h4 => ⟨⟨hk, ⟨i1, l2⟩, ?_⟩, ⟨f1, f2, f3, f4⟩, h1, fun hb => ?_, fun hb => ?_⟩) fun u hu => ?_
      · show (100 - (s.iv 29 + 1)).toNat < (100 - s.iv 29).toNat
        omega
      · have e1 : b = true := by rw [← hb]; rw [b1] at h4; exact (congrArg Rp.ok h4).symm
        have := b2 e1
        rw [← h2] at this
        exact this
      · have e1 : b = false := by rw [← hb]; rw [b1] at h4; exact (congrArg Rp.ok h4).symm
        have := b3 e1
        rw [← h2] at this
        exact this
      obtain ⟨⟨hk, ⟨i1, l2⟩, j3⟩, ⟨f1, f2, f3, f4⟩, ho, hy, hz⟩ := hu
      refine Sat.br (fun hb => ?_) (fun hb => ?_)
      · have hr := hy hb
        refine Sat.ob (by simp only [D.le, D.lef, D.lt, D.ltf, D.eq, D.eqf, D.not, D.notf, D.and, D.andf, D.or, D.orf, D.inr, D.var, D.lit, D.cellB, D.beq, D.beqf, D.litI, D.varI, D.add, D.sub, D.mul, D.min, D.max, D.cellI, D.i64min, D.i64max, Int.toNat_zero]; omega) (Sat.ob (decide_eq_true f1) (Sat.ob (decide_eq_true f2) (Sat.ob (decide_eq_true f3) (Sat.newB (fun v => (OkSl v 1 ∧ (0 ≤ v.iv 29 ∧ v.iv 29 < 100) ∧ (100 - (v.iv 29 + 1)).toNat < (100 - s.iv 29).toNat) ∧ (0 ≤ v.iv 26 ∧ v.iv 26 ≤ v.iv 29) ∧ OkSl v 47 ∧ R2 (psRd v 0 (Nq v) 47) (Nq v) (v.iv 26 + 1) (fun k => if k = (v.iv 26).toNat then Sq v (v.ic 4 (v.iv 29).toNat 0 0) else v.ic 28 k 0 0) (100 + v.iv 29 + 1)) (fun _ => ⟨⟨hk, ⟨i1, l2⟩, j3⟩, ⟨f1, f4⟩, ho, hr⟩) fun v hv hf => ?_))))
        obtain ⟨⟨hk, ⟨i1, l2⟩, j3⟩, ⟨f1, f4⟩, ho, hr⟩ := hv
        simp only [D.le, D.lef, D.lt, D.ltf, D.eq, D.eqf, D.not, D.notf, D.and, D.andf, D.or, D.orf, D.inr, D.var, D.lit, D.cellB, D.beq, D.beqf, D.litI, D.varI, D.add, D.sub, D.mul, D.min, D.max, D.cellI, D.i64min, D.i64max, Int.toNat_zero] at hf
        refine Sat.ob (by simp only [D.le, D.lef, D.lt, D.ltf, D.eq, D.eqf, D.not, D.notf, D.and, D.andf, D.or, D.orf, D.inr, D.var, D.lit, D.cellB, D.beq, D.beqf, D.litI, D.varI, D.add, D.sub, D.mul, D.min, D.max, D.cellI, D.i64min, D.i64max, Int.toNat_zero]; omega) (Sat.back rfl ⟨⟨⟨by show 0 ≤ v.iv 29 + 1; omega, by show v.iv 29 + 1 ≤ 100; omega⟩, ⟨by show 0 ≤ v.iv 26 + 1; omega, hf.1, hf.2, by show v.iv 26 + 1 ≤ v.iv 29 + 1; omega⟩, ho, ?_⟩, j3⟩)
        refine (R2.to hr ?_ ?_ (fun k hk => ?_) : R2 _ (Nq v) (v.iv 26 + 1) _ (100 + (v.iv 29 + 1)))
        · exact Eq.symm (PS.ext' rfl rfl rfl rfl rfl rfl (fun i => by simp [psRd, psLp, mkW, -Int.pred_toNat, Sub.nenv, assoc, CV.I, CV.B, upsI, upsB, Seg.I, Seg.B, SC.I, SC.B, IE.den, BE.den]) (fun i => by simp [psRd, psLp, -Int.pred_toNat, Sub.nenv, assoc, CV.I, CV.B, upsI, upsB, Seg.I, Seg.B, SC.I, SC.B, IE.den, BE.den]) (fun i => by simp [psRd, psLp, -Int.pred_toNat, Sub.nenv, assoc, CV.I, CV.B, upsI, upsB, Seg.I, Seg.B, SC.I, SC.B, IE.den, BE.den]) (fun i k => by simp [psRd, psLp, mkW, -Int.pred_toNat, Sub.nenv, assoc, CV.I, CV.B, upsI, upsB, Seg.I, Seg.B, SC.I, SC.B, IE.den, BE.den]) (fun i => by simp [psRd, psLp, -Int.pred_toNat, Sub.nenv, assoc, CV.I, CV.B, upsI, upsB, Seg.I, Seg.B, SC.I, SC.B, IE.den, BE.den]))
        · omega
        · by_cases h : k = (v.iv 26).toNat
          · subst h
            rw [if_pos rfl]
            simp [-Int.pred_toNat, Sub.nenv, assoc, CV.I, CV.B, upsI, upsB, Seg.I, Seg.B, SC.I, SC.B, IE.den, BE.den, Sq, Nq, D.mod]
          · rw [if_neg h]
            simp [-Int.pred_toNat, Sub.nenv, assoc, CV.I, CV.B, upsI, upsB, Seg.I, Seg.B, SC.I, SC.B, IE.den, BE.den, Ne.symm h]
      · have hr := hz hb
        refine Sat.ob (by simp only [D.le, D.lef, D.lt, D.ltf, D.eq, D.eqf, D.not, D.notf, D.and, D.andf, D.or, D.orf, D.inr, D.var, D.lit, D.cellB, D.beq, D.beqf, D.litI, D.varI, D.add, D.sub, D.mul, D.min, D.max, D.cellI, D.i64min, D.i64max, Int.toNat_zero]; omega) (Sat.back rfl ⟨⟨⟨by show 0 ≤ u.iv 29 + 1; omega, by show u.iv 29 + 1 ≤ 100; omega⟩, ⟨f1, f2, f3, by show u.iv 26 ≤ u.iv 29 + 1; omega⟩, ho, ?_⟩, j3⟩)
        refine (R2.to hr ?_ ?_ (fun k hk => ?_) : R2 _ (Nq u) (u.iv 26) _ (100 + (u.iv 29 + 1)))
        · exact Eq.symm (PS.ext' rfl rfl rfl rfl rfl rfl (fun i => by simp [psRd, psLp, mkW, -Int.pred_toNat, Sub.nenv, assoc, CV.I, CV.B, upsI, upsB, Seg.I, Seg.B, SC.I, SC.B, IE.den, BE.den]) (fun i => by simp [psRd, psLp, -Int.pred_toNat, Sub.nenv, assoc, CV.I, CV.B, upsI, upsB, Seg.I, Seg.B, SC.I, SC.B, IE.den, BE.den]) (fun i => by simp [psRd, psLp, -Int.pred_toNat, Sub.nenv, assoc, CV.I, CV.B, upsI, upsB, Seg.I, Seg.B, SC.I, SC.B, IE.den, BE.den]) (fun i k => by simp [psRd, psLp, mkW, -Int.pred_toNat, Sub.nenv, assoc, CV.I, CV.B, upsI, upsB, Seg.I, Seg.B, SC.I, SC.B, IE.den, BE.den]) (fun i => by simp [psRd, psLp, -Int.pred_toNat, Sub.nenv, assoc, CV.I, CV.B, upsI, upsB, Seg.I, Seg.B, SC.I, SC.B, IE.den, BE.den]))
        · omega
        · simp [-Int.pred_toNat, Sub.nenv, assoc, CV.I, CV.B, upsI, upsB, Seg.I, Seg.B, SC.I, SC.B, IE.den, BE.den]
    · have h3 := hr.r3
      have hst := hr.steps
      refine Sat.ob (decide_eq_true f1) (Sat.ob (by simp only [D.le, D.lef, D.lt, D.ltf, D.eq, D.eqf, D.not, D.notf, D.and, D.andf, D.or, D.orf, D.inr, D.var, D.lit, D.cellB, D.beq, D.beqf, D.litI, D.varI, D.add, D.sub, D.mul, D.min, D.max, D.cellI, D.i64min, D.i64max, Int.toNat_zero]; omega) (Sat.loopK rInv3 (fun s => (s.iv 40 + 1).toNat) rK3 ⟨⟨by show -1 ≤ s.iv 26 - 1; omega, by show s.iv 26 - 1 < s.iv 26; omega⟩, ho, ?_⟩ (fun _ => ⟨f1, by show s.iv 26 ≤ 100; omega⟩) fun t hk hI => ?_))
      · have e : R3 (psLp s 0 (Nq s) 30) (Nq s) (s.iv 26 - 1 + 1) (fun k => s.ic 28 k 0 0) (300 - (s.iv 26 - 1)) := by
          rw [show s.iv 26 - 1 + 1 = s.iv 26 by omega]
          exact ⟨h3.ok, h3.ns, h3.nb, h3.nf, h3.fr, h3.gen, by omega⟩
        refine cast (congrArg (fun p => R3 p (Nq s) (s.iv 26 - 1 + 1) _ (300 - (s.iv 26 - 1))) ?_) e
        exact Eq.symm (PS.ext' rfl rfl rfl rfl rfl rfl (fun i => by simp [psRd, psLp, mkW, -Int.pred_toNat, Sub.nenv, assoc, CV.I, CV.B, upsI, upsB, Seg.I, Seg.B, SC.I, SC.B, IE.den, BE.den]) (fun i => by simp [psRd, psLp, -Int.pred_toNat, Sub.nenv, assoc, CV.I, CV.B, upsI, upsB, Seg.I, Seg.B, SC.I, SC.B, IE.den, BE.den]) (fun i => by simp [psRd, psLp, -Int.pred_toNat, Sub.nenv, assoc, CV.I, CV.B, upsI, upsB, Seg.I, Seg.B, SC.I, SC.B, IE.den, BE.den]) (fun i k => by simp [psRd, psLp, mkW, -Int.pred_toNat, Sub.nenv, assoc, CV.I, CV.B, upsI, upsB, Seg.I, Seg.B, SC.I, SC.B, IE.den, BE.den]) (fun i => by simp [psRd, psLp, -Int.pred_toNat, Sub.nenv, assoc, CV.I, CV.B, upsI, upsB, Seg.I, Seg.B, SC.I, SC.B, IE.den, BE.den]))
      replace hI : rInv3 t := hI
      rw [show (t.num.iv 40 + 1).toNat = (t.iv 40 + 1).toNat from rfl]
      obtain ⟨⟨i1, i2⟩, ho, hr⟩ := hI
      obtain ⟨k1, k2⟩ := hk
      have hst := hr.steps
      refine Sat.br (fun hge => ?_) (fun hlt => ?_)
      · replace hge : 0 ≤ t.iv 40 := of_decide_eq_true hge
        obtain ⟨r1, r2⟩ := hr.step (a := aNew) hge rfl
        refine do_call rfl (psLp t 0 (Nq t) 41) aNew (n := 0) (m := Nq t) rfl rfl (PS.ext' rfl rfl rfl rfl rfl rfl (fun i => by simp [psRd, psLp, mkW, -Int.pred_toNat, Sub.nenv, assoc, CV.I, CV.B, upsI, upsB, Seg.I, Seg.B, SC.I, SC.B, IE.den, BE.den]) (fun i => by simp [psRd, psLp, -Int.pred_toNat, Sub.nenv, assoc, CV.I, CV.B, upsI, upsB, Seg.I, Seg.B, SC.I, SC.B, IE.den, BE.den]) (fun i => by simp [psRd, psLp, -Int.pred_toNat, Sub.nenv, assoc, CV.I, CV.B, upsI, upsB, Seg.I, Seg.B, SC.I, SC.B, IE.den, BE.den]) (fun i k => by simp [psRd, psLp, mkW, -Int.pred_toNat, Sub.nenv, assoc, CV.I, CV.B, upsI, upsB, Seg.I, Seg.B, SC.I, SC.B, IE.den, BE.den]) (fun i => by simp [psRd, psLp, -Int.pred_toNat, Sub.nenv, assoc, CV.I, CV.B, upsI, upsB, Seg.I, Seg.B, SC.I, SC.B, IE.den, BE.den])) rfl ho hr.ok (by omega)
          (fun u => (rK3 u ∧ 0 ≤ u.iv 40 ∧ u.iv 40 < u.iv 26 ∧ (u.iv 40 - 1 + 1).toNat < (t.iv 40 + 1).toNat) ∧ OkSl u 58 ∧ R3 (psRd u 0 (Nq u) 58) (Nq u) (u.iv 40) (fun k => u.ic 28 k 0 0) (300 - (u.iv 40 - 1)) ∧ wdRd u 51 = ⟨u.ic 28 (u.iv 40).toNat 0 0, 2, 0, 0, false⟩)
          (fun e h1 h2 h3 h4 => ⟨⟨⟨k1, k2⟩, hge, i2, ?_⟩, h1, ?_, ?_⟩) fun u hu => ?_
        · show (t.iv 40 - 1 + 1).toNat < (t.iv 40 + 1).toNat
          omega
        · have := r1
          rw [← h2] at this
          exact ⟨this.ok, this.ns, this.nb, this.nf, this.fr, this.gen, Int.le_trans this.steps (show (300 - t.iv 40 + 1 : Int) ≤ 300 - (t.iv 40 - 1) by omega)⟩
        · rw [r2] at h4
          exact congrArg Rp.word h4
        obtain ⟨⟨hk, j1, j2, j3⟩, ho, hr, hw⟩ := hu
        obtain ⟨w1, w2, w3, w4, w5⟩ := wd_eq hw
        replace w1 : u.iv 51 = u.ic 28 (u.iv 40).toNat 0 0 := w1
        replace w2 : u.iv 52 = 2 := w2
        replace w3 : u.iv 53 = 0 := w3
        replace w4 : u.iv 54 = 0 := w4
        replace w5 : u.bv 55 = false := w5
        have hk2 := hk.2
        refine Sat.ob (decide_eq_true j2) (Sat.br (fun hb => ?_) (fun _ => Sat.ob (by simp only [D.le, D.lef, D.lt, D.ltf, D.eq, D.eqf, D.not, D.notf, D.and, D.andf, D.or, D.orf, D.inr, D.var, D.lit, D.cellB, D.beq, D.beqf, D.litI, D.varI, D.add, D.sub, D.mul, D.min, D.max, D.cellI, D.i64min, D.i64max, Int.toNat_zero]; omega) (Sat.back rfl ⟨⟨⟨by show -1 ≤ u.iv 40 - 1; omega, by show u.iv 40 - 1 < u.iv 26; omega⟩, ho, ?_⟩, j3⟩)))
        · simp [BE.den, IE.den, w1, w2, w3, w4, w5] at hb
        · rw [show (300 : Int) - (u.iv 40 - 1) = 300 - (u.iv 40 - 1) from rfl] at hr
          have e : R3 (psRd u 0 (Nq u) 58) (Nq u) (u.iv 40 - 1 + 1) (fun k => u.ic 28 k 0 0) (300 - (u.iv 40 - 1)) := by
            rw [show u.iv 40 - 1 + 1 = u.iv 40 by omega]
            exact hr
          refine cast (congrArg (fun p => R3 p (Nq u) (u.iv 40 - 1 + 1) _ (300 - (u.iv 40 - 1))) ?_) e
          exact Eq.symm (PS.ext' rfl rfl rfl rfl rfl rfl (fun i => by simp [psRd, psLp, mkW, -Int.pred_toNat, Sub.nenv, assoc, CV.I, CV.B, upsI, upsB, Seg.I, Seg.B, SC.I, SC.B, IE.den, BE.den]) (fun i => by simp [psRd, psLp, -Int.pred_toNat, Sub.nenv, assoc, CV.I, CV.B, upsI, upsB, Seg.I, Seg.B, SC.I, SC.B, IE.den, BE.den]) (fun i => by simp [psRd, psLp, -Int.pred_toNat, Sub.nenv, assoc, CV.I, CV.B, upsI, upsB, Seg.I, Seg.B, SC.I, SC.B, IE.den, BE.den]) (fun i k => by simp [psRd, psLp, mkW, -Int.pred_toNat, Sub.nenv, assoc, CV.I, CV.B, upsI, upsB, Seg.I, Seg.B, SC.I, SC.B, IE.den, BE.den]) (fun i => by simp [psRd, psLp, -Int.pred_toNat, Sub.nenv, assoc, CV.I, CV.B, upsI, upsB, Seg.I, Seg.B, SC.I, SC.B, IE.den, BE.den]))
      · replace hlt : ¬ 0 ≤ t.iv 40 := of_decide_eq_false hlt
        have e0 : t.iv 40 + 1 = 0 := by omega
        rw [e0] at hr
        obtain ⟨r1, r2⟩ := hr.last (a := aNew) rfl
        refine do_call rfl (psLp t 0 (Nq t) 41) aNew (n := 0) (m := Nq t) rfl rfl (PS.ext' rfl rfl rfl rfl rfl rfl (fun i => by simp [psRd, psLp, mkW, -Int.pred_toNat, Sub.nenv, assoc, CV.I, CV.B, upsI, upsB, Seg.I, Seg.B, SC.I, SC.B, IE.den, BE.den]) (fun i => by simp [psRd, psLp, -Int.pred_toNat, Sub.nenv, assoc, CV.I, CV.B, upsI, upsB, Seg.I, Seg.B, SC.I, SC.B, IE.den, BE.den]) (fun i => by simp [psRd, psLp, -Int.pred_toNat, Sub.nenv, assoc, CV.I, CV.B, upsI, upsB, Seg.I, Seg.B, SC.I, SC.B, IE.den, BE.den]) (fun i k => by simp [psRd, psLp, mkW, -Int.pred_toNat, Sub.nenv, assoc, CV.I, CV.B, upsI, upsB, Seg.I, Seg.B, SC.I, SC.B, IE.den, BE.den]) (fun i => by simp [psRd, psLp, -Int.pred_toNat, Sub.nenv, assoc, CV.I, CV.B, upsI, upsB, Seg.I, Seg.B, SC.I, SC.B, IE.den, BE.den])) rfl ho hr.ok (by omega)
          (fun u => OkSl u 58 ∧ u.iv 59 = 0 ∧ u.bv 56 = false) (fun e h1 h2 h3 h4 => ⟨h1, ?_, ?_⟩) fun u hu => ?_
        · have := congrArg PS.nf h2
          rw [r1] at this
          exact this
        · rw [r2] at h4
          exact congrArg Rp.ok h4
        obtain ⟨ho, h59, h56⟩ := hu
        have hn := nq_rng u
        refine Sat.br (fun _ => Sat.ob (decide_eq_true hn.1) (Sat.ob (nilOb ho) (Sat.ob (by simp [BE.den, IE.den, h59]) (Sat.ob ?_ (Sat.fin ?_))))) (fun hb => ?_)
        · show (decide (_ ≤ Nq u - u.iv 59) && decide (Nq u - u.iv 59 ≤ _)) = true
          rw [h59]
          simp only [D.i64min, D.i64max, Bool.and_eq_true, decide_eq_true_eq]
          omega
        · show (Nq u - u.iv 59 == Nq u) = true
          rw [h59]
          simp
        · simp [BE.den, h56] at hb
theorem prow_con : ConOK Tryd.prog (lawConR 27 ssP 6 rtP 3 [shI, shInts]) (lawPre [shI, shInts]) (lawPostR ssP [shI, shInts]) :=
  con_ok tabOK (E := prowE) (cs := lSem) rfl lSem_ok schedOK rfl prow_run (by kernel_rfl) (fun ρ _ p hp => by cases hp) prow_sat
end Go.Proofs.YthomdlajobnmnaaDoor
