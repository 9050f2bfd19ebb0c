/- 'PlotStays': what nobody stores stays -/
import Derived.Test.YthomdlajobnmnaaDoorPRow
set_option linter.unusedSimpArgs false
set_option linter.unusedVariables false
namespace Go.Proofs.YthomdlajobnmnaaDoor
open Go.Rex
/-- a heap of six slots and five cells, of which the first slot is used -/
structure S0 (p : PS) (s : Int) : Prop where
  ok : p.OK
  ns : p.ns = 6
  nb : p.nb = 5
  used : p.used 0 = true
  gen : p.gen 0 = 1
  steps : p.steps ≤ s
/-- .. and a word stands in two cells -/
structure St (p : PS) (w : Wd) (f b : Nat) (s : Int) : Prop extends S0 p s where
  cell : p.cell 0 f = w
  bd : p.bd b = w
theorem next6 {p p' : PS} {a : Ac} {s : Int} {R : Option Rp} (h : p.OK) (hn : p.ns = 6) (hb : p.nb = 5) (hs : p.steps ≤ s) (hp : p.act a = (p', R)) : p'.OK ∧ p'.ns = 6 ∧ p'.nb = 5 ∧ p'.steps ≤ s + 1 := by
  have h1 := h.act a
  have h2 := p.act_steps a
  have h3 := p.act_dims a
  rw [hp] at h1 h2 h3
  simp only at h1 h2 h3
  exact ⟨h1, by rw [h3.1, hn], by rw [h3.2, hb], by omega⟩
theorem Fresh.s0 {p : PS} (h : Fresh p 5 6) {a : Ac} (hk : a.kind = 4) : S0 (p.act a).1 1 ∧ (p.act a).2 = some ⟨⟨1, 1, 0, 0, false⟩, true⟩ := by
  have hok := h.ok ⟨by decide, by decide⟩ ⟨by decide, by decide⟩
  have hf : p.fr (p.nf - 1).toNat = 1 := by rw [h.nf]; exact h.fr 5 (by decide)
  have ha := act_alloc hk (show ¬ p.nf = 0 by rw [h.nf]; decide) hf
  obtain ⟨x1, x2, x3, x4⟩ := next6 hok h.ns h.nb (Int.le_of_eq h.steps) ha
  have e : ((1 : Int) - 1).toNat = 0 := rfl
  rw [ha]
  refine ⟨⟨x1, x2, x3, ?_, ?_, x4⟩, ?_⟩
  · simp only [e, if_true]
  · simp only [e, if_true, h.gen]
    rfl
  · simp only [e, h.gen]
    rfl
theorem S0.store {p : PS} {s : Int} (h : S0 p s) {a : Ac} (hk : a.kind = 2) (hs : a.slot = 1) (hg : a.gen = 1) (hf : 0 ≤ a.field ∧ a.field < 10) : S0 (p.act a).1 (s + 1) ∧ (p.act a).1.cell 0 a.field.toNat = a.new := by
  have hv : p.valid a := by simp [PS.valid, hk, PS.has, PS.is, hs, h.ns, hf]
  have hr : p.right a := by simp [PS.right, hk, PS.live, hs, hg, h.used, h.gen]
  have ha := act_to hv hr (makes2s hk (show ¬ a.slot = 0 by rw [hs]; decide))
  obtain ⟨x1, x2, x3, x4⟩ := next6 h.ok h.ns h.nb h.steps ha
  rw [ha]
  refine ⟨⟨x1, x2, x3, h.used, h.gen, x4⟩, ?_⟩
  simp [hs]
theorem S0.storeB {p : PS} {s : Int} {w : Wd} {f : Nat} (h : S0 p s) (hc : p.cell 0 f = w) {a : Ac} (hk : a.kind = 2) (hs : a.slot = 0) (hg : a.gen = 0) (hf : 0 ≤ a.field ∧ a.field < 5) (hw : a.new = w) : St (p.act a).1 w f a.field.toNat (s + 1) := by
  have hv : p.valid a := by simp [PS.valid, hk, PS.has, hs, hg, h.nb, hf]
  have hr : p.right a := by simp [PS.right, hk, PS.live, hs]
  have ha := act_to hv hr (makes2b hk hs)
  obtain ⟨x1, x2, x3, x4⟩ := next6 h.ok h.ns h.nb h.steps ha
  rw [ha]
  refine ⟨⟨x1, x2, x3, h.used, h.gen, x4⟩, hc, ?_⟩
  simp [hw]
theorem St.step {p : PS} {s : Int} {w : Wd} {f b : Nat} (h : St p w f b s) (a : Ac)
    (hno : ¬ (((a.kind = 2 ∨ a.kind = 3) ∧ ((a.slot = 1 ∧ a.gen = 1 ∧ a.field = f) ∨ (a.slot = 0 ∧ a.gen = 0 ∧ a.field = b))) ∨ (a.kind = 5 ∧ a.old.slot = 1))) : St (p.act a).1 w f b (s + 1) := by
  have keep : ∀ {p' : PS} {R : Option Rp}, p.act a = (p', R) → p'.used 0 = true → p'.gen 0 = 1 → p'.cell 0 f = w → p'.bd b = w → St (p.act a).1 w f b (s + 1) := by
    intro p' R ha h1 h2 h3 h4
    obtain ⟨x1, x2, x3, x4⟩ := next6 h.ok h.ns h.nb h.steps ha
    rw [ha]
    exact ⟨⟨x1, x2, x3, h1, h2, x4⟩, h3, h4⟩
  by_cases hv : p.valid a
  · by_cases hr : p.right a
    · by_cases h4 : a.kind = 4
      · by_cases hz : p.nf = 0
        · exact keep (act_to hv hr (makes4z h4 hz)) h.used h.gen h.cell h.bd
        · have h0 := h.ok.nf
          obtain ⟨f1, f2, f3⟩ := h.ok.fr (p.nf - 1).toNat (by omega)
          have hne : ¬ (0 : Nat) = (p.fr (p.nf - 1).toNat - 1).toNat := fun e => by
            rw [← e, h.used] at f3
            cases f3
          refine keep (act_alloc h4 hz rfl) ?_ ?_ ?_ h.bd
          · simp only [if_neg hne]
            exact h.used
          · simp only [if_neg hne]
            exact h.gen
          · simp only [hne, false_and, if_false]
            exact h.cell
      · by_cases h5 : a.kind = 5
        · have hi : p.is a.old.slot := by
            have := hv
            simp only [PS.valid, h5] at this
            simpa using this
          have hne : ¬ (0 : Nat) = (a.old.slot - 1).toNat := fun e => hno (.inr ⟨h5, by have := hi.1; omega⟩)
          refine keep (act_to hv hr (makes5 h5)) ?_ h.gen h.cell h.bd
          simp only [PS.free, if_neg hne]
          exact h.used
        · have hkind : a.kind = 1 ∨ a.kind = 2 ∨ a.kind = 3 := by
            have := hv
            simp only [PS.valid, h4, h5, if_false] at this
            by_cases hx : a.kind = 1 ∨ a.kind = 2 ∨ a.kind = 3
            · exact hx
            · rw [if_neg hx] at this
              exact this.elim
          have hhas : p.has a.slot a.gen a.field := by
            have := hv
            simp only [PS.valid, hkind, if_true] at this
            exact this
          have hlive : p.live a.slot a.gen := by
            have := hr
            simp only [PS.right, h4, h5, if_false] at this
            exact this
          have put : a.kind = 2 ∨ a.kind = 3 → ∀ {R : Rp} {p' : PS}, (a.slot = 0 → p' = { ({ p with steps := p.steps + 1 } : PS) with bd := fun i => if i = a.field.toNat then a.new else p.bd i }) → (¬ a.slot = 0 → p' = { ({ p with steps := p.steps + 1 } : PS) with cell := fun i k => if i = (a.slot - 1).toNat ∧ k = a.field.toNat then a.new else p.cell i k }) → p.act a = (p', some R) → St (p.act a).1 w f b (s + 1) := by
            intro hk R p' hp0 hp1 ha
            by_cases hs : a.slot = 0
            · have e := hp0 hs
              subst e
              refine keep ha h.used h.gen h.cell ?_
              simp only [PS.has, hs, if_true] at hhas
              have hne : ¬ b = a.field.toNat := fun e => hno (.inl ⟨hk, .inr ⟨hs, hhas.1, by omega⟩⟩)
              simp only [if_neg hne]
              exact h.bd
            · have e := hp1 hs
              subst e
              refine keep ha h.used h.gen ?_ h.bd
              simp only [PS.has, hs, if_false] at hhas
              have hne : ¬ ((0 : Nat) = (a.slot - 1).toNat ∧ f = a.field.toNat) := fun e => by
                have e1 : a.slot = 1 := by have := hhas.1.1; omega
                have e2 : a.gen = 1 := by
                  rcases hlive with hl | hl
                  · omega
                  · rw [← hl.2, e1]
                    exact h.gen
                exact hno (.inl ⟨hk, .inl ⟨e1, e2, by omega⟩⟩)
              simp only [if_neg hne]
              exact h.cell
          rcases hkind with hk | hk | hk
          · by_cases hs : a.slot = 0
            · exact keep (act_to hv hr (makes1b hk hs)) h.used h.gen h.cell h.bd
            · exact keep (act_to hv hr (makes1s hk hs)) h.used h.gen h.cell h.bd
          · by_cases hs : a.slot = 0
            · exact put (.inl hk) (fun _ => rfl) (fun h => absurd hs h) (act_to hv hr (makes2b hk hs))
            · exact put (.inl hk) (fun h => absurd h hs) (fun _ => rfl) (act_to hv hr (makes2s hk hs))
          · by_cases hs : a.slot = 0
            · by_cases hw : sameW (p.bd a.field.toNat) a.old
              · exact put (.inr hk) (fun _ => rfl) (fun h => absurd hs h) (act_to hv hr (makes3b hk hs hw))
              · exact keep (act_to hv hr (makes3nb hk hs hw)) h.used h.gen h.cell h.bd
            · by_cases hw : sameW (p.cell (a.slot - 1).toNat a.field.toNat) a.old
              · exact put (.inr hk) (fun h => absurd h hs) (fun _ => rfl) (act_to hv hr (makes3s hk hs hw))
              · exact keep (act_to hv hr (makes3ns hk hs hw)) h.used h.gen h.cell h.bd
    · exact keep (act_wrong hv hr) h.used h.gen h.cell h.bd
  · have ha := act_no hv
    rw [ha]
    exact ⟨⟨h.ok, h.ns, h.nb, h.used, h.gen, (by have := h.steps; show p.steps ≤ s + 1; omega)⟩, h.cell, h.bd⟩
noncomputable def staysE : Ex := { sched := sched, loops := [L4], cons := [awakeP, newCon, doCon], fin := lawConR 27 ssP 6 rtP 4 [shW, shI, shAcs] }
def staysOut : Out :=
  .call 0 { lo := 0, lob := 0, bk := [(9, { blk := 9 }), (7, { blk := 7 }), (5, { blk := 5 }), (3, { blk := 3 }), (1, { blk := 1 }), (10, { blk := 10 }), (8, { blk := 8 }), (6, { blk := 6 }), (4, { blk := 4 }), (2, { blk := 2 }), (0, { blk := 0 })] } 10 <|
   .call 1 { lo := 0, lob := 0, iv := [(1, (.lit 5)), (0, (.lit 6))] } 10 <|
   .call 2 { lo := 0, lob := 0, iv := [(20, (.var 14)), (19, (.var 13)), (18, (.var 12)), (17, (.var 11)), (15, (.lit 6)), (14, (.lit 5)), (12, (.lit 0)), (11, (.lit 0)), (10, (.lit 0)), (9, (.lit 0)), (7, (.lit 0)), (6, (.lit 0)), (5, (.lit 0)), (4, (.lit 0)), (3, (.lit 0)), (2, (.lit 0)), (1, (.lit 0)), (0, (.lit 4))], bv := [(21, (.var 15)), (16, (.var 10)), (13, (.lit false)), (8, (.lit false))], ct := [(25, .up { r := 19, n1 := (.var 11), s1 := 1, ks := [.int .i64] } 0 [] (.lit 0)), (24, .up { r := 18, n1 := (.lit 6), s1 := 52, n2 := 10, s2 := 5, lo := 2, ks := [.int .i64, .int .i64, .int .i64, .int .i64, .bool] } 1 [] (.lit 0)), (23, .up { r := 17, n1 := (.lit 6), s1 := 52, ks := [.int .i64, .bool] } 0 [] (.lit 0)), (22, .up { r := 16, n1 := (.lit 5), s1 := 5, ks := [.int .i64, .int .i64, .int .i64, .int .i64, .bool] } 0 [] (.lit 0))], bk := [(12, { blk := 17 }), (11, { blk := 16, i1 := (.lit 0), s1 := 1 }), (10, { blk := 15, i1 := (.lit 0), s1 := 52 }), (9, { blk := 14, i1 := (.lit 0), s1 := 5 }), (7, { blk := 9 }), (5, { blk := 7 }), (3, { blk := 5 }), (1, { blk := 1 }), (6, { blk := 8 }), (4, { blk := 6 }), (2, { blk := 4 }), (0, { blk := 0 }), (8, { blk := 13 })] } 20 <|
   .ob (.inr .i64 (.mod (.wrap .u64 (.var 5)) (.lit 10))) <|
   .ob (.inr .i64 (.mod (.wrap .u64 (.var 5)) (.lit 5))) <|
   .call 2 { lo := 0, lob := 0, iv := [(20, (.var 31)), (19, (.var 30)), (18, (.var 29)), (17, (.var 28)), (15, (.lit 6)), (14, (.lit 5)), (12, (.var 3)), (11, (.var 2)), (10, (.var 1)), (9, (.var 0)), (7, (.lit 0)), (6, (.lit 0)), (5, (.lit 0)), (4, (.lit 0)), (3, (.mod (.wrap .u64 (.var 5)) (.lit 10))), (2, (.var 21)), (1, (.var 20)), (0, (.lit 2))], bv := [(21, (.var 32)), (16, (.var 27)), (13, (.var 4)), (8, (.lit false))], ct := [(25, .up { r := 36, n1 := (.var 28), s1 := 1, ks := [.int .i64] } 0 [] (.lit 0)), (24, .up { r := 35, n1 := (.lit 6), s1 := 52, n2 := 10, s2 := 5, lo := 2, ks := [.int .i64, .int .i64, .int .i64, .int .i64, .bool] } 1 [] (.lit 0)), (23, .up { r := 34, n1 := (.lit 6), s1 := 52, ks := [.int .i64, .bool] } 0 [] (.lit 0)), (22, .up { r := 33, n1 := (.lit 5), s1 := 5, ks := [.int .i64, .int .i64, .int .i64, .int .i64, .bool] } 0 [] (.lit 0))], bk := [(12, { blk := 19 }), (11, { blk := 18, i1 := (.lit 0), s1 := 1 }), (10, { blk := 15, i1 := (.lit 0), s1 := 52 }), (9, { blk := 14, i1 := (.lit 0), s1 := 5 }), (7, { blk := 9 }), (5, { blk := 7 }), (3, { blk := 5 }), (1, { blk := 1 }), (6, { blk := 8 }), (4, { blk := 6 }), (2, { blk := 4 }), (0, { blk := 0 }), (8, { blk := 13 })] } 37 <|
   .call 2 { lo := 0, lob := 0, iv := [(20, (.var 48)), (19, (.var 47)), (18, (.var 46)), (17, (.var 45)), (15, (.lit 6)), (14, (.lit 5)), (12, (.var 3)), (11, (.var 2)), (10, (.var 1)), (9, (.var 0)), (7, (.lit 0)), (6, (.lit 0)), (5, (.lit 0)), (4, (.lit 0)), (3, (.mod (.wrap .u64 (.var 5)) (.lit 5))), (2, (.lit 0)), (1, (.lit 0)), (0, (.lit 2))], bv := [(21, (.var 49)), (16, (.var 44)), (13, (.var 4)), (8, (.lit false))], ct := [(25, .up { r := 53, n1 := (.var 45), s1 := 1, ks := [.int .i64] } 0 [] (.lit 0)), (24, .up { r := 52, n1 := (.lit 6), s1 := 52, n2 := 10, s2 := 5, lo := 2, ks := [.int .i64, .int .i64, .int .i64, .int .i64, .bool] } 1 [] (.lit 0)), (23, .up { r := 51, n1 := (.lit 6), s1 := 52, ks := [.int .i64, .bool] } 0 [] (.lit 0)), (22, .up { r := 50, n1 := (.lit 5), s1 := 5, ks := [.int .i64, .int .i64, .int .i64, .int .i64, .bool] } 0 [] (.lit 0))], bk := [(12, { blk := 24 }), (11, { blk := 23, i1 := (.lit 0), s1 := 1 }), (10, { blk := 15, i1 := (.lit 0), s1 := 52 }), (9, { blk := 14, i1 := (.lit 0), s1 := 5 }), (7, { blk := 9 }), (5, { blk := 7 }), (3, { blk := 5 }), (1, { blk := 1 }), (6, { blk := 8 }), (4, { blk := 6 }), (2, { blk := 4 }), (0, { blk := 0 }), (8, { blk := 13 })] } 54 <|
   .loop 71 { lo := 71, lob := 27, iv := [(80, (.var 65)), (79, (.var 64)), (77, (.var 63)), (76, (.var 62)), (71, (.lit 0))], bv := [(81, (.var 66)), (75, (.var 61))], ct := [(78, .up { r := 70, n1 := (.var 62), s1 := 1, ks := [.int .i64] } 0 [] (.lit 0)), (74, .up { r := 69, n1 := (.lit 6), s1 := 52, n2 := 10, s2 := 5, lo := 2, ks := [.int .i64, .int .i64, .int .i64, .int .i64, .bool] } 1 [] (.lit 0)), (73, .up { r := 68, n1 := (.lit 6), s1 := 52, ks := [.int .i64, .bool] } 0 [] (.lit 0)), (72, .up { r := 67, n1 := (.lit 5), s1 := 5, ks := [.int .i64, .int .i64, .int .i64, .int .i64, .bool] } 0 [] (.lit 0))], bk := [(28, { blk := 26 }), (27, { blk := 25, i1 := (.lit 0), s1 := 1 })] } <|
   .ob (.or (.not (.var 6)) (.ieq (.var 7) (.lit 0))) <|
   .ob (.ile (.lit 0) (.var 7)) <|
   .br (.and (.ilt (.var 71) (.var 7)) (.ilt (.var 71) (.lit 200)))
   (.ob (.not (.var 6)) <|
    .ob (.ile (.lit 0) (.var 71)) <|
    .br (.or (.and (.or (.ieq (.cell 9 (.var 71) (.lit 0) 0) (.lit 2)) (.ieq (.cell 9 (.var 71) (.lit 0) 0) (.lit 3))) (.or (.and (.ieq (.cell 9 (.var 71) (.lit 0) 1) (.var 20)) (.and (.ieq (.cell 9 (.var 71) (.lit 0) 2) (.var 21)) (.ieq (.cell 9 (.var 71) (.lit 0) 3) (.mod (.wrap .u64 (.var 5)) (.lit 10))))) (.and (.ieq (.cell 9 (.var 71) (.lit 0) 1) (.lit 0)) (.and (.ieq (.cell 9 (.var 71) (.lit 0) 2) (.lit 0)) (.ieq (.cell 9 (.var 71) (.lit 0) 3) (.mod (.wrap .u64 (.var 5)) (.lit 5))))))) (.and (.ieq (.cell 9 (.var 71) (.lit 0) 0) (.lit 5)) (.ieq (.cell 9 (.var 71) (.lit 0) 4) (.var 20))))
    (.ob (.inr .i64 (.add (.var 71) (.lit 1))) <|
     .back 0 { lo := 71, lob := 27, iv := [(80, (.var 80)), (79, (.var 79)), (77, (.var 77)), (76, (.var 76)), (71, (.add (.var 71) (.lit 1)))], bv := [(81, (.var 81)), (75, (.var 75))], ct := [(78, .up { r := 78, n1 := (.var 76), s1 := 1, ks := [.int .i64] } 0 [] (.lit 0)), (74, .up { r := 74, n1 := (.lit 6), s1 := 52, n2 := 10, s2 := 5, lo := 2, ks := [.int .i64, .int .i64, .int .i64, .int .i64, .bool] } 1 [] (.lit 0)), (73, .up { r := 73, n1 := (.lit 6), s1 := 52, ks := [.int .i64, .bool] } 0 [] (.lit 0)), (72, .up { r := 72, n1 := (.lit 5), s1 := 5, ks := [.int .i64, .int .i64, .int .i64, .int .i64, .bool] } 0 [] (.lit 0))], bk := [(28, { blk := 28 }), (27, { blk := 27, i1 := (.lit 0), s1 := 1 })] })
    (.call 2 { lo := 0, lob := 0, iv := [(20, (.var 80)), (19, (.var 79)), (18, (.var 77)), (17, (.var 76)), (15, (.lit 6)), (14, (.lit 5)), (12, (.cell 9 (.var 71) (.lit 0) 12)), (11, (.cell 9 (.var 71) (.lit 0) 11)), (10, (.cell 9 (.var 71) (.lit 0) 10)), (9, (.cell 9 (.var 71) (.lit 0) 9)), (7, (.cell 9 (.var 71) (.lit 0) 7)), (6, (.cell 9 (.var 71) (.lit 0) 6)), (5, (.cell 9 (.var 71) (.lit 0) 5)), (4, (.cell 9 (.var 71) (.lit 0) 4)), (3, (.cell 9 (.var 71) (.lit 0) 3)), (2, (.cell 9 (.var 71) (.lit 0) 2)), (1, (.cell 9 (.var 71) (.lit 0) 1)), (0, (.cell 9 (.var 71) (.lit 0) 0))], bv := [(21, (.var 81)), (16, (.var 75)), (13, (.cell 9 (.var 71) (.lit 0) 13)), (8, (.cell 9 (.var 71) (.lit 0) 8))], ct := [(25, .up { r := 78, n1 := (.var 76), s1 := 1, ks := [.int .i64] } 0 [] (.lit 0)), (24, .up { r := 74, n1 := (.lit 6), s1 := 52, n2 := 10, s2 := 5, lo := 2, ks := [.int .i64, .int .i64, .int .i64, .int .i64, .bool] } 1 [] (.lit 0)), (23, .up { r := 73, n1 := (.lit 6), s1 := 52, ks := [.int .i64, .bool] } 0 [] (.lit 0)), (22, .up { r := 72, n1 := (.lit 5), s1 := 5, ks := [.int .i64, .int .i64, .int .i64, .int .i64, .bool] } 0 [] (.lit 0))], bk := [(12, { blk := 28 }), (11, { blk := 27, i1 := (.lit 0), s1 := 1 }), (10, { blk := 15, i1 := (.lit 0), s1 := 52 }), (9, { blk := 14, i1 := (.lit 0), s1 := 5 }), (7, { blk := 9 }), (5, { blk := 7 }), (3, { blk := 5 }), (1, { blk := 1 }), (6, { blk := 8 }), (4, { blk := 6 }), (2, { blk := 4 }), (0, { blk := 0 }), (8, { blk := 13 })] } 82 <|
     .ob (.inr .i64 (.add (.var 71) (.lit 1))) <|
     .back 0 { lo := 71, lob := 27, iv := [(80, (.var 93)), (79, (.var 92)), (77, (.var 91)), (76, (.var 90)), (71, (.add (.var 71) (.lit 1)))], bv := [(81, (.var 94)), (75, (.var 89))], ct := [(78, .up { r := 98, n1 := (.var 90), s1 := 1, ks := [.int .i64] } 0 [] (.lit 0)), (74, .up { r := 97, n1 := (.lit 6), s1 := 52, n2 := 10, s2 := 5, lo := 2, ks := [.int .i64, .int .i64, .int .i64, .int .i64, .bool] } 1 [] (.lit 0)), (73, .up { r := 96, n1 := (.lit 6), s1 := 52, ks := [.int .i64, .bool] } 0 [] (.lit 0)), (72, .up { r := 95, n1 := (.lit 5), s1 := 5, ks := [.int .i64, .int .i64, .int .i64, .int .i64, .bool] } 0 [] (.lit 0))], bk := [(28, { blk := 31 }), (27, { blk := 30, i1 := (.lit 0), s1 := 1 })] }))
   (.br (.ieq (.var 20) (.lit 0))
    (.br (.and (.and (.ieq (.var 21) (.lit 0)) (.ile (.lit 0) (.mod (.wrap .u64 (.var 5)) (.lit 10)))) (.ilt (.mod (.wrap .u64 (.var 5)) (.lit 10)) (.lit 5)))
     (.br (.and (.ile (.lit 0) (.mod (.wrap .u64 (.var 5)) (.lit 5))) (.ilt (.mod (.wrap .u64 (.var 5)) (.lit 5)) (.lit 5)))
      (.fin { lo := 10, lob := 12, bv := [(10, (.and (.and (.ieq (.cell 72 (.mod (.wrap .u64 (.var 5)) (.lit 10)) (.lit 0) 0) (.var 0)) (.and (.ieq (.cell 72 (.mod (.wrap .u64 (.var 5)) (.lit 10)) (.lit 0) 1) (.var 1)) (.and (.ieq (.cell 72 (.mod (.wrap .u64 (.var 5)) (.lit 10)) (.lit 0) 2) (.var 2)) (.and (.ieq (.cell 72 (.mod (.wrap .u64 (.var 5)) (.lit 10)) (.lit 0) 3) (.var 3)) (.beq (.cell 72 (.mod (.wrap .u64 (.var 5)) (.lit 10)) (.lit 0) 4) (.var 4)))))) (.and (.ieq (.cell 72 (.mod (.wrap .u64 (.var 5)) (.lit 5)) (.lit 0) 0) (.var 0)) (.and (.ieq (.cell 72 (.mod (.wrap .u64 (.var 5)) (.lit 5)) (.lit 0) 1) (.var 1)) (.and (.ieq (.cell 72 (.mod (.wrap .u64 (.var 5)) (.lit 5)) (.lit 0) 2) (.var 2)) (.and (.ieq (.cell 72 (.mod (.wrap .u64 (.var 5)) (.lit 5)) (.lit 0) 3) (.var 3)) (.beq (.cell 72 (.mod (.wrap .u64 (.var 5)) (.lit 5)) (.lit 0) 4) (.var 4))))))))] })
      (.fin { lo := 10, lob := 12, bv := [(10, (.lit false))] }))
     (.br (.and (.ile (.lit 0) (.mod (.wrap .u64 (.var 5)) (.lit 5))) (.ilt (.mod (.wrap .u64 (.var 5)) (.lit 5)) (.lit 5)))
      (.fin { lo := 10, lob := 12, bv := [(10, (.lit false))] })
      (.fin { lo := 10, lob := 12, bv := [(10, (.lit false))] })))
    (.br (.and (.and (.and (.ile (.lit 1) (.var 20)) (.ile (.var 20) (.lit 6))) (.ile (.lit 0) (.mod (.wrap .u64 (.var 5)) (.lit 10)))) (.ilt (.mod (.wrap .u64 (.var 5)) (.lit 10)) (.lit 10)))
     (.ob (.inr .i64 (.sub (.var 20) (.lit 1))) <|
      .ob (.ile (.lit 0) (.sub (.var 20) (.lit 1))) <|
      .ob (.ilt (.sub (.var 20) (.lit 1)) (.lit 6)) <|
      .br (.not (.cell 73 (.sub (.var 20) (.lit 1)) (.lit 0) 1))
      (.br (.and (.ile (.lit 0) (.mod (.wrap .u64 (.var 5)) (.lit 5))) (.ilt (.mod (.wrap .u64 (.var 5)) (.lit 5)) (.lit 5)))
       (.fin { lo := 10, lob := 12, bv := [(10, (.lit false))] })
       (.fin { lo := 10, lob := 12, bv := [(10, (.lit false))] }))
      (.br (.not (.ieq (.cell 73 (.sub (.var 20) (.lit 1)) (.lit 0) 0) (.var 21)))
       (.br (.and (.ile (.lit 0) (.mod (.wrap .u64 (.var 5)) (.lit 5))) (.ilt (.mod (.wrap .u64 (.var 5)) (.lit 5)) (.lit 5)))
        (.fin { lo := 10, lob := 12, bv := [(10, (.lit false))] })
        (.fin { lo := 10, lob := 12, bv := [(10, (.lit false))] }))
       (.br (.and (.ile (.lit 0) (.mod (.wrap .u64 (.var 5)) (.lit 5))) (.ilt (.mod (.wrap .u64 (.var 5)) (.lit 5)) (.lit 5)))
        (.fin { lo := 10, lob := 12, bv := [(10, (.and (.and (.ieq (.cell 74 (.sub (.var 20) (.lit 1)) (.mod (.wrap .u64 (.var 5)) (.lit 10)) 0) (.var 0)) (.and (.ieq (.cell 74 (.sub (.var 20) (.lit 1)) (.mod (.wrap .u64 (.var 5)) (.lit 10)) 1) (.var 1)) (.and (.ieq (.cell 74 (.sub (.var 20) (.lit 1)) (.mod (.wrap .u64 (.var 5)) (.lit 10)) 2) (.var 2)) (.and (.ieq (.cell 74 (.sub (.var 20) (.lit 1)) (.mod (.wrap .u64 (.var 5)) (.lit 10)) 3) (.var 3)) (.beq (.cell 74 (.sub (.var 20) (.lit 1)) (.mod (.wrap .u64 (.var 5)) (.lit 10)) 4) (.var 4)))))) (.and (.ieq (.cell 72 (.mod (.wrap .u64 (.var 5)) (.lit 5)) (.lit 0) 0) (.var 0)) (.and (.ieq (.cell 72 (.mod (.wrap .u64 (.var 5)) (.lit 5)) (.lit 0) 1) (.var 1)) (.and (.ieq (.cell 72 (.mod (.wrap .u64 (.var 5)) (.lit 5)) (.lit 0) 2) (.var 2)) (.and (.ieq (.cell 72 (.mod (.wrap .u64 (.var 5)) (.lit 5)) (.lit 0) 3) (.var 3)) (.beq (.cell 72 (.mod (.wrap .u64 (.var 5)) (.lit 5)) (.lit 0) 4) (.var 4))))))))] })
        (.fin { lo := 10, lob := 12, bv := [(10, (.lit false))] }))))
     (.br (.and (.ile (.lit 0) (.mod (.wrap .u64 (.var 5)) (.lit 5))) (.ilt (.mod (.wrap .u64 (.var 5)) (.lit 5)) (.lit 5)))
      (.fin { lo := 10, lob := 12, bv := [(10, (.lit false))] })
      (.fin { lo := 10, lob := 12, bv := [(10, (.lit false))] }))))
theorem stays_run : exec tab staysE 8000 [] (cfg0 4 10 [] (lawConR 27 ssP 6 rtP 4 [shW, shI, shAcs]).gl (lawConR 27 ssP 6 rtP 4 [shW, shI, shAcs]).hp (lawConR 27 ssP 6 rtP 4 [shW, shI, shAcs]).args) = staysOut := by kernel_rfl
def Aq (q : Env) : Int := (IntKind.u64.wrap (q.iv 5)).tmod 10
def Bq (q : Env) : Int := (IntKind.u64.wrap (q.iv 5)).tmod 5
theorem aq_rng (q : Env) : 0 ≤ Aq q ∧ Aq q < 10 := tmP _ 10 (by decide) (wrP _)
theorem bq_rng (q : Env) : 0 ≤ Bq q ∧ Bq q < 5 := tmP _ 5 (by decide) (wrP _)
def sK (q : Env) : Prop := OkSl q 6 ∧ q.iv 20 = 1 ∧ q.iv 21 = 1
def acL (q : Env) : Ac := ⟨q.ic 9 (q.iv 71).toNat 0 0, q.ic 9 (q.iv 71).toNat 0 1, q.ic 9 (q.iv 71).toNat 0 2, q.ic 9 (q.iv 71).toNat 0 3, ⟨q.ic 9 (q.iv 71).toNat 0 4, q.ic 9 (q.iv 71).toNat 0 5, q.ic 9 (q.iv 71).toNat 0 6, q.ic 9 (q.iv 71).toNat 0 7, q.bc 9 (q.iv 71).toNat 0 8⟩, ⟨q.ic 9 (q.iv 71).toNat 0 9, q.ic 9 (q.iv 71).toNat 0 10, q.ic 9 (q.iv 71).toNat 0 11, q.ic 9 (q.iv 71).toNat 0 12, q.bc 9 (q.iv 71).toNat 0 13⟩⟩
def sInv (ρ : Env) : Prop := (0 ≤ ρ.iv 71 ∧ ρ.iv 71 ≤ 200) ∧ OkSl ρ 75 ∧ St (psLp ρ 5 6 72) (wdRd ρ 0) (Aq ρ).toNat (Bq ρ).toNat (3 + ρ.iv 71)
set_option maxHeartbeats 4000000 in
theorem stays_sat (ρ : Env) (hpre : lawPre [shW, shI, shAcs] ρ.num) : Sat (lawPostR ssP [shW, shI, shAcs]) lSem [] ρ staysOut := by
  replace hpre : _ ∧ _ ∧ _ ∧ _ ∧ _ ∧ ((ρ.bv 6 = true → ρ.iv 7 = 0 ∧ ρ.iv 8 = 0) ∧ 0 ≤ ρ.iv 7 ∧ ρ.iv 7 ≤ ρ.iv 8 ∧ ρ.iv 8 ≤ 9223372036854775807 ∧ _) ∧ _ := hpre
  have hk : OkSl ρ 6 := ⟨fun h => (hpre.2.2.2.2.2.1.1 h).1, hpre.2.2.2.2.2.1.2.1, hpre.2.2.2.2.2.1.2.2.1, hpre.2.2.2.2.2.1.2.2.2.1⟩
  clear hpre
  unfold staysOut
  refine Sat.callK (c := awakeP) rfl trivial (fun q => OkSl q 6) (fun _ _ => hk) fun q hk => ?_
  refine new_call rfl (n := 5) (m := 6) rfl rfl ⟨by decide, by decide⟩ ⟨by decide, by decide⟩ (fun u => OkSl u 6 ∧ OkSl u 10 ∧ Fresh (psRd u 5 6 10) 5 6) (fun e ho hf => ⟨hk, ho, hf⟩) fun u hu => ?_
  obtain ⟨hk, ho, hf⟩ := hu
  have hok := hf.ok ⟨by decide, by decide⟩ ⟨by decide, by decide⟩
  obtain ⟨r1, r2⟩ := hf.s0 (a := aNew) rfl
  refine do_call rfl (psRd u 5 6 10) aNew (n := 5) (m := 6) rfl rfl (PS.ext' rfl rfl rfl rfl rfl rfl (fun i => by simp [psRd, psLp, mkW, -Int.pred_toNat, Sub.nenv, assoc, CV.I, CV.B, upsI, upsB, Seg.I, Seg.B, SC.I, SC.B, IE.den, BE.den]) (fun i => by simp [psRd, psLp, -Int.pred_toNat, Sub.nenv, assoc, CV.I, CV.B, upsI, upsB, Seg.I, Seg.B, SC.I, SC.B, IE.den, BE.den]) (fun i => by simp [psRd, psLp, -Int.pred_toNat, Sub.nenv, assoc, CV.I, CV.B, upsI, upsB, Seg.I, Seg.B, SC.I, SC.B, IE.den, BE.den]) (fun i k => by simp [psRd, psLp, mkW, -Int.pred_toNat, Sub.nenv, assoc, CV.I, CV.B, upsI, upsB, Seg.I, Seg.B, SC.I, SC.B, IE.den, BE.den]) (fun i => by simp [psRd, psLp, -Int.pred_toNat, Sub.nenv, assoc, CV.I, CV.B, upsI, upsB, Seg.I, Seg.B, SC.I, SC.B, IE.den, BE.den])) rfl ho hok (by rw [hf.steps]; decide) (fun v => sK v ∧ OkSl v 27 ∧ S0 (psRd v 5 6 27) 1) (fun e h1 h2 h3 h4 => ⟨?_, h1, by rw [h2]; exact r1⟩) fun v hv => ?_
  · rw [r2] at h4
    have := wd_eq (congrArg Rp.word h4)
    exact ⟨hk, this.1, this.2.1⟩
  clear r1 r2
  obtain ⟨hk, ho, hr⟩ := hv
  have ha := aq_rng v
  have hb := bq_rng v
  refine Sat.ob (by
    show (decide (_ ≤ Aq v) && decide (Aq v ≤ _)) = true
    simp only [D.i64min, D.i64max, Bool.and_eq_true, decide_eq_true_eq]
    omega) (Sat.ob (by
    show (decide (_ ≤ Bq v) && decide (Bq v ≤ _)) = true
    simp only [D.i64min, D.i64max, Bool.and_eq_true, decide_eq_true_eq]
    omega) ?_)
  obtain ⟨r1, r2⟩ := hr.store (a := ⟨2, v.iv 20, v.iv 21, Aq v, ⟨0, 0, 0, 0, false⟩, wdRd v 0⟩) rfl hk.2.1 hk.2.2 ha
  refine do_call rfl (psRd v 5 6 27) ⟨2, v.iv 20, v.iv 21, Aq v, ⟨0, 0, 0, 0, false⟩, wdRd v 0⟩ (n := 5) (m := 6) rfl rfl (PS.ext' rfl rfl rfl rfl rfl rfl (fun i => by simp [psRd, psLp, mkW, -Int.pred_toNat, Sub.nenv, assoc, CV.I, CV.B, upsI, upsB, Seg.I, Seg.B, SC.I, SC.B, IE.den, BE.den]) (fun i => by simp [psRd, psLp, -Int.pred_toNat, Sub.nenv, assoc, CV.I, CV.B, upsI, upsB, Seg.I, Seg.B, SC.I, SC.B, IE.den, BE.den]) (fun i => by simp [psRd, psLp, -Int.pred_toNat, Sub.nenv, assoc, CV.I, CV.B, upsI, upsB, Seg.I, Seg.B, SC.I, SC.B, IE.den, BE.den]) (fun i k => by simp [psRd, psLp, mkW, -Int.pred_toNat, Sub.nenv, assoc, CV.I, CV.B, upsI, upsB, Seg.I, Seg.B, SC.I, SC.B, IE.den, BE.den]) (fun i => by simp [psRd, psLp, -Int.pred_toNat, Sub.nenv, assoc, CV.I, CV.B, upsI, upsB, Seg.I, Seg.B, SC.I, SC.B, IE.den, BE.den])) rfl ho hr.ok (Int.le_trans hr.steps (by decide)) (fun t => sK t ∧ OkSl t 44 ∧ S0 (psRd t 5 6 44) 2 ∧ (psRd t 5 6 44).cell 0 (Aq t).toNat = wdRd t 0) (fun e h1 h2 h3 h4 => ⟨hk, h1, by rw [h2]; exact r1, by rw [h2]; exact r2⟩) fun t ht => ?_
  clear r1 r2
  obtain ⟨hk, ho, hr, hc⟩ := ht
  have hb := bq_rng t
  have r1 := hr.storeB hc (a := ⟨2, 0, 0, Bq t, ⟨0, 0, 0, 0, false⟩, wdRd t 0⟩) rfl rfl rfl hb rfl
  refine do_call rfl (psRd t 5 6 44) ⟨2, 0, 0, Bq t, ⟨0, 0, 0, 0, false⟩, wdRd t 0⟩ (n := 5) (m := 6) rfl rfl (PS.ext' rfl rfl rfl rfl rfl rfl (fun i => by simp [psRd, psLp, mkW, -Int.pred_toNat, Sub.nenv, assoc, CV.I, CV.B, upsI, upsB, Seg.I, Seg.B, SC.I, SC.B, IE.den, BE.den]) (fun i => by simp [psRd, psLp, -Int.pred_toNat, Sub.nenv, assoc, CV.I, CV.B, upsI, upsB, Seg.I, Seg.B, SC.I, SC.B, IE.den, BE.den]) (fun i => by simp [psRd, psLp, -Int.pred_toNat, Sub.nenv, assoc, CV.I, CV.B, upsI, upsB, Seg.I, Seg.B, SC.I, SC.B, IE.den, BE.den]) (fun i k => by simp [psRd, psLp, mkW, -Int.pred_toNat, Sub.nenv, assoc, CV.I, CV.B, upsI, upsB, Seg.I, Seg.B, SC.I, SC.B, IE.den, BE.den]) (fun i => by simp [psRd, psLp, -Int.pred_toNat, Sub.nenv, assoc, CV.I, CV.B, upsI, upsB, Seg.I, Seg.B, SC.I, SC.B, IE.den, BE.den])) rfl ho hr.ok (Int.le_trans hr.steps (by decide)) (fun x => sK x ∧ OkSl x 61 ∧ St (psRd x 5 6 61) (wdRd x 0) (Aq x).toNat (Bq x).toNat 3) (fun e h1 h2 h3 h4 => ⟨hk, h1, by rw [h2]; exact r1⟩) fun x hx => ?_
  clear r1
  obtain ⟨hk, ho, hr⟩ := hx
  refine Sat.loopK sInv (fun r => (200 - r.iv 71).toNat) sK ⟨⟨Int.le_refl 0, by show (0 : Int) ≤ 200; decide⟩, ho, ?_⟩ (fun _ => hk) fun r hk hI => ?_
  · refine cast (congrArg (fun p => St p (wdRd x 0) (Aq x).toNat (Bq x).toNat 3) ?_) hr
    exact Eq.symm (PS.ext' rfl rfl rfl rfl rfl rfl (fun i => by simp [psRd, psLp, mkW, -Int.pred_toNat, Sub.nenv, assoc, CV.I, CV.B, upsI, upsB, Seg.I, Seg.B, SC.I, SC.B, IE.den, BE.den]) (fun i => by simp [psRd, psLp, -Int.pred_toNat, Sub.nenv, assoc, CV.I, CV.B, upsI, upsB, Seg.I, Seg.B, SC.I, SC.B, IE.den, BE.den]) (fun i => by simp [psRd, psLp, -Int.pred_toNat, Sub.nenv, assoc, CV.I, CV.B, upsI, upsB, Seg.I, Seg.B, SC.I, SC.B, IE.den, BE.den]) (fun i k => by simp [psRd, psLp, mkW, -Int.pred_toNat, Sub.nenv, assoc, CV.I, CV.B, upsI, upsB, Seg.I, Seg.B, SC.I, SC.B, IE.den, BE.den]) (fun i => by simp [psRd, psLp, -Int.pred_toNat, Sub.nenv, assoc, CV.I, CV.B, upsI, upsB, Seg.I, Seg.B, SC.I, SC.B, IE.den, BE.den]))
  replace hI : sInv r := hI
  rw [show (200 - r.num.iv 71).toNat = (200 - r.iv 71).toNat from rfl]
  obtain ⟨⟨i1, i2⟩, ho, hr⟩ := hI
  have hl := hk.1
  refine Sat.ob (nilOb hl) (Sat.ob (decide_eq_true hl.2.1) (Sat.br (fun hlt => ?_) (fun _ => ?_)))
  · simp only [D.le, D.lef, D.lt, D.ltf, D.eq, D.eqf, D.not, D.notf, D.and, D.andf, D.or, D.orf, D.inr, D.var, D.lit, D.cellB, D.beq, D.beqf, D.litI, D.varI, D.add, D.sub, D.mul, D.min, D.max, D.cellI, D.i64min, D.i64max, Int.toNat_zero] at hlt
    have ha := aq_rng r
    have hb := bq_rng r
    refine Sat.ob (nilLt hl (by simp only [Nat.reduceAdd]; omega)) (Sat.ob (decide_eq_true i1) (Sat.br (fun _ => ?_) (fun hno => ?_)))
    · refine Sat.ob (by simp only [D.le, D.lef, D.lt, D.ltf, D.eq, D.eqf, D.not, D.notf, D.and, D.andf, D.or, D.orf, D.inr, D.var, D.lit, D.cellB, D.beq, D.beqf, D.litI, D.varI, D.add, D.sub, D.mul, D.min, D.max, D.cellI, D.i64min, D.i64max, Int.toNat_zero]; omega) (Sat.back rfl ⟨⟨⟨by show 0 ≤ r.iv 71 + 1; omega, by show r.iv 71 + 1 ≤ 200; omega⟩, ho, ?_⟩, by show (200 - (r.iv 71 + 1)).toNat < (200 - r.iv 71).toNat; omega⟩)
      have e : St (psLp r 5 6 72) (wdRd r 0) (Aq r).toNat (Bq r).toNat (3 + (r.iv 71 + 1)) := ⟨⟨hr.ok, hr.ns, hr.nb, hr.used, hr.gen, by have := hr.steps; omega⟩, hr.cell, hr.bd⟩
      refine cast (congrArg (fun p => St p (wdRd r 0) (Aq r).toNat (Bq r).toNat (3 + (r.iv 71 + 1))) ?_) e
      exact Eq.symm (PS.ext' rfl rfl rfl rfl rfl rfl (fun i => by simp [psRd, psLp, mkW, -Int.pred_toNat, Sub.nenv, assoc, CV.I, CV.B, upsI, upsB, Seg.I, Seg.B, SC.I, SC.B, IE.den, BE.den]) (fun i => by simp [psRd, psLp, -Int.pred_toNat, Sub.nenv, assoc, CV.I, CV.B, upsI, upsB, Seg.I, Seg.B, SC.I, SC.B, IE.den, BE.den]) (fun i => by simp [psRd, psLp, -Int.pred_toNat, Sub.nenv, assoc, CV.I, CV.B, upsI, upsB, Seg.I, Seg.B, SC.I, SC.B, IE.den, BE.den]) (fun i k => by simp [psRd, psLp, mkW, -Int.pred_toNat, Sub.nenv, assoc, CV.I, CV.B, upsI, upsB, Seg.I, Seg.B, SC.I, SC.B, IE.den, BE.den]) (fun i => by simp [psRd, psLp, -Int.pred_toNat, Sub.nenv, assoc, CV.I, CV.B, upsI, upsB, Seg.I, Seg.B, SC.I, SC.B, IE.den, BE.den]))
    · have r1 := hr.step (acL r) (fun h => by
        obtain ⟨k1, k2, k3⟩ := hk
        rw [show (((Aq r).toNat : Nat) : Int) = Aq r by omega, show (((Bq r).toNat : Nat) : Int) = Bq r by omega] at h
        simp only [acL] at h
        have hno' : ¬ (((r.ic 9 (r.iv 71).toNat 0 0 = 2 ∨ r.ic 9 (r.iv 71).toNat 0 0 = 3) ∧ ((r.ic 9 (r.iv 71).toNat 0 1 = r.iv 20 ∧ r.ic 9 (r.iv 71).toNat 0 2 = r.iv 21 ∧ r.ic 9 (r.iv 71).toNat 0 3 = Aq r) ∨ (r.ic 9 (r.iv 71).toNat 0 1 = 0 ∧ r.ic 9 (r.iv 71).toNat 0 2 = 0 ∧ r.ic 9 (r.iv 71).toNat 0 3 = Bq r))) ∨ (r.ic 9 (r.iv 71).toNat 0 0 = 5 ∧ r.ic 9 (r.iv 71).toNat 0 4 = r.iv 20)) := by
          intro h
          rw [show BE.den r _ = decide (((r.ic 9 (r.iv 71).toNat 0 0 = 2 ∨ r.ic 9 (r.iv 71).toNat 0 0 = 3) ∧ ((r.ic 9 (r.iv 71).toNat 0 1 = r.iv 20 ∧ r.ic 9 (r.iv 71).toNat 0 2 = r.iv 21 ∧ r.ic 9 (r.iv 71).toNat 0 3 = Aq r) ∨ (r.ic 9 (r.iv 71).toNat 0 1 = 0 ∧ r.ic 9 (r.iv 71).toNat 0 2 = 0 ∧ r.ic 9 (r.iv 71).toNat 0 3 = Bq r))) ∨ (r.ic 9 (r.iv 71).toNat 0 0 = 5 ∧ r.ic 9 (r.iv 71).toNat 0 4 = r.iv 20)) by
            simp only [BE.den, IE.den, Int.toNat_zero, Bool.decide_or, Bool.decide_and]
            rfl] at hno
          exact absurd h (of_decide_eq_false hno)
        rw [k2, k3] at hno'
        exact hno' h)
      have hst := hr.steps
      refine do_call rfl (psLp r 5 6 72) (acL r) (n := 5) (m := 6) rfl rfl (PS.ext' rfl rfl rfl rfl rfl rfl (fun i => by simp [psRd, psLp, mkW, -Int.pred_toNat, Sub.nenv, assoc, CV.I, CV.B, upsI, upsB, Seg.I, Seg.B, SC.I, SC.B, IE.den, BE.den]) (fun i => by simp [psRd, psLp, -Int.pred_toNat, Sub.nenv, assoc, CV.I, CV.B, upsI, upsB, Seg.I, Seg.B, SC.I, SC.B, IE.den, BE.den]) (fun i => by simp [psRd, psLp, -Int.pred_toNat, Sub.nenv, assoc, CV.I, CV.B, upsI, upsB, Seg.I, Seg.B, SC.I, SC.B, IE.den, BE.den]) (fun i k => by simp [psRd, psLp, mkW, -Int.pred_toNat, Sub.nenv, assoc, CV.I, CV.B, upsI, upsB, Seg.I, Seg.B, SC.I, SC.B, IE.den, BE.den]) (fun i => by simp [psRd, psLp, -Int.pred_toNat, Sub.nenv, assoc, CV.I, CV.B, upsI, upsB, Seg.I, Seg.B, SC.I, SC.B, IE.den, BE.den])) rfl ho hr.ok (by omega) (fun u => (sK u ∧ 0 ≤ u.iv 71 ∧ u.iv 71 < 200 ∧ (200 - (u.iv 71 + 1)).toNat < (200 - r.iv 71).toNat) ∧ OkSl u 89 ∧ St (psRd u 5 6 89) (wdRd u 0) (Aq u).toNat (Bq u).toNat (3 + u.iv 71 + 1))
        (fun e h1 h2 h3 h4 => ⟨⟨hk, i1, hlt.2, ?_⟩, h1, by rw [h2]; exact r1⟩) fun u hu => ?_
      · show (200 - (r.iv 71 + 1)).toNat < (200 - r.iv 71).toNat
        omega
      obtain ⟨⟨hk, j1, j2, j3⟩, ho, hr⟩ := hu
      refine Sat.ob (by simp only [D.le, D.lef, D.lt, D.ltf, D.eq, D.eqf, D.not, D.notf, D.and, D.andf, D.or, D.orf, D.inr, D.var, D.lit, D.cellB, D.beq, D.beqf, D.litI, D.varI, D.add, D.sub, D.mul, D.min, D.max, D.cellI, D.i64min, D.i64max, Int.toNat_zero]; omega) (Sat.back rfl ⟨⟨⟨by show 0 ≤ u.iv 71 + 1; omega, by show u.iv 71 + 1 ≤ 200; omega⟩, ho, ?_⟩, j3⟩)
      rw [Int.add_assoc] at hr
      refine cast (congrArg (fun p => St p (wdRd u 0) (Aq u).toNat (Bq u).toNat (3 + (u.iv 71 + 1))) ?_) hr
      exact Eq.symm (PS.ext' rfl rfl rfl rfl rfl rfl (fun i => by simp [psRd, psLp, mkW, -Int.pred_toNat, Sub.nenv, assoc, CV.I, CV.B, upsI, upsB, Seg.I, Seg.B, SC.I, SC.B, IE.den, BE.den]) (fun i => by simp [psRd, psLp, -Int.pred_toNat, Sub.nenv, assoc, CV.I, CV.B, upsI, upsB, Seg.I, Seg.B, SC.I, SC.B, IE.den, BE.den]) (fun i => by simp [psRd, psLp, -Int.pred_toNat, Sub.nenv, assoc, CV.I, CV.B, upsI, upsB, Seg.I, Seg.B, SC.I, SC.B, IE.den, BE.den]) (fun i k => by simp [psRd, psLp, mkW, -Int.pred_toNat, Sub.nenv, assoc, CV.I, CV.B, upsI, upsB, Seg.I, Seg.B, SC.I, SC.B, IE.den, BE.den]) (fun i => by simp [psRd, psLp, -Int.pred_toNat, Sub.nenv, assoc, CV.I, CV.B, upsI, upsB, Seg.I, Seg.B, SC.I, SC.B, IE.den, BE.den]))
  · obtain ⟨-, k2, k3⟩ := hk
    have ha := aq_rng r
    have hb := bq_rng r
    have hu : r.bc 73 0 0 1 = true := hr.used
    have hg : r.ic 73 0 0 0 = 1 := hr.gen
    have e0 : (r.iv 20 - 1).toNat = 0 := by rw [k2]; rfl
    have hB : (BE.and (.ile (.lit 0) (.mod (.wrap .u64 (.var 5)) (.lit 5))) (.ilt (.mod (.wrap .u64 (.var 5)) (.lit 5)) (.lit 5))).den r = true := by
      show (decide (0 ≤ Bq r) && decide (Bq r < 5)) = true
      simp [hb.1, hb.2]
    refine Sat.br (fun h => ?_) (fun _ => Sat.br (fun _ => ?_) (fun h => ?_))
    · simp [BE.den, IE.den, k2] at h
    · refine Sat.ob (by simp [BE.den, IE.den, k2]; decide) (Sat.ob (by simp [BE.den, IE.den, k2]) (Sat.ob (by simp [BE.den, IE.den, k2]) (Sat.br (fun h => ?_) (fun _ => Sat.br (fun h => ?_) (fun _ => Sat.br (fun _ => Sat.fin ?_) (fun h => ?_))))))
      · simp [-Int.pred_toNat, BE.den, IE.den, e0, hu] at h
      · simp [-Int.pred_toNat, BE.den, IE.den, e0, hg, k3] at h
      · obtain ⟨c1, c2, c3, c4, c5⟩ := wd_eq hr.cell
        obtain ⟨d1, d2, d3, d4, d5⟩ := wd_eq hr.bd
        replace c1 : r.ic 74 0 (Aq r).toNat 0 = r.iv 0 := c1
        replace c2 : r.ic 74 0 (Aq r).toNat 1 = r.iv 1 := c2
        replace c3 : r.ic 74 0 (Aq r).toNat 2 = r.iv 2 := c3
        replace c4 : r.ic 74 0 (Aq r).toNat 3 = r.iv 3 := c4
        replace c5 : r.bc 74 0 (Aq r).toNat 4 = r.bv 4 := c5
        replace d1 : r.ic 72 (Bq r).toNat 0 0 = r.iv 0 := d1
        replace d2 : r.ic 72 (Bq r).toNat 0 1 = r.iv 1 := d2
        replace d3 : r.ic 72 (Bq r).toNat 0 2 = r.iv 2 := d3
        replace d4 : r.ic 72 (Bq r).toNat 0 3 = r.iv 3 := d4
        replace d5 : r.bc 72 (Bq r).toNat 0 4 = r.bv 4 := d5
        unfold Aq at c1 c2 c3 c4 c5
        unfold Bq at d1 d2 d3 d4 d5
        show BE.den r _ = true
        simp [-Int.pred_toNat, BE.den, IE.den, e0, c1, c2, c3, c4, c5, d1, d2, d3, d4, d5]
      · rw [hB] at h
        cases h
    · exfalso
      have : ((decide (1 ≤ r.iv 20) && decide (r.iv 20 ≤ 6)) && decide (0 ≤ Aq r) && decide (Aq r < 10)) = false := h
      simp [k2, ha.1, ha.2] at this
theorem stays_con : ConOK Tryd.prog (lawConR 27 ssP 6 rtP 4 [shW, shI, shAcs]) (lawPre [shW, shI, shAcs]) (lawPostR ssP [shW, shI, shAcs]) :=
  con_ok tabOK (E := staysE) (cs := lSem) rfl lSem_ok schedOK rfl stays_run (by kernel_rfl) (fun ρ _ p hp => by cases hp) stays_sat
end Go.Proofs.YthomdlajobnmnaaDoor
