/- 'PlotOnce', plainly: what is given isn't used -/
import Derived.Test.YthomdlajobnmnaaDoorPReb
set_option linter.unusedSimpArgs false
set_option linter.unusedVariables false
namespace Go.Proofs.YthomdlajobnmnaaDoor
open Go.Rex
/-- so many slots have been given, so many are used; the words that were given, and what is used -/
structure On (p : PS) (n g l s : Int) (G : Nat → Wd) (U : Nat → Int) : Prop where
  ok : p.OK
  ns : p.ns = n
  nb : p.nb = 4
  made : p.made = g
  live : n - p.nf = l
  use : ∀ j : Nat, (j : Int) < n → U (j + 1) = if p.used j then p.gen j else 0
  old : ∀ k : Nat, (k : Int) < g → (G k).gen ≤ p.gen ((G k).slot - 1).toNat
  steps : p.steps ≤ s
theorem On.keep {p p' : PS} {n g l s : Int} {G : Nat → Wd} {U : Nat → Int} (h : On p n g l s G U) (h1 : p'.OK) (h2 : p'.ns = p.ns) (h3 : p'.nb = p.nb) (h4 : p'.made = p.made) (h5 : p'.nf = p.nf) (h6 : p'.used = p.used) (h7 : p'.gen = p.gen)
    (h8 : p'.steps ≤ s + 1) : On p' n g l (s + 1) G U :=
  ⟨h1, h2.trans h.ns, h3.trans h.nb, h4.trans h.made, by rw [h5]; exact h.live, fun j hj => by rw [h6, h7]; exact h.use j hj, fun k hk => by rw [h7]; exact h.old k hk, h8⟩
theorem On.to {p p' : PS} {n g l s s' : Int} {G G' : Nat → Wd} {U U' : Nat → Int} (h : On p n g l s G U) (hp : p' = p) (hs : s ≤ s') (hG : ∀ k : Nat, (k : Int) < g → G' k = G k) (hU : ∀ j : Nat, (j : Int) < n → U' (j + 1) = U (j + 1)) : On p' n g l s' G' U' := by
  subst hp
  exact ⟨h.ok, h.ns, h.nb, h.made, h.live, fun j hj => by rw [hU j hj]; exact h.use j hj, fun k hk => by rw [hG k hk]; exact h.old k hk, Int.le_trans h.steps hs⟩
def OnGive (p' : PS) (n g l s : Int) (G : Nat → Wd) (U : Nat → Int) (w : Wd) : Prop :=
  (1 ≤ w.slot ∧ w.slot ≤ n) ∧ U w.slot.toNat = 0 ∧ (∀ k : Nat, (k : Int) < g → G k ≠ w) ∧
    ∀ (G' : Nat → Wd) (U' : Nat → Int), (∀ k : Nat, (k : Int) < g → G' k = G k) → G' g.toNat = w → (∀ j : Nat, (j : Int) < n → U' (j + 1) = if j + 1 = w.slot.toNat then w.gen else U (j + 1)) → On p' n (g + 1) (l + 1) (s + 1) G' U'
theorem On.give {p : PS} {a : Ac} {n g l s : Int} {G : Nat → Wd} {U : Nat → Int} (h : On p n g l s G U) (hk : a.kind = 4) (h0 : ¬ p.nf = 0) :
    ∃ w, (p.act a).2 = some ⟨w, true⟩ ∧ OnGive (p.act a).1 n g l s G U w := by
  have ha := act_alloc hk h0 rfl
  have hok := h.ok.act a
  have hst := p.act_steps a
  have hnf := h.ok.nf
  have hf := h.ok.fr (p.nf - 1).toNat (by omega)
  rw [ha] at hok hst ⊢
  generalize hx : p.fr (p.nf - 1).toNat = x at *
  have hns := h.ns
  have hlv := h.live
  have hmd := h.made
  have h1 : 1 ≤ x := hf.1
  have h2 : x ≤ n := by omega
  have e : ∀ j : Nat, j + 1 = x.toNat ↔ j = (x - 1).toNat := fun j => by omega
  have hux : U x.toNat = 0 := by
    have := h.use (x - 1).toNat (by omega)
    rw [show (x - 1).toNat + 1 = x.toNat by omega, hf.2.2] at this
    exact this
  refine ⟨⟨x, p.gen (x - 1).toNat + 1, 0, 0, false⟩, rfl, ⟨h1, h2⟩, hux, fun k hk he => ?_, fun G' U' hG hw hU => ⟨hok, hns, h.nb, ?_, ?_, fun j hj => ?_, fun k hk => ?_, ?_⟩⟩
  · have := h.old k hk
    rw [he] at this
    simp only at this
    omega
  · show p.made + 1 = g + 1
    omega
  · show n - (p.nf - 1) = l + 1
    omega
  · rw [hU j hj]
    show (if j + 1 = x.toNat then _ else _) = if (if j = (x - 1).toNat then true else p.used j) = true then (if j = (x - 1).toNat then p.gen (x - 1).toNat + 1 else p.gen j) else 0
    by_cases hj' : j = (x - 1).toNat
    · rw [if_pos ((e j).2 hj'), if_pos hj', if_pos rfl, if_pos hj']
    · rw [if_neg (fun h => hj' ((e j).1 h)), if_neg hj', if_neg hj']
      exact h.use j hj
  · have hkeep : ∀ i, p.gen i ≤ (if i = (x - 1).toNat then p.gen (x - 1).toNat + 1 else p.gen i) := fun i => by
      by_cases hi : i = (x - 1).toNat
      · rw [if_pos hi, hi]
        omega
      · rw [if_neg hi]
        exact Int.le_refl _
    by_cases hlt : (k : Int) < g
    · rw [hG k hlt]
      exact Int.le_trans (h.old k hlt) (hkeep _)
    · have : k = g.toNat := by omega
      rw [this, hw]
      show _ ≤ (if (x - 1).toNat = (x - 1).toNat then p.gen (x - 1).toNat + 1 else _)
      rw [if_pos rfl]
      exact Int.le_refl _
  · have := h.steps
    exact Int.le_trans hst.1 (by omega)
theorem On.full {p : PS} {a : Ac} {n g l s : Int} {G : Nat → Wd} {U : Nat → Int} (h : On p n g l s G U) (hk : a.kind = 4) (h0 : p.nf = 0) :
    (p.act a).2 = some Rp.no ∧ l = n ∧ On (p.act a).1 n g l (s + 1) G U := by
  have ha := act_to (p := p) (a := a) (by simp [PS.valid, hk]) (by simp [PS.right, hk]) (makes4z hk h0)
  have hok := h.ok.act a
  have hl := h.live
  have hs := h.steps
  rw [ha] at hok ⊢
  exact ⟨rfl, by omega, h.keep hok rfl rfl rfl rfl rfl rfl (by show p.steps + 1 ≤ s + 1; omega)⟩
theorem On.wrong {p : PS} {a : Ac} {n g l s : Int} {G : Nat → Wd} {U : Nat → Int} (h : On p n g l s G U) (hv : p.valid a) (hr : ¬ p.right a) :
    (p.act a).2 = some (refusedW a.kind) ∧ On (p.act a).1 n g l (s + 1) G U := by
  have ha := act_wrong hv hr
  have hok := h.ok.act a
  have hs := h.steps
  rw [ha] at hok ⊢
  exact ⟨rfl, h.keep hok rfl rfl rfl rfl rfl rfl (by show p.steps + 1 ≤ s + 1; omega)⟩
theorem On.no {p : PS} {a : Ac} {n g l s : Int} {G : Nat → Wd} {U : Nat → Int} (h : On p n g l s G U) (hv : ¬ p.valid a) :
    (p.act a).2 = none ∧ On (p.act a).1 n g l (s + 1) G U := by
  have ha := act_no hv
  have hs := h.steps
  rw [ha]
  exact ⟨rfl, h.keep h.ok rfl rfl rfl rfl rfl rfl (by show p.steps ≤ s + 1; omega)⟩
def OnTake (p' : PS) (n g l s : Int) (G : Nat → Wd) (U : Nat → Int) (w : Wd) : Prop :=
  (1 ≤ w.slot ∧ w.slot ≤ n) ∧ U w.slot.toNat = w.gen ∧
    ∀ (U' : Nat → Int), (∀ j : Nat, (j : Int) < n → U' (j + 1) = if j + 1 = w.slot.toNat then 0 else U (j + 1)) → On p' n g (l - 1) (s + 1) G U'
theorem On.take {p : PS} {a : Ac} {n g l s : Int} {G : Nat → Wd} {U : Nat → Int} (h : On p n g l s G U) (hk : a.kind = 5) (hv : p.valid a) (hr : p.right a) :
    (p.act a).2 = some ⟨Wd.zero, true⟩ ∧ OnTake (p.act a).1 n g l s G U a.old := by
  have ha := act_to hv hr (makes5 hk)
  have hok := h.ok.act a
  have hs := h.steps
  have hl := h.live
  have hns := h.ns
  have h1 : 1 ≤ a.old.slot ∧ a.old.slot ≤ n := by
    simp only [PS.valid, hk, PS.is] at hv
    simp at hv
    omega
  have h2 : p.used (a.old.slot - 1).toNat = true ∧ p.gen (a.old.slot - 1).toNat = a.old.gen := by
    simp only [PS.right, hk, PS.live] at hr
    simp [-Int.pred_toNat] at hr
    rcases hr with hr | hr
    · omega
    · exact hr
  have e : ∀ j : Nat, j + 1 = a.old.slot.toNat ↔ j = (a.old.slot - 1).toNat := fun j => by omega
  rw [ha] at hok ⊢
  refine ⟨rfl, h1, ?_, fun U' hU => ⟨hok, hns, h.nb, h.made, ?_, fun j hj => ?_, h.old, by show p.steps + 1 ≤ s + 1; omega⟩⟩
  · have := h.use (a.old.slot - 1).toNat (by omega)
    rw [show (a.old.slot - 1).toNat + 1 = a.old.slot.toNat by omega, h2.1, h2.2] at this
    exact this
  · show n - (p.nf + 1) = l - 1
    omega
  · rw [hU j hj]
    show (if j + 1 = a.old.slot.toNat then _ else _) = if (if j = (a.old.slot - 1).toNat then false else p.used j) = true then p.gen j else 0
    by_cases hj' : j = (a.old.slot - 1).toNat
    · rw [if_pos ((e j).2 hj'), if_pos hj']
      simp
    · rw [if_neg (fun h => hj' ((e j).1 h)), if_neg hj']
      exact h.use j hj
theorem On.rest {p : PS} {a : Ac} {n g l s : Int} {G : Nat → Wd} {U : Nat → Int} (h : On p n g l s G U) (h4 : a.kind ≠ 4) (h5 : a.kind ≠ 5) : On (p.act a).1 n g l (s + 1) G U := by
  have hs := h.steps
  by_cases hv : p.valid a
  · by_cases hr : p.right a
    · have hok := h.ok.act a
      have hst := p.act_steps a
      have hd := p.act_dims a
      have hq : (p.act a).1.made = p.made ∧ (p.act a).1.nf = p.nf ∧ (p.act a).1.used = p.used ∧ (p.act a).1.gen = p.gen := by
        unfold PS.act
        rw [if_pos hv, if_pos hr]
        simp only [PS.makes, if_neg h4, if_neg h5, PS.put]
        repeat' split
        all_goals exact ⟨rfl, rfl, rfl, rfl⟩
      exact h.keep hok hd.1 hd.2 hq.1 hq.2.1 hq.2.2.1 hq.2.2.2 (by omega)
    · exact (h.wrong hv hr).2
  · exact (h.no hv).2
/-- an access: what it may answer -/
theorem On.step {p : PS} {n g l s : Int} {G : Nat → Wd} {U : Nat → Int} (h : On p n g l s G U) (a : Ac) :
    ((p.act a).2 = none ∧ On (p.act a).1 n g l (s + 1) G U) ∨
    ∃ w b, (p.act a).2 = some ⟨w, b⟩ ∧ (a.kind = 4 → b = true → OnGive (p.act a).1 n g l s G U w) ∧ (a.kind = 4 → b = false → l = n) ∧ (a.kind = 5 → b = true → OnTake (p.act a).1 n g l s G U a.old) ∧
      (¬ (a.kind = 4 ∧ b = true) → ¬ (a.kind = 5 ∧ b = true) → On (p.act a).1 n g l (s + 1) G U) := by
  by_cases hv : p.valid a
  · right
    by_cases h4 : a.kind = 4
    · by_cases h0 : p.nf = 0
      · obtain ⟨x1, x2, x3⟩ := h.full h4 h0
        exact ⟨_, _, x1, fun _ hb => (by cases hb), fun _ _ => x2, fun _ hb => (by cases hb), fun _ _ => x3⟩
      · obtain ⟨w, x1, x2⟩ := h.give h4 h0
        exact ⟨_, _, x1, fun _ _ => x2, fun _ hb => (by cases hb), fun h5 => absurd (h4.symm.trans h5) (by decide), fun hn _ => absurd ⟨h4, rfl⟩ hn⟩
    · by_cases hr : p.right a
      · by_cases h5 : a.kind = 5
        · obtain ⟨x1, x2⟩ := h.take h5 hv hr
          exact ⟨_, _, x1, fun h => absurd h h4, fun h => absurd h h4, fun _ _ => x2, fun _ hn => absurd ⟨h5, rfl⟩ hn⟩
        · have e : ∃ r, (p.act a).2 = some r := by
            unfold PS.act
            rw [if_pos hv, if_pos hr]
            exact ⟨_, rfl⟩
          obtain ⟨⟨w, b⟩, hr'⟩ := e
          exact ⟨w, b, hr', fun h => absurd h h4, fun h => absurd h h4, fun h => absurd h h5, fun _ _ => h.rest h4 h5⟩
      · obtain ⟨x1, x2⟩ := h.wrong hv hr
        have hb : (refusedW a.kind).ok = false := by
          unfold refusedW Rp.no
          split <;> rfl
        exact ⟨(refusedW a.kind).word, false, by rw [x1, ← hb], fun h => absurd h h4, fun h => absurd h h4, fun _ hb => (by cases hb), fun _ _ => x2⟩
  · exact .inl (h.no hv)
/-- as many are used as aren't free -/
theorem On.used {p : PS} {n g l s : Int} {G : Nat → Wd} {U : Nat → Int} (h : On p n g l s G U) : (usedN p.used n.toNat : Int) = l := by
  have h1 := h.ok.cnt
  rw [h.ns] at h1
  have := h.live
  omega
end Go.Proofs.YthomdlajobnmnaaDoor
