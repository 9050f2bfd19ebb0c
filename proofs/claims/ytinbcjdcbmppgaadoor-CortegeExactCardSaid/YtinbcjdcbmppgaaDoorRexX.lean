/- Rex, part X: a contract that says just what the run's tree says. -/
import Derived.Test.YtinbcjdcbmppgaaDoorRexP
set_option linter.unusedSimpArgs false
set_option linter.unusedVariables false
namespace Go.Rex
/-- what the tree says of the variables behind the run -/
def Out.says (ρ : Env) : Out → Prop
  | .fin σ => (∀ p ∈ σ.iv, ρ.iv p.1 = p.2.den ρ) ∧ ∀ p ∈ σ.bv, ρ.bv p.1 = p.2.den ρ
  | .br c t e => (c.den ρ = true → t.says ρ) ∧ (c.den ρ = false → e.says ρ)
  | .ob b k => b.den ρ = true → k.says ρ
  | _ => True
/-- what must hold -/
def Out.asks (ρ : Env) : Out → Prop
  | .fin _ => True
  | .br c t e => (c.den ρ = true → t.asks ρ) ∧ (c.den ρ = false → e.asks ρ)
  | .ob b k => b.den ρ = true ∧ k.asks ρ
  | _ => False
def keyNub : List (Nat × IE) → Bool
  | [] => true
  | p :: r => r.all (fun q => !(q.1 == p.1)) && keyNub r
def keyNubB : List (Nat × BE) → Bool
  | [] => true
  | p :: r => r.all (fun q => !(q.1 == p.1)) && keyNubB r
/-- conditions and results speak of the variables below nv alone; new variables are set once -/
def Out.scd (nv : Nat) : Out → Bool
  | .fin σ => σ.lo == nv && σ.iv.all (fun p => !Nat.blt p.1 nv && p.2.sc nv) && σ.bv.all (fun p => !Nat.blt p.1 nv && p.2.sc nv) && keyNub σ.iv && keyNubB σ.bv
  | .br c t e => c.sc nv && t.scd nv && e.scd nv
  | .ob b k => b.sc nv && k.scd nv
  | _ => false
theorem assoc_nub : ∀ {l : List (Nat × IE)} {p : Nat × IE}, keyNub l = true → p ∈ l → assoc p.1 l = some p.2
  | [], _, _, h => by cases h
  | q :: r, p, hk, h => by
    simp only [keyNub, Bool.and_eq_true, List.all_eq_true, Bool.not_eq_true', beq_eq_false_iff_ne] at hk
    unfold assoc
    rcases List.mem_cons.1 h with rfl | h
    · simp
    · have := hk.1 p h
      rw [if_neg (by simp; exact fun e => this e.symm)]
      exact assoc_nub hk.2 h
theorem assoc_nubB : ∀ {l : List (Nat × BE)} {p : Nat × BE}, keyNubB l = true → p ∈ l → assoc p.1 l = some p.2
  | [], _, _, h => by cases h
  | q :: r, p, hk, h => by
    simp only [keyNubB, Bool.and_eq_true, List.all_eq_true, Bool.not_eq_true', beq_eq_false_iff_ne] at hk
    unfold assoc
    rcases List.mem_cons.1 h with rfl | h
    · simp
    · have := hk.1 p h
      rw [if_neg (by simp; exact fun e => this e.symm)]
      exact assoc_nubB hk.2 h
theorem nenv_agr (σ : Sub) (ρ : Env) : Agr σ.lo 0 ρ.num (σ.nenv ρ) (fun _ => ⟨0, 0, none⟩) (fun _ => ⟨0, 0, none⟩) where
  iv := fun i h => by simp [Sub.nenv, Env.num, h]
  bv := fun i h => by simp [Sub.nenv, Env.num, h]
  vv := fun i h => by simp [Sub.nenv, Env.num]
  ic := fun i h => by simp [Sub.nenv, Env.num, h]
  bc := fun i h => by simp [Sub.nenv, Env.num, h]
  vc := fun i h => by simp [Sub.nenv, Env.num]
  bl := fun i h => rfl
theorem nenv_ie {σ : Sub} {ρ : Env} {e : IE} (h : e.sc σ.lo = true) : e.den (σ.nenv ρ) = e.den ρ := (IE.sc_den (nenv_agr σ ρ) h).trans (IE.den_num ρ e)
theorem nenv_be {σ : Sub} {ρ : Env} {e : BE} (h : e.sc σ.lo = true) : e.den (σ.nenv ρ) = e.den ρ := (BE.sc_den (nenv_agr σ ρ) h).trans (BE.den_num ρ e)
/-- a tree of conditions -/
theorem says_sat {ρ : Env} {cs : CSem} {nv : Nat} {post : Env → Prop} {Γ : List (Env → Prop)} : ∀ {o : Out}, o.scd nv = true → o.asks ρ → (∀ σ : Sub, σ.lo = nv → o.says (σ.nenv ρ) → post (σ.nenv ρ)) → Sat post cs Γ ρ o
  | .fin σ, hs, _, hp => by
    simp only [Out.scd, Bool.and_eq_true, beq_iff_eq, List.all_eq_true, Bool.not_eq_true'] at hs
    obtain ⟨⟨⟨⟨h1, h2⟩, h3⟩, h4⟩, h5⟩ := hs
    refine hp σ h1 ⟨fun p hm => ?_, fun p hm => ?_⟩
    · have := h2 p hm
      rw [nenv_ie (by rw [h1]; exact this.2)]
      have hlt : ¬ p.1 < σ.lo := fun hl => by
        have h0 := this.1
        rw [Nat.blt_eq.mpr (by rw [← h1]; exact hl)] at h0
        cases h0
      simp [Sub.nenv, hlt, assoc_nub h4 hm]
    · have := h3 p hm
      rw [nenv_be (by rw [h1]; exact this.2)]
      have hlt : ¬ p.1 < σ.lo := fun hl => by
        have h0 := this.1
        rw [Nat.blt_eq.mpr (by rw [← h1]; exact hl)] at h0
        cases h0
      simp [Sub.nenv, hlt, assoc_nubB h5 hm]
  | .br c t e, hs, ha, hp => by
    simp only [Out.scd, Bool.and_eq_true] at hs
    refine ⟨fun hc => says_sat hs.1.2 (ha.1 hc) fun σ hl h => hp σ hl ⟨fun _ => h, fun hc' => ?_⟩, fun hc => says_sat hs.2 (ha.2 hc) fun σ hl h => hp σ hl ⟨fun hc' => ?_, fun _ => h⟩⟩
    · rw [nenv_be (by rw [hl]; exact hs.1.1), hc] at hc'; cases hc'
    · rw [nenv_be (by rw [hl]; exact hs.1.1), hc] at hc'; cases hc'
  | .ob b k, hs, ha, hp => by
    simp only [Out.scd, Bool.and_eq_true] at hs
    exact ⟨ha.1, fun _ => says_sat hs.2 ha.2 fun σ hl h => hp σ hl fun _ => h⟩
  | .stop _, hs, _, _ => by simp [Out.scd] at hs
  | .alt _ _, hs, _, _ => by simp [Out.scd] at hs
  | .new _ _ _, hs, _, _ => by simp [Out.scd] at hs
  | .loop _ _ _, hs, _, _ => by simp [Out.scd] at hs
  | .back _ _, hs, _, _ => by simp [Out.scd] at hs
  | .call _ _ _ _, hs, _, _ => by simp [Out.scd] at hs
  | .bad _, hs, _, _ => by simp [Out.scd] at hs
end Go.Rex
