/- calls of 'New' and 'Do' in a law -/
import Derived.Test.YthomdlajobnmnaaDoorPAwake
import Derived.Test.YthomdlajobnmnaaDoorPLs
import Derived.Test.YthomdlajobnmnaaDoorRex0
set_option linter.unusedSimpArgs false
set_option linter.unusedVariables false
namespace Go.Proofs.YthomdlajobnmnaaDoor
open Go.Rex
/-- a heap as a loop's variables hold it: board, slots, cells, free (nil, length, room, content), steps, made, no fault -/
def psLp (ρ : Env) (n m : Int) (b : Nat) : PS where
  nb := n
  ns := m
  nf := ρ.iv (b + 4)
  steps := ρ.iv (b + 7)
  made := ρ.iv (b + 8)
  good := ρ.bv (b + 9)
  bd := fun i => mkW (ρ.ic b i 0) (ρ.bc b i 0)
  gen := fun i => ρ.ic (b + 1) i 0 0
  used := fun i => ρ.bc (b + 1) i 0 1
  cell := fun i k => mkW (ρ.ic (b + 2) i k) (ρ.bc (b + 2) i k)
  fr := fun i => ρ.ic (b + 6) i 0 0
/-- what 'New' leaves -/
structure Fresh (p : PS) (n m : Int) : Prop where
  nb : p.nb = n
  ns : p.ns = m
  nf : p.nf = m
  steps : p.steps = 0
  made : p.made = 0
  good : p.good = true
  bd : ∀ i, p.bd i = Wd.zero
  gen : ∀ i, p.gen i = 0
  used : ∀ i, p.used i = false
  cell : ∀ i k, p.cell i k = Wd.zero
  fr : ∀ i : Nat, (i : Int) < m → p.fr i = m - i
theorem Fresh.ok {p : PS} {n m : Int} (h : Fresh p n m) (h1 : 0 ≤ m ∧ m ≤ 1024) (h2 : 0 ≤ n ∧ n ≤ 200) : p.OK := by
  have hu : ∀ k, usedN p.used k = 0 := fun k => by
    rw [usedN_same (v := fun _ => false) fun i _ => h.used i, usedN_zero]
  refine ⟨by rw [h.nb]; exact h2, by rw [h.ns]; exact h1, by rw [h.nf]; exact h1.1, by rw [h.made, h.steps]; exact ⟨Int.le_refl 0, Int.le_refl 0⟩, fun i => by rw [h.gen, h.made]; exact ⟨Int.le_refl 0, Int.le_refl 0⟩, fun i hi => ?_, fun i j hi hj => ?_, ?_⟩
  · rw [h.nf] at hi
    rw [h.fr i hi, h.ns]
    exact ⟨by omega, by omega, h.used _⟩
  · rw [h.nf] at hj
    rw [h.fr i (by omega), h.fr j hj]
    omega
  · rw [hu, h.nf, h.ns]
    simp
section
variable {post : Env → Prop} {cs : CSem} {Γ : List (Env → Prop)} {ρ : Env}
theorem do_call {g nv : Nat} {σ : Sub} {k : Out} (hg : cs[g]? = some (doCon, doPre, doPost)) (p : PS) (a : Ac) {n m : Int} (hn : (σ.nenv ρ).iv 14 = n) (hm : (σ.nenv ρ).iv 15 = m) (hp : psRd (σ.nenv ρ) n m 16 = p) (ha : acRd (σ.nenv ρ) 0 = a) (ho : OkSl (σ.nenv ρ) 16)
    (hok : p.OK) (hst : p.steps ≤ 1000000) (K : Env → Prop)
    (hK : ∀ e, OkSl (ρ.join nv e) (nv + 7) → psRd (ρ.join nv e) n m (nv + 7) = (p.act a).1 → (ρ.join nv e).bv (nv + 6) = (p.act a).2.isSome → rpRd (ρ.join nv e) nv = (p.act a).2.getD Rp.no → K (ρ.join nv e)) (h : ∀ q, K q → Sat post cs Γ q k) :
    Sat post cs Γ ρ (.call g σ nv k) := by
  subst hn hm
  refine Sat.callK (c := doCon) hg ⟨ho, by rw [hp]; exact hok, by rw [← hp] at hst; exact hst⟩ K (fun e hq => ?_) h
  have hq : doPost (conEnv σ 26 nv ρ (ρ.join nv e)) := hq
  obtain ⟨q1, q2, q3⟩ := hq
  have e1 : psRd (conEnv σ 26 nv ρ (ρ.join nv e)) ((conEnv σ 26 nv ρ (ρ.join nv e)).iv 14) ((conEnv σ 26 nv ρ (ρ.join nv e)).iv 15) 16 = p := hp
  have e2 : acRd (conEnv σ 26 nv ρ (ρ.join nv e)) 0 = a := ha
  have e3 : psRd (conEnv σ 26 nv ρ (ρ.join nv e)) ((conEnv σ 26 nv ρ (ρ.join nv e)).iv 14) ((conEnv σ 26 nv ρ (ρ.join nv e)).iv 15) 33 = psRd (ρ.join nv e) ((σ.nenv ρ).iv 14) ((σ.nenv ρ).iv 15) (nv + 7) := by
    unfold psRd
    rw [show (conEnv σ 26 nv ρ (ρ.join nv e)).iv (33 + 1) = (ρ.join nv e).iv (nv + 7 + 1) from con_iv 26 8, show (conEnv σ 26 nv ρ (ρ.join nv e)).iv (33 + 3) = (ρ.join nv e).iv (nv + 7 + 3) from con_iv 26 10, show (conEnv σ 26 nv ρ (ρ.join nv e)).iv (33 + 4) = (ρ.join nv e).iv (nv + 7 + 4) from con_iv 26 11,
      show (conEnv σ 26 nv ρ (ρ.join nv e)).bv (33 + 5) = (ρ.join nv e).bv (nv + 7 + 5) from con_bv 26 12,
      show (conEnv σ 26 nv ρ (ρ.join nv e)).ic (33 + 6) = (ρ.join nv e).ic (nv + 7 + 6) from con_ic 26 13, show (conEnv σ 26 nv ρ (ρ.join nv e)).bc (33 + 6) = (ρ.join nv e).bc (nv + 7 + 6) from con_bc 26 13,
      show (conEnv σ 26 nv ρ (ρ.join nv e)).ic (33 + 7) = (ρ.join nv e).ic (nv + 7 + 7) from con_ic 26 14, show (conEnv σ 26 nv ρ (ρ.join nv e)).bc (33 + 7) = (ρ.join nv e).bc (nv + 7 + 7) from con_bc 26 14,
      show (conEnv σ 26 nv ρ (ρ.join nv e)).ic (33 + 8) = (ρ.join nv e).ic (nv + 7 + 8) from con_ic 26 15, show (conEnv σ 26 nv ρ (ρ.join nv e)).bc (33 + 8) = (ρ.join nv e).bc (nv + 7 + 8) from con_bc 26 15,
      show (conEnv σ 26 nv ρ (ρ.join nv e)).ic (33 + 9) = (ρ.join nv e).ic (nv + 7 + 9) from con_ic 26 16]
    rfl
  have e4 : rpRd (conEnv σ 26 nv ρ (ρ.join nv e)) 26 = rpRd (ρ.join nv e) nv := by
    unfold rpRd wdRd
    rw [show (conEnv σ 26 nv ρ (ρ.join nv e)).iv 26 = (ρ.join nv e).iv nv from con_iv 26 0, show (conEnv σ 26 nv ρ (ρ.join nv e)).iv (26 + 1) = (ρ.join nv e).iv (nv + 1) from con_iv 26 1, show (conEnv σ 26 nv ρ (ρ.join nv e)).iv (26 + 2) = (ρ.join nv e).iv (nv + 2) from con_iv 26 2,
      show (conEnv σ 26 nv ρ (ρ.join nv e)).iv (26 + 3) = (ρ.join nv e).iv (nv + 3) from con_iv 26 3, show (conEnv σ 26 nv ρ (ρ.join nv e)).bv (26 + 4) = (ρ.join nv e).bv (nv + 4) from con_bv 26 4, show (conEnv σ 26 nv ρ (ρ.join nv e)).bv (26 + 5) = (ρ.join nv e).bv (nv + 5) from con_bv 26 5]
  have e5 : (conEnv σ 26 nv ρ (ρ.join nv e)).bv 32 = (ρ.join nv e).bv (nv + 6) := con_bv 26 6
  have e6 : OkSl (conEnv σ 26 nv ρ (ρ.join nv e)) 33 = OkSl (ρ.join nv e) (nv + 7) := by
    unfold OkSl
    rw [show (conEnv σ 26 nv ρ (ρ.join nv e)).bv 33 = (ρ.join nv e).bv (nv + 7) from con_bv 26 7, show (conEnv σ 26 nv ρ (ρ.join nv e)).iv (33 + 1) = (ρ.join nv e).iv (nv + 7 + 1) from con_iv 26 8, show (conEnv σ 26 nv ρ (ρ.join nv e)).iv (33 + 2) = (ρ.join nv e).iv (nv + 7 + 2) from con_iv 26 9]
  rw [e1, e2, e3, e4, e5] at q2
  rw [e6] at q1
  rw [e4, e5] at q3
  refine hK e q1 (by rw [q2]) ?_ ?_
  · rw [q2]
    cases (ρ.join nv e).bv (nv + 6) <;> rfl
  · rw [q2]
    cases hb : (ρ.join nv e).bv (nv + 6) with
    | true => rfl
    | false => exact q3 hb
theorem new_call {g nv : Nat} {σ : Sub} {k : Out} (hg : cs[g]? = some (newCon, newPre, newPost)) {n m : Int} (hn : (σ.nenv ρ).iv 1 = n) (hm : (σ.nenv ρ).iv 0 = m) (h1 : 0 ≤ m ∧ m ≤ 1024) (h2 : 0 ≤ n ∧ n ≤ 200) (K : Env → Prop)
    (hK : ∀ e, OkSl (ρ.join nv e) nv → Fresh (psRd (ρ.join nv e) n m nv) n m → K (ρ.join nv e)) (h : ∀ q, K q → Sat post cs Γ q k) : Sat post cs Γ ρ (.call g σ nv k) := by
  subst hn hm
  refine Sat.callK (c := newCon) hg ⟨h1, h2⟩ K (fun e hq => ?_) h
  have hq : newPost (conEnv σ 2 nv ρ (ρ.join nv e)) := hq
  obtain ⟨q1, p, q2, q3⟩ := hq
  have e3 : psRd (conEnv σ 2 nv ρ (ρ.join nv e)) ((conEnv σ 2 nv ρ (ρ.join nv e)).iv 1) ((conEnv σ 2 nv ρ (ρ.join nv e)).iv 0) 2 = psRd (ρ.join nv e) ((σ.nenv ρ).iv 1) ((σ.nenv ρ).iv 0) nv := by
    unfold psRd
    rw [show (conEnv σ 2 nv ρ (ρ.join nv e)).iv (2 + 1) = (ρ.join nv e).iv (nv + 1) from con_iv 2 1, show (conEnv σ 2 nv ρ (ρ.join nv e)).iv (2 + 3) = (ρ.join nv e).iv (nv + 3) from con_iv 2 3, show (conEnv σ 2 nv ρ (ρ.join nv e)).iv (2 + 4) = (ρ.join nv e).iv (nv + 4) from con_iv 2 4,
      show (conEnv σ 2 nv ρ (ρ.join nv e)).bv (2 + 5) = (ρ.join nv e).bv (nv + 5) from con_bv 2 5,
      show (conEnv σ 2 nv ρ (ρ.join nv e)).ic (2 + 6) = (ρ.join nv e).ic (nv + 6) from con_ic 2 6, show (conEnv σ 2 nv ρ (ρ.join nv e)).bc (2 + 6) = (ρ.join nv e).bc (nv + 6) from con_bc 2 6,
      show (conEnv σ 2 nv ρ (ρ.join nv e)).ic (2 + 7) = (ρ.join nv e).ic (nv + 7) from con_ic 2 7, show (conEnv σ 2 nv ρ (ρ.join nv e)).bc (2 + 7) = (ρ.join nv e).bc (nv + 7) from con_bc 2 7,
      show (conEnv σ 2 nv ρ (ρ.join nv e)).ic (2 + 8) = (ρ.join nv e).ic (nv + 8) from con_ic 2 8, show (conEnv σ 2 nv ρ (ρ.join nv e)).bc (2 + 8) = (ρ.join nv e).bc (nv + 8) from con_bc 2 8,
      show (conEnv σ 2 nv ρ (ρ.join nv e)).ic (2 + 9) = (ρ.join nv e).ic (nv + 9) from con_ic 2 9]
    rfl
  have e6 : OkSl (conEnv σ 2 nv ρ (ρ.join nv e)) 2 = OkSl (ρ.join nv e) nv := by
    unfold OkSl
    rw [show (conEnv σ 2 nv ρ (ρ.join nv e)).bv 2 = (ρ.join nv e).bv nv from con_bv 2 0, show (conEnv σ 2 nv ρ (ρ.join nv e)).iv (2 + 1) = (ρ.join nv e).iv (nv + 1) from con_iv 2 1, show (conEnv σ 2 nv ρ (ρ.join nv e)).iv (2 + 2) = (ρ.join nv e).iv (nv + 2) from con_iv 2 2]
  rw [e3] at q2
  rw [e6] at q1
  obtain ⟨a1, a2, a3, a4, a5, a6, a7, a8, a9, a10, a11⟩ := q3
  refine hK e q1 ?_
  rw [q2]
  exact ⟨a1, a2, a3, a4, a5, a6, a7, a8, a9, a10, a11⟩
end
end Go.Proofs.YthomdlajobnmnaaDoor
