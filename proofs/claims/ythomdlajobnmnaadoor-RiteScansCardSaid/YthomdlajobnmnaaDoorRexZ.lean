/- Rex, part Z: nodes of a tree, taken together with what is to be kept of the variables. -/
import Derived.Test.YthomdlajobnmnaaDoorRexP
namespace Go.Rex
variable {post : Env → Prop} {cs : List (Con × (Env → Prop) × (Env → Prop))} {Γ : List (Env → Prop)} {ρ : Env}
theorem Sat.newK {nv : Nat} {fs : List QF} {k : Out} (K : Env → Prop) (hK : ∀ e, K (ρ.join nv e)) (h : ∀ q, K q → (∀ f ∈ fs, f.den q) → Sat post cs Γ q k) : Sat post cs Γ ρ (.new nv fs k) :=
 fun e hf => h _ (hK e) hf
theorem Sat.newB {nv : Nat} {b : BE} {k : Out} (K : Env → Prop) (hK : ∀ e, K (ρ.join nv e)) (h : ∀ q, K q → b.den q = true → Sat post cs Γ q k) : Sat post cs Γ ρ (.new nv [.be b] k) :=
 fun e hf => h _ (hK e) (hf _ (List.mem_singleton.2 rfl))
theorem Sat.loopK {nv : Nat} {σ : Sub} {k : Out} (Inv : Env → Prop) (m : Env → Nat) (K : Env → Prop) (h0 : Inv (σ.nenv ρ)) (hK : ∀ e, K (ρ.join nv e))
  (h : ∀ q, K q → Inv q.num → Sat post cs ((fun ρ' => Inv ρ' ∧ m ρ' < m q.num) :: Γ) q k) : Sat post cs Γ ρ (.loop nv σ k) :=
 ⟨Inv, m, h0, fun e hI => h _ (hK e) hI⟩
theorem Sat.callK {g : Nat} {σ : Sub} {nv : Nat} {k : Out} {c : Con} {pre post' : Env → Prop} (hg : cs[g]? = some (c, pre, post')) (hp : pre (σ.nenv ρ)) (K : Env → Prop)
  (hK : ∀ e, post' (conEnv σ c.nv nv ρ (ρ.join nv e)) → K (ρ.join nv e)) (h : ∀ q, K q → Sat post cs Γ q k) : Sat post cs Γ ρ (.call g σ nv k) :=
 ⟨c, pre, post', hg, hp, fun e hq => h _ (hK e hq)⟩
theorem Sat.brE {c : BE} {t e : Out} (h1 : c.den ρ = true → Sat post cs Γ ρ t) (h2 : c.den ρ = false → Sat post cs Γ ρ e) : Sat post cs Γ ρ (.br c t e) := ⟨h1, h2⟩
end Go.Rex
