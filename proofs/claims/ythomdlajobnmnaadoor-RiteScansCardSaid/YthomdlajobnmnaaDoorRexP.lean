/- Rex, part P: from the run to a contract. -/
import Derived.Test.YthomdlajobnmnaaDoorRexO
set_option linter.unusedSimpArgs false
set_option linter.unusedVariables false
namespace Go.Rex

theorem IE.den_num (ρ : Env) : ∀ e : IE, e.den ρ.num = e.den ρ := by
 intro e
 induction e <;> simp_all [IE.den, Env.num]
theorem BE.den_num (ρ : Env) : ∀ e : BE, e.den ρ.num = e.den ρ := by
 intro e
 induction e <;> simp_all [BE.den, IE.den_num]
 ·rfl
 ·rfl
theorem Kn.ok_num {ρ : Env} {kn : Kn} (h : Kn.ok ρ.num kn) : Kn.ok ρ kn := fun p hp => by rw [← BE.den_num]; exact h p hp
/-! ### the tree, node by node -/
section
variable {post : Env → Prop} {cs : CSem} {Γ : List (Env → Prop)} {ρ : Env}
theorem Sat.fin {σ : Sub} (h : post (σ.nenv ρ)) : Sat post cs Γ ρ (.fin σ) := h
theorem Sat.br {c : BE} {t e : Out} (h1 : c.den ρ = true → Sat post cs Γ ρ t) (h2 : c.den ρ = false → Sat post cs Γ ρ e) : Sat post cs Γ ρ (.br c t e) := ⟨h1, h2⟩
theorem Sat.ob {b : BE} {k : Out} (h1 : b.den ρ = true) (h2 : Sat post cs Γ ρ k) : Sat post cs Γ ρ (.ob b k) := ⟨h1, fun _ => h2⟩
theorem Sat.alt {a b : Out} (h1 : Sat post cs Γ ρ a) (h2 : Sat post cs Γ ρ b) : Sat post cs Γ ρ (.alt a b) := ⟨h1, h2⟩
theorem Sat.new {nv : Nat} {fs : List QF} {k : Out} (h : ∀ e : Env, (∀ f ∈ fs, f.den (ρ.join nv e)) → Sat post cs Γ (ρ.join nv e) k) : Sat post cs Γ ρ (.new nv fs k) := h
theorem Sat.loop {nv : Nat} {σ : Sub} {k : Out} (Inv : Env → Prop) (m : Env → Nat) (h0 : Inv (σ.nenv ρ)) (h : ∀ e : Env, Inv (ρ.join nv e).num → Sat post cs ((fun ρ' => Inv ρ' ∧ m ρ' < m (ρ.join nv e).num) :: Γ) (ρ.join nv e) k) : Sat post cs Γ ρ (.loop nv σ k) := ⟨Inv, m, h0, h⟩
theorem Sat.back {i : Nat} {σ : Sub} {G : Env → Prop} (hG : Γ[i]? = some G) (h : G (σ.nenv ρ)) : Sat post cs Γ ρ (.back i σ) := ⟨G, hG, h⟩
theorem Sat.call {g : Nat} {σ : Sub} {nv : Nat} {k : Out} {c : Con} {pre post' : Env → Prop} (hc : cs[g]? = some (c, pre, post')) (h1 : pre (σ.nenv ρ)) (h2 : ∀ e : Env, post' (conEnv σ c.nv nv ρ (ρ.join nv e)) → Sat post cs Γ (ρ.join nv e) k) : Sat post cs Γ ρ (.call g σ nv k) := ⟨c, pre, post', hc, h1, h2⟩
end
theorem con_ok {P : Program} {T : Tab} (hT : TabOK P T) {E : Ex} {cs : CSem} {inf : List (List OI)} (hE : E.cons = cs.map (·.1)) (hC : ∀ k pre post, (k, pre, post) ∈ cs → conWf k = true ∧ ConOK P k pre post) (hS : schedsOK T E.sched inf = true)
  {n : Nat} {kn : Kn} {F : Con} {out : Out} (hF : E.fin = F) (hex : exec T E n [] (cfg0 F.f F.nv kn F.gl F.hp F.args) = out) (hf : (match T.f F.f with | some fn => fn.body.isSome && !(fn.name == "runtime.NumGoroutine") && decide (F.args.length ≤ fn.ntmps) | none => false) = true)
  {pre post : Env → Prop} (hk : ∀ ρ : Env, pre ρ.num → Kn.ok ρ.num kn) (hs : ∀ ρ : Env, pre ρ.num → Sat post cs [] ρ out) : ConOK P F pre post := by
 subst hF
 split at hf
 case h_2 => cases hf
 rename_i fn hfn
 simp only [Bool.and_eq_true, Bool.not_eq_true', decide_eq_true_eq] at hf
 obtain ⟨⟨hb, hname⟩, hn⟩ := hf
 have hPf := hT.fns _ fn (hT.f_mem hfn)
 refine ⟨⟨fn, hPf, hb, hname⟩, fun ρ ν w hhp hgl hpre => ?_⟩
 obtain ⟨body, hbody⟩ := Option.isSome_iff_exists.1 hb
 have hnt : T.ntmps E.fin.f = fn.ntmps := by unfold Tab.ntmps; rw [hfn]; rfl
 have hbd : T.body E.fin.f = body := by unfold Tab.body; rw [hfn]; simp [hbody]
 refine Reach.calls hPf hbody ?_
 have hsat := hs ρ hpre
 rw [← hex] at hsat
 have hg := exec_ok (P := P) (B := ⟨w, ownW ρ ν E.fin.hp, ρ, ν, E.fin.nv, E.fin.hp.length⟩) hT hE hC hS ⟨rfl, rfl⟩ n (op := []) (Γ := []) (ρ := ρ) (ν := ν) (c := cfg0 E.fin.f E.fin.nv kn E.fin.gl E.fin.hp E.fin.args)
  (a := ({ tmps := (E.fin.args.map (·.den ρ ν)).toArray ++ Array.replicate (fn.ntmps - (E.fin.args.map (·.den ρ ν)).toArray.size) undef, defers := [] }, fun _ => True)) (as := []) (w := w) rfl (fun i o h => by simp at h) hsat
  ⟨Nat.le_refl _, Nat.le_refl _, Agr.refl _ _ _ _, Kn.ok_num (hk ρ hpre), hgl, hhp, Wrt.refl _ _, fun k sb h1 h2 h3 => .inr ⟨k, sb, h1, h2, h3, rfl⟩, ⟨?_, ?_, rfl, fun p k sc d hc => by cases hc⟩, trivial, fun p k sc hc => by cases hc⟩
 ·unfold Goal topGoal cfg0 at hg
  simp only [List.map_cons, List.map_nil, SI.conc, hbd, Code.at, Option.getD_some] at hg
  exact hg
 ·intro t v ht
  obtain ⟨k, x, rfl, hx, rfl⟩ := argsFr_ok (ρ := ρ) (ν := ν) ht
  have hk : k < E.fin.args.length := (List.getElem?_eq_some_iff.1 hx).1
  rw [Array.getD_eq_getD_getElem?, Array.getElem?_append]
  simp [hk, SV.den, (List.getElem?_eq_some_iff.1 hx).2]
 ·rw [show T.ntmps (cfg0 E.fin.f E.fin.nv kn E.fin.gl E.fin.hp E.fin.args).top.f = fn.ntmps from hnt]
  simp
  omega
end Go.Rex
