/- Rex, part N: one step is right. -/
import Derived.Test.YthomdlajobnmnaaDoorRexM
set_option linter.unusedSimpArgs false
set_option linter.unusedVariables false
namespace Go.Rex

theorem at_child {body : Code} {p : List Nat} {d : Code} (h : Code.at body p = some d) (i : Nat) : Code.at body (p ++ [i]) = Code.at d [i] := by
 rw [Code.at_snoc, h]; rfl
section
variable {P : Program} {T : Tab} {ρ : Env} {ν : Nat → Addr}
/-! ### results -/
def resF (a : Act) : ResultVar → Sem Value
 | .tmp t => pure (a.tmps.getD t undef)
 | .cell x t => do loadVar t (← asAddr (a.tmps.getD x undef))
theorem results_eq (fn : Func) (a : Act) : results fn a.tmps = (do let vs ← fn.results.mapM (resF a); pure (if h : vs.size = 1 then vs[0] else .tuple vs)) := by
 unfold results
 congr 1
theorem resW_ok (hT : TabOK P T) {c : Cfg} {a : Act} {w : World} (hk : Kn.ok ρ c.kn) (hf : FrOK ρ ν c.top.fr a) (hh : HpOK ρ ν c.hp w) : ∀ {l : List ResultVar} {xs : List SW} {os : List BE},
  resW T c l = some (xs, os) → (∀ o ∈ os, o.den ρ = true) →
  (l.mapM (resF a)).run P w = .ok (xs.map (·.den ρ ν)) w
 | [], xs, os, h, _ => by
  simp only [resW, Option.some.injEq, Prod.mk.injEq] at h
  obtain ⟨rfl, rfl⟩ := h
  rfl
 | .tmp t :: r, xs, os, h, ho => by
  unfold resW at h
  split at h
  ·rename_i x ys os' hx hr
   simp only [Option.some.injEq, Prod.mk.injEq] at h
   obtain ⟨rfl, rfl⟩ := h
   have ih := resW_ok hT hk hf hh hr ho
   have hx' : a.tmps.getD t undef = x.den ρ ν := hf t _ hx
   rw [List.mapM_cons]
   simp only [resF, Sem.run_bind, Sem.run_pure, Result.andThen_ok, ih, hx', List.map_cons]
  ·cases h
 | .cell x t :: r, xs, os, h, ho => by
  unfold resW at h
  split at h
  ·rename_i sa ys os' hx hr
   split at h
   ·rename_i y os2 hl
    simp only [Option.some.injEq, Prod.mk.injEq] at h
    obtain ⟨rfl, rfl⟩ := h
    have ih := resW_ok hT hk hf hh hr (fun o hm => ho o (by simp [hm]))
    have hx' : a.tmps.getD x undef = .pointer (some (sa.den ρ ν)) := hf x _ hx
    have hld := loadPR_ok hT hk hh hl (fun o hm => ho o (by simp [hm]))
    rw [List.mapM_cons]
    have hasA : (asAddr (.pointer (some (sa.den ρ ν)))).run P w = .ok (sa.den ρ ν) w := rfl
    simp only [resF, Sem.run_bind, Sem.run_pure, Result.andThen_ok, ih, hx', hasA, hld, List.map_cons, SV.den]
   ·cases h
  ·cases h
theorem results_ok (hT : TabOK P T) {c : Cfg} {a : Act} {w : World} (hk : Kn.ok ρ c.kn) (hf : FrOK ρ ν c.top.fr a) (hh : HpOK ρ ν c.hp w) {fn : Func} {xs : List SW} {os : List BE}
  (h : resW T c fn.results.toList = some (xs, os)) (ho : ∀ o ∈ os, o.den ρ = true) :
  (results fn a.tmps).run P w = .ok (SV.den ρ ν (svOf xs)) w := by
 have := resW_ok hT hk hf hh h ho
 rw [results_eq, Array.mapM_eq_mapM_toList]
 simp only [Sem.run_bind, map_eq_pure_bind]
 rw [this]
 simp only [Result.andThen_ok, Sem.run_pure]
 congr 1
 rcases xs with _ | ⟨x, _ | ⟨y, r⟩⟩
 ·simp [svOf, SV.den]
 ·simp [svOf, SV.den]
 ·simp [svOf, SV.den]
end

section
variable {P : Program} {T : Tab} {B : Base} {R : Ending → World → Prop} {E : Ex} {cs : CSem} {inf : List (List OI)} {ρ : Env} {ν : Nat → Addr} {c : Cfg} {a : AS} {as : List AS} {w : World}
theorem doRet_ok (hT : TabOK P T) (hr : Rel T B ρ ν c a as w)
  (hG : ∀ fn v, P.funcs[c.top.f]? = some fn → (results fn a.1.tmps).run P w = .ok v w → RK P T R c.stk as (.returned v) w → Goal P T R c a as w) :
  StepOK P T B R cs ρ ν c a as w (doRet T c) := by
 unfold doRet
 split
 ·trivial
 rename_i fn hfn
 have hPf := hT.fns _ fn (hT.f_mem hfn)
 split
 ·trivial
 rename_i xs os hres
 simp only
 cases hst : c.stk with
 | nil =>
  simp only
  intro hos hR
  refine hG fn _ hPf (results_ok hT hr.kn hr.top.fr hr.hp hres hos) ?_
  rw [hst]
  exact hR hst
 | cons x st =>
  obtain ⟨G, i⟩ := x
  simp only
  split
  ·rename_i hd
   intro hos hnext
   refine hG fn _ hPf (results_ok hT hr.kn hr.top.fr hr.hp hres hos) ?_
   rw [hst]
   have hs := hr.stk
   rw [hst] at hs
   cases as with
   | nil => cases hs
   | cons b bs =>
    obtain ⟨hs1, hs2⟩ := hs
    refine ⟨_, rfl, ?_⟩
    have hf1 : FOK T ρ ν ((G.put (((T.ops G.f G.pth)[i]?).bind (·.dst)) (svOf xs)).adv i)
      (b.1.put (((T.ops G.f G.pth)[i]?).bind (·.dst)) (SV.den ρ ν (svOf xs))) b.2 := (hs1.put hd rfl).advance i
    have hg := hnext ρ ν (b.1.put (((T.ops G.f G.pth)[i]?).bind (·.dst)) (SV.den ρ ν (svOf xs)), b.2) bs w (Agr.refl _ _ _ _) (fun _ => rfl) ⟨Nat.le_refl _, Nat.le_refl _⟩ hos (by simp)
     ⟨hr.nv, hr.n, hr.agr, hr.kn, hr.gl, hr.hp, hr.wr, hr.own, hf1, hs2, fun p k s hc => by cases (adv_held hc).1⟩
    unfold Goal at hg
    obtain ⟨e1, e2, e3⟩ := put_f G (((T.ops G.f G.pth)[i]?).bind (·.dst)) (svOf xs)
    obtain ⟨f1, f2, -⟩ := adv_f (G.put (((T.ops G.f G.pth)[i]?).bind (·.dst)) (svOf xs)) i
    obtain ⟨g1, g2, -⟩ := adv_f G i
    exact topGoal_congr (g1.trans (f1.trans e1).symm) (g2.trans (f2.trans e2).symm) (adv_cur i e3.symm) hg
  ·trivial
theorem doTake_ok (hT : TabOK P T) (hr : Rel T B ρ ν c a as w) {p : List Nat} {i D : Nat} {k : Sch} {sc : List SB} (hcur : c.top.cur = .dr p (.take i D k) sc false) :
  StepOK P T B R cs ρ ν c a as w (doTake T c (T.ops c.top.f p) i D p k sc) := by
 have hS := hr.top.held p _ sc _ hcur
 have hwk := hr.held p _ sc hcur
 unfold doTake
 split
 ·trivial
 rename_i o ho
 split
 ·trivial
 rename_i hdst
 replace hdst : dstOK T c.top.f o.dst = true := by simpa using hdst
 split
 ·trivial
 rename_i g hgc
 have hwant := gcond_ok hr.top.fr hgc
 -- the operation is taken, and memory held so far as 'sc'' says
 have take : ∀ (sc' : List SB) (S1 : World → Prop) (v : SV) (os : List BE), wkHp sc sc' = true → wkHp sc' c.hp = true → ((∀ w, S1 w) ∨ ((S1 = fun w => HpOK ρ ν sc' w) ∧ ∀ x, k.lim = some x → x ∈ bitsOf (T.ops c.top.f p).size D)) →
   ((∀ b ∈ os, b.den ρ = true) → YieldsIf P (T.ops c.top.f p) S1 o (v.den ρ ν) a.1) →
   StepOK P T B R cs ρ ν c a as w (.next os [] { c with top := { c.top.put o.dst v with cur := .dr p k sc' false } }) := by
  intro sc' S1 v os hle hwk' hS1 hy hos hnext
  have hSw' : HpOK ρ ν sc' w := wkHp_ok hwk' hr.hp
  have hf : FOK T ρ ν { c.top.put o.dst v with cur := .dr p k sc' false } (a.1.put o.dst (v.den ρ ν)) (fun w => HpOK ρ ν sc' w) := by
   have h1 := hr.top.put (v := v) hdst rfl
   refine ⟨h1.fr, h1.tmps, h1.defers, fun p' k' s' d' hc => ?_⟩
   simp only [Cur.dr.injEq] at hc
   rw [← hc.2.2.1]
   exact fun _ => Iff.rfl
  have hg := hnext ρ ν (_, fun w => HpOK ρ ν sc' w) as w (Agr.refl _ _ _ _) (fun _ => rfl) ⟨Nat.le_refl _, Nat.le_refl _⟩ hos (by simp) ⟨hr.nv, hr.n, hr.agr, hr.kn, hr.gl, hr.hp, hr.wr, hr.own, hf, hr.stk, fun p' k' s' hc => by
    simp only [Cur.dr.injEq] at hc
    rw [← hc.2.2.1]
    exact hwk'⟩
  unfold Goal topGoal
  rw [hcur]
  refine ⟨fun _ => (hS w).2 (wkHp_ok hwk hr.hp), fun listed hns hsp => ?_⟩
  obtain ⟨z1, z2, z3, z5, z6, z4⟩ := hsp
  unfold Goal topGoal at hg
  obtain ⟨e1, e2, e3⟩ := put_f c.top o.dst v
  simp only [e1, e2] at hg
  have h2 := hg.2 _ hns z4
  rw [drGoal_plain z3] at h2
  rw [drGoal_plain rfl]
  refine wpAnyK_weak (S := a.2) (S' := fun w => HpOK ρ ν sc' w) (fun w' h' => (hS w').2 (wkHp_ok hle h')) ?_
  refine wpAnyK_first (S1 := S1) (l := bitsOf (T.ops c.top.f p).size D) ho (Region.noSelect_spec hns) (fun _ _ _ h => contQ_panic h) z6 hS1 k.size listed a.1 w (Region.free_spec ho z2) z1 (hy hos) ?_ (fun _ => hSw') z5 h2
  rcases hS1 with h | ⟨h, _⟩
  ·exact h w
  ·rw [h]
   exact hSw'
 have h0 : wkHp sc sc = true := wkHp_of (Nat.le_refl _) fun k x y hx hy => by rw [hx] at hy; cases hy; exact SB.wk_refl x
 have hnil : ∀ w', HpOK ρ ν [] w' := fun w' => ⟨fun i j a b hi => (by simp at hi), fun k sb h => (by simp at h), fun k sb h => (by simp at h)⟩
 -- what is held is what is needed
 have hsc : ∀ kn, wkHp sc ((takeSc T c.gl kn c.top.fr c.hp sc o).getD sc) = true ∧ wkHp ((takeSc T c.gl kn c.top.fr c.hp sc o).getD sc) c.hp = true := by
  intro kn
  unfold takeSc
  split
  ·exact ⟨hold_more hwk, hold_wk hwk⟩
  ·exact ⟨h0, hwk⟩
 have hS1 : ∀ kn, ¬ ((takeSc T c.gl kn c.top.fr c.hp sc o).isSome && !limOK k.lim (bitsOf (T.ops c.top.f p).size D)) = true →
   (∀ w', (fun w' => HpOK ρ ν ((takeSc T c.gl kn c.top.fr c.hp sc o).getD []) w') w') ∨ (((fun w' => HpOK ρ ν ((takeSc T c.gl kn c.top.fr c.hp sc o).getD []) w') = fun w' => HpOK ρ ν ((takeSc T c.gl kn c.top.fr c.hp sc o).getD sc) w') ∧ ∀ x, k.lim = some x → x ∈ bitsOf (T.ops c.top.f p).size D) := by
  intro kn hn
  cases hh : takeSc T c.gl kn c.top.fr c.hp sc o with
  | none => exact .inl hnil
  | some h =>
   refine .inr ⟨rfl, fun x hx => ?_⟩
   rw [hh, hx] at hn
   simpa [limOK] using hn
 split
 ·rename_i hdec
  have hg := BE.decide_ok hr.kn hdec
  exact take sc (fun _ => True) (.tup []) [] h0 hwk (.inl fun _ => trivial) fun _ => .inr ⟨by rw [hwant, hg], rfl⟩
 ·rename_i hdec
  have hg := BE.decide_ok hr.kn hdec
  split
  ·trivial
  rename_i hok
  split
  ·rename_i v os hp'
   exact take _ _ v os (hsc _).1 (hsc _).2 (hS1 _ hok) fun hos => .inl ⟨by rw [hwant, hg], fun w' hw' => pureOp_ok (hT.sw c.top.f) hr.gl hr.kn hr.top.fr hw' hp' hos⟩
  ·trivial
  ·trivial
 ·rename_i hdec
  split
  ·trivial
  rename_i hok
  split
  ·rename_i x os hp'
   refine take _ _ (.gd g x) _ (hsc _).1 (hsc _).2 (hS1 _ hok) fun hos => ?_
   cases hg : g.den ρ with
   | false => exact .inr ⟨by rw [hwant, hg], by simp [SV.den, hg]⟩
   | true =>
    refine .inl ⟨by rw [hwant, hg], fun w' hw' => ?_⟩
    rw [pureOp_ok (hT.sw c.top.f) hr.gl (addKn_ok hg hr.kn) hr.top.fr hw' hp' (fun b hb => by
      have := hos (.or g.notS b) (List.mem_map.2 ⟨b, hb, rfl⟩)
      simpa [BE.den, BE.notS_den, hg] using this)]
    simp [SV.den, hg]
  ·trivial
theorem doDr_ok (hT : TabOK P T) (hE : E.cons = cs.map (·.1)) (hC : ∀ k pre post, (k, pre, post) ∈ cs → conWf k = true ∧ ConOK P k pre post) (hr : Rel T B ρ ν c a as w) {p : List Nat} {k : Sch} {sc : List SB} {d : Bool} (hcur : c.top.cur = .dr p k sc d) :
  StepOK P T B R cs ρ ν c a as w (doDr T E c p k sc d) := by
 have hS := hr.top.held p k sc d hcur
 unfold doDr
 split
 ·-- nothing is held any more
  rename_i hdr
  obtain ⟨k', rfl⟩ : ∃ k', k = .drop k' := by
   cases k <;> first | exact ⟨_, rfl⟩ | (cases hdr)
  intro _ hnext
  have hnil : ∀ w', HpOK ρ ν [] w' := fun w' => ⟨fun i j a b hi => (by simp at hi), fun k sb h => (by simp at h), fun k sb h => (by simp at h)⟩
  have hf : FOK T ρ ν { c.top with cur := .dr p k' [] false } a.1 (fun w => HpOK ρ ν [] w) :=
   ⟨hr.top.fr, hr.top.tmps, hr.top.defers, fun p' k' s' d' hc => by
     simp only [Cur.dr.injEq] at hc
     rw [← hc.2.2.1]
     exact fun _ => Iff.rfl⟩
  have hg := hnext ρ ν (a.1, fun w => HpOK ρ ν [] w) as w (Agr.refl _ _ _ _) (fun _ => rfl) ⟨Nat.le_refl _, Nat.le_refl _⟩ (by simp) (by simp) ⟨hr.nv, hr.n, hr.agr, hr.kn, hr.gl, hr.hp, hr.wr, hr.own, hf, hr.stk, fun p' k' s' hc => by
    simp only [Cur.dr.injEq] at hc
    rw [← hc.2.2.1]
    rfl⟩
  unfold Goal topGoal at hg ⊢
  rw [hcur]
  refine ⟨fun h => (by cases h), fun listed hns hsp => ?_⟩
  obtain ⟨z1, z2, z3⟩ := hsp
  have h2 := hg.2 listed hns z3
  have h3 := (drGoal_plain (s := k') z2).1 h2
  exact wpAnyK_drop (S := a.2) z1 h3
 rename_i hnd
 have hnd : k.isDrop = false := by simpa using hnd
 split
 ·rename_i hd
  split
  ·rename_i hwk
   intro _ hnext
   have hg := hnext ρ ν a as w (Agr.refl _ _ _ _) (fun _ => rfl) ⟨Nat.le_refl _, Nat.le_refl _⟩ (by simp) (by simp) ⟨hr.nv, hr.n, hr.agr, hr.kn, hr.gl, hr.hp, hr.wr, hr.own, ⟨hr.top.fr, hr.top.tmps, hr.top.defers, fun p' k' s' d' hc => by
     simp only [Cur.dr.injEq] at hc
     rw [← hc.2.2.1]
     exact hS⟩, hr.stk, fun p' k' s' hc => by
     simp only [Cur.dr.injEq] at hc
     rw [← hc.2.2.1]
     exact hwk⟩
   unfold Goal topGoal at hg ⊢
   rw [hcur]
   exact hg
  ·trivial
 rename_i hd
 have hd' : d = false := by simpa using hd
 subst hd'
 have hwk := hr.held p k sc hcur
 have hSw : a.2 w := (hS w).2 (wkHp_ok hwk hr.hp)
 have hgoal : (∀ listed : Array Bool, Region.noSelect (T.ops c.top.f p) = true → SchP (T.ops c.top.f p) listed k →
     drGoal P (T.ops c.top.f p) (contQ P c.top.f (RK P T R c.stk as) (c.top.todo.map (SI.conc (T.body c.top.f)))) a.2 k listed a.1 w) → Goal P T R c a as w := by
  intro h
  unfold Goal topGoal
  rw [hcur]
  exact ⟨fun _ => hSw, h⟩
 have single : ∀ (i : Nat) (k' : Sch), k.rest = k' → (∀ listed, SchP (T.ops c.top.f p) listed k → k'.isGo = false ∧ SchP (T.ops c.top.f p) (listed.setIfInBounds i true) k' ∧
       ((wpOp P (T.ops c.top.f p) (contQ P c.top.f (RK P T R c.stk as) (c.top.todo.map (SI.conc (T.body c.top.f)))) i (fun a' w' => (asked k'.lim (listed.setIfInBounds i true) → a.2 w') ∧ wpAnyK P .any (T.ops c.top.f p) (contQ P c.top.f (RK P T R c.stk as) (c.top.todo.map (SI.conc (T.body c.top.f)))) a.2 k'.lim k'.size (listed.setIfInBounds i true) a' w') a.1 w) →
         drGoal P (T.ops c.top.f p) (contQ P c.top.f (RK P T R c.stk as) (c.top.todo.map (SI.conc (T.body c.top.f)))) a.2 k listed a.1 w)) →
   StepOK P T B R cs ρ ν c a as w (doOp T E c (T.ops c.top.f p) i (advDr p k' sc)) := by
  intro i k' hk hgo
  have hadv : ∀ F : SFrame, F.cur = c.top.cur → advDr p k' sc F = F.adv i := by
   intro F hF
   unfold SFrame.adv
   rw [hF, hcur, ← hk]
  refine doOp_ok hT hE hC hr (p := p) (by unfold SFrame.pth; rw [hcur]) hadv (Q := contQ P c.top.f (RK P T R c.stk as) (c.top.todo.map (SI.conc (T.body c.top.f))))
   (K := fun a' w' => (k'.isDrop = false → a.2 w') ∧ ∀ listed, Region.noSelect (T.ops c.top.f p) = true → SchP (T.ops c.top.f p) listed k →
     wpAnyK P .any (T.ops c.top.f p) (contQ P c.top.f (RK P T R c.stk as) (c.top.todo.map (SI.conc (T.body c.top.f)))) a.2 k'.lim k'.size (listed.setIfInBounds i true) a' w') ?_ ?_
  ·intro F' a' w' h1 h2 h3 hg
   have h3' : F'.cur = .dr p k' sc true := by rw [h3]; unfold SFrame.adv; rw [hcur, ← hk]; rfl
   unfold topGoal at hg
   rw [h3', h1, h2] at hg
   refine ⟨hg.1, fun listed hns hsp => ?_⟩
   obtain ⟨z1, z2, -⟩ := hgo listed hsp
   exact (drGoal_plain z1).1 (hg.2 _ hns z2)
  ·intro hw
   apply hgoal
   intro listed hns hsp
   refine (hgo listed hsp).2.2 (wpOp_mono (fun a' w' h => ⟨fun ha => ?_, h.2 listed hns hsp⟩) hw)
   cases hk' : k'.isDrop with
   | false => exact h.1 hk'
   | true =>
    have hz := (hgo listed hsp).2.1
    obtain ⟨k2, rfl⟩ : ∃ k2, k' = .drop k2 := by
     cases k' <;> first | exact ⟨_, rfl⟩ | (cases hk')
    exact absurd ha hz.1
 simp only
 split
 ·intro _ hnext
  apply hgoal
  intro listed hns hsp
  have hrd : Region.ready .any (T.ops c.top.f p) listed = [] := List.eq_nil_iff_forall_not_mem.2 hsp
  refine wpAnyK_done hrd ⟨rfl, ?_⟩ _
  have hg := hnext ρ ν a as w (Agr.refl _ _ _ _) (fun _ => rfl) ⟨Nat.le_refl _, Nat.le_refl _⟩ (by simp) (by simp) ⟨hr.nv, hr.n, hr.agr, hr.kn, hr.gl, hr.hp, hr.wr, hr.own, ⟨hr.top.fr, hr.top.tmps, hr.top.defers, fun p k d s hc => by cases hc⟩, hr.stk, fun p k s hc => by cases hc⟩
  exact hg
 ·exact doTake_ok hT hr hcur
 ·rename_i i k' _
  refine single i k' rfl fun listed hsp => ?_
  obtain ⟨z1, z2, z3, z4⟩ := hsp
  refine ⟨z3, z4, fun hw => ?_⟩
  refine ⟨fun h0 => (by rw [h0] at z1; cases z1), fun j hj => ?_⟩
  rw [z2 j hj]
  exact hw
 ·rename_i i k' _
  refine single i k' rfl fun listed hsp => ?_
  obtain ⟨z1, z3, z4⟩ := hsp
  exact ⟨z3, z4, fun hw => hw⟩
 ·rename_i i ki j kj _
  intro hx hy
  have mk : ∀ (i : Nat) (ki : Sch), Rel T B ρ ν { c with top := { c.top with cur := .dr p (.go i ki) sc false } } a as w := fun i ki =>
   ⟨hr.nv, hr.n, hr.agr, hr.kn, hr.gl, hr.hp, hr.wr, hr.own, ⟨hr.top.fr, hr.top.tmps, hr.top.defers, fun p' k' s' d' hc => by
     simp only [Cur.dr.injEq] at hc
     rw [← hc.2.2.1]
     exact hS⟩, hr.stk, fun p' k' s' hc => by
     simp only [Cur.dr.injEq] at hc
     rw [← hc.2.2.1]
     exact hwk⟩
  have hx' := hx (mk i ki)
  have hy' := hy (mk j kj)
  apply hgoal
  intro listed hns hsp
  obtain ⟨z1, z2, z3, z4, z5, z6, z9, z7, z8⟩ := hsp
  unfold Goal topGoal at hx' hy'
  have h1 := hx'.2 listed hns ⟨z1, z4, z7⟩
  have h2 := hy'.2 listed hns ⟨z2, z5, z8⟩
  simp only [drGoal] at h1 h2 ⊢
  refine ⟨fun h0 => (by rw [h0] at z1; cases z1), fun q hq => ?_⟩
  rcases z3 q hq with rfl | rfl
  ·exact h1
  ·rw [show (Sch.alt i ki q kj).lim = kj.lim from z9, z6]; exact h2
 ·cases hnd
theorem findSch_mem {f : FuncId} {p : List Nat} {s : Sch} : ∀ {l : List ((FuncId × List Nat) × Sch)}, findSch f p l = some s → ((f, p), s) ∈ l
 | [], h => by simp [findSch] at h
 | x :: r, h => by
  unfold findSch at h
  split at h
  ·rename_i hc
   simp only [Bool.and_eq_true, beq_iff_eq] at hc
   simp at h
   subst h
   rw [← hc.1, ← hc.2]
   exact List.mem_cons_self ..
  ·exact List.mem_cons_of_mem _ (findSch_mem h)
theorem schedsOK_mem {f : FuncId} {p : List Nat} {s : Sch} : ∀ {l : List ((FuncId × List Nat) × Sch)} {inf : List (List OI)}, schedsOK T l inf = true → ((f, p), s) ∈ l →
  ∃ os, (Region.noSelect (T.ops f p) && s.size == (T.ops f p).size && !s.isGo && chkInfo (T.ops f p) (T.ops f p).size (T.ops f p).toList os && schM os (2 ^ (T.ops f p).size - 1) s) = true
 | [], _, _, h => by cases h
 | x :: r, [], h, _ => by simp [schedsOK] at h
 | x :: r, os :: q, h, hm => by
  simp only [schedsOK] at h
  rw [Bool.and_eq_true] at h
  rcases List.mem_cons.1 hm with e | hm
  ·subst e
   exact ⟨os, h.1⟩
  ·exact schedsOK_mem h.2 hm
theorem sched_ok {f : FuncId} {p : List Nat} {s : Sch} (hS : schedsOK T E.sched inf = true) (h : findSch f p E.sched = some s) :
  Region.noSelect (T.ops f p) = true ∧ s.size = (T.ops f p).size ∧ s.isGo = false ∧ SchP (T.ops f p) (Array.replicate (T.ops f p).size false) s := by
 obtain ⟨os, hh⟩ := schedsOK_mem hS (findSch_mem h)
 simp only [Bool.and_eq_true, beq_iff_eq, Bool.not_eq_true'] at hh
 obtain ⟨⟨⟨⟨h1, h2⟩, h3⟩, h4⟩, h5⟩ := hh
 refine ⟨h1, h2, h3, schM_ok h4 (fun j => ?_) (by simp) h5⟩
 rw [Nat.testBit_two_pow_sub_one, Array.getD_eq_getD_getElem?, Array.getElem?_replicate]
 split <;> rename_i hj <;> simp [hj]
theorem stepC_ok (hT : TabOK P T) (hE : E.cons = cs.map (·.1)) (hC : ∀ k pre post, (k, pre, post) ∈ cs → conWf k = true ∧ ConOK P k pre post) (hS : schedsOK T E.sched inf = true) (hr : Rel T B ρ ν c a as w) : StepOK P T B R cs ρ ν c a as w (stepC T E c) := by
 have mv : ∀ {F' : SFrame}, F'.f = c.top.f → F'.fr = c.top.fr → F'.cur = .none → Rel T B ρ ν { c with top := F' } a as w := fun {F'} h1 h2 h3 =>
  ⟨hr.nv, hr.n, hr.agr, hr.kn, hr.gl, hr.hp, hr.wr, hr.own, ⟨by rw [h2]; exact hr.top.fr, by rw [h1]; exact hr.top.tmps, hr.top.defers, fun p k s d hc => (by rw [h3] at hc; cases hc)⟩, hr.stk, fun p k s hc => (by rw [h3] at hc; cases hc)⟩
 have gr : ∀ {k : List SI}, c.top.cur = .none → Goal P T R { c with top := { c.top with todo := k } } a as w → Reach P c.top.f (RK P T R c.stk as) a.1 (k.map (SI.conc (T.body c.top.f))) w := by
  intro k h1 hg
  unfold Goal topGoal at hg
  simp only [h1] at hg
  exact hg
 have R0 := Agr.refl c.nv c.hp.length ρ ν
 have L0 : c.nv ≤ c.nv ∧ c.hp.length ≤ c.hp.length := ⟨Nat.le_refl _, Nat.le_refl _⟩
 unfold stepC
 simp only
 split
 ·-- in a region
  rename_i p i hcur
  have hgoal : wpOps P (T.ops c.top.f p) (contQ P c.top.f (RK P T R c.stk as) (c.top.todo.map (SI.conc (T.body c.top.f)))) (List.range' i ((T.ops c.top.f p).size - i)) a.1 w → Goal P T R c a as w := by
   intro h
   unfold Goal topGoal
   rw [hcur]
   exact h
  split
  ·rename_i hlt
   simp only [decide_eq_true_eq] at hlt
   have hadv : ∀ F : SFrame, F.cur = c.top.cur → advReg p i F = F.adv i := by
    intro F hF
    unfold SFrame.adv
    rw [hF, hcur]
   refine doOp_ok hT hE hC hr (p := p) (by unfold SFrame.pth; rw [hcur]) hadv (Q := contQ P c.top.f (RK P T R c.stk as) (c.top.todo.map (SI.conc (T.body c.top.f))))
    (K := wpOps P (T.ops c.top.f p) (contQ P c.top.f (RK P T R c.stk as) (c.top.todo.map (SI.conc (T.body c.top.f)))) (List.range' (i + 1) ((T.ops c.top.f p).size - (i + 1)))) ?_ ?_
   ·intro F' a' w' h1 h2 h3 hg
    have h3' : F'.cur = .reg p (i + 1) := by rw [h3]; unfold SFrame.adv; rw [hcur]; rfl
    unfold topGoal at hg
    rw [h3', h1, h2] at hg
    exact hg
   ·intro hw
    apply hgoal
    have : (T.ops c.top.f p).size - i = ((T.ops c.top.f p).size - (i + 1)) + 1 := by omega
    rw [this, List.range'_succ, wpOps_cons]
    exact hw
  ·rename_i hge
   simp only [decide_eq_true_eq] at hge
   intro _ hnext
   apply hgoal
   have : (T.ops c.top.f p).size - i = 0 := by omega
   rw [this]
   have hg := hnext ρ ν a as w R0 (fun _ => rfl) L0 (by simp) (by simp) (mv rfl rfl rfl)
   exact ⟨rfl, hg⟩
 ·rename_i p k sc d hcur
  exact doDr_ok hT hE hC hr hcur
 ·rename_i hcur
  have hgoal : Reach P c.top.f (RK P T R c.stk as) a.1 (c.top.todo.map (SI.conc (T.body c.top.f))) w → Goal P T R c a as w := by
   intro h
   unfold Goal topGoal
   rw [hcur]
   exact h
  split
  ·rename_i htodo
   rw [htodo] at hgoal
   exact doRet_ok hT hr fun fn v hfn hres hR => hgoal (Reach.end hfn hr.top.defers hres hR)
  ·rename_i id k htodo
   rw [htodo] at hgoal
   intro _ hnext
   exact hgoal (Reach.step (fun b cs => step_inBlock) (gr hcur (hnext ρ ν a as w R0 (fun _ => rfl) L0 (by simp) (by simp) (mv rfl rfl hcur))))
  ·trivial
  ·rename_i q k htodo
   rw [htodo] at hgoal
   intro _ hnext
   exact hgoal (Reach.step (fun b cs => step_inLoop) (gr hcur (hnext ρ ν a as w R0 (fun _ => rfl) L0 (by simp) (by simp) (mv rfl rfl hcur))))
  ·rename_i p k htodo
   rw [htodo] at hgoal
   simp only [List.map_cons, SI.conc] at hgoal
   split
   ·rename_i hat
    rw [hat] at hgoal
    intro _ hnext
    exact hgoal (Reach.step (fun b cs => step_skip) (gr hcur (hnext ρ ν a as w R0 (fun _ => rfl) L0 (by simp) (by simp) (mv rfl rfl hcur))))
   ·rename_i l hat
    rw [hat] at hgoal
    intro _ hnext
    exact hgoal (Reach.step (fun b cs => step_label) (gr hcur (hnext ρ ν a as w R0 (fun _ => rfl) L0 (by simp) (by simp) (mv rfl rfl hcur))))
   ·rename_i x y hat
    rw [hat] at hgoal
    intro _ hnext
    have hg := gr hcur (hnext ρ ν a as w R0 (fun _ => rfl) L0 (by simp) (by simp) (mv rfl rfl hcur))
    simp only [List.map_cons, SI.conc, at_child hat, Code.at, Option.getD_some] at hg
    exact hgoal (Reach.step (fun b cs => step_seq) hg)
   ·rename_i o x y hat
    rw [hat] at hgoal
    split
    ·trivial
    rename_i b hb
    have hev : a.1.eval o = .bool (b.den ρ) := by
     simp only [Option.bind_eq_some_iff] at hb
     obtain ⟨v, hv, hvb⟩ := hb
     rw [opd_ok hr.gl hr.kn hr.top.fr hv]
     unfold svBool at hvb
     split at hvb
     ·simp at hvb; subst hvb; rfl
     ·cases hvb
    split
    ·rename_i hd
     have := BE.decide_ok hr.kn hd
     intro _ hnext
     have hg := gr hcur (hnext ρ ν a as w R0 (fun _ => rfl) L0 (by simp) (by simp) (mv rfl rfl hcur))
     simp only [List.map_cons, SI.conc, at_child hat, Code.at, Option.getD_some] at hg
     refine hgoal (Reach.step (fun b' cs => step_cond hev) ?_)
     simp only [this, if_true]
     exact hg
    ·rename_i hd
     have := BE.decide_ok hr.kn hd
     intro _ hnext
     have hg := gr hcur (hnext ρ ν a as w R0 (fun _ => rfl) L0 (by simp) (by simp) (mv rfl rfl hcur))
     simp only [List.map_cons, SI.conc, at_child hat, Code.at, Option.getD_some] at hg
     refine hgoal (Reach.step (fun b' cs => step_cond hev) ?_)
     simp only [this, Bool.false_eq_true, if_false]
     exact hg
    ·trivial
   ·rename_i id' x hat
    rw [hat] at hgoal
    intro _ hnext
    have hg := gr hcur (hnext ρ ν a as w R0 (fun _ => rfl) L0 (by simp) (by simp) (mv rfl rfl hcur))
    simp only [List.map_cons, SI.conc, at_child hat, Code.at, Option.getD_some] at hg
    exact hgoal (Reach.step (fun b cs => step_block) hg)
   ·rename_i x hat
    rw [hat] at hgoal
    intro _ hnext
    have hg := gr hcur (hnext ρ ν a as w R0 (fun _ => rfl) L0 (by simp) (by simp) (mv rfl rfl hcur))
    simp only [List.map_cons, SI.conc, at_child hat, Code.at, Option.getD_some] at hg
    exact hgoal (Reach.step (fun b cs => step_loop) hg)
   ·rename_i id' hat
    rw [hat] at hgoal
    split
    ·rename_i k' hk'
     intro _ hnext
     exact hgoal (Reach.step (fun b cs => step_exit (exitToS_ok _ _ hk')) (gr hcur (hnext ρ ν a as w R0 (fun _ => rfl) L0 (by simp) (by simp) (mv rfl rfl hcur))))
    ·trivial
   ·rename_i hat
    rw [hat] at hgoal
    exact doRet_ok hT hr fun fn v hfn hres hR => hgoal (Reach.ret hfn hr.top.defers hres hR)
   ·rename_i id' ops hat
    rw [hat] at hgoal
    intro _ hnext
    have hops : T.ops c.top.f p = ops := by unfold Tab.ops; rw [hat]; rfl
    have hg := hnext ρ ν a as w R0 (fun _ => rfl) L0 (by simp) (by simp) ⟨hr.nv, hr.n, hr.agr, hr.kn, hr.gl, hr.hp, hr.wr, hr.own, ⟨hr.top.fr, hr.top.tmps, hr.top.defers, fun p k s d hc => by cases hc⟩, hr.stk, fun p k s hc => by cases hc⟩
    refine hgoal (Reach.region ?_)
    unfold Goal topGoal at hg
    simp only [hops, Nat.sub_zero] at hg
    rw [List.range_eq_range']
    exact hg
   ·rename_i id' ops hat
    rw [hat] at hgoal
    have hops : T.ops c.top.f p = ops := by unfold Tab.ops; rw [hat]; rfl
    split
    ·rename_i s hfind
     obtain ⟨z1, z2, z3, z4⟩ := sched_ok hS hfind
     intro _ hnext
     have hg := hnext ρ ν (a.1, fun w => HpOK ρ ν [] w) as { w with drawn := w.drawn + 1 } R0 (fun _ => rfl) L0 (by simp) (by simp)
      ⟨hr.nv, hr.n, hr.agr, hr.kn, hr.gl, hr.hp.drew _, hr.wr.step rfl rfl rfl (Nat.le_refl _) (fun _ _ _ => rfl), hr.own,
        ⟨hr.top.fr, hr.top.tmps, hr.top.defers, fun p k s d hc w' => by cases hc; exact Iff.rfl⟩, hr.stk, fun p k s hc => by cases hc; simp [wkHp]⟩
     refine hgoal (Reach.draw (S := fun w => HpOK ρ ν [] w) (m := s.lim) hT.mixed ?_)
     unfold Goal topGoal at hg
     simp only [hops] at hg z1 z2 z4
     have h1 := hg.2 (Array.replicate ops.size false) z1 z4
     rw [drGoal_plain z3, z2] at h1
     exact h1
    ·trivial
   ·trivial
end
end Go.Rex
