/- Rex, part M: one operation, symbolically, is right. -/
import Derived.Test.YthomdlajobnmnaaDoorRexL
set_option linter.unusedSimpArgs false
set_option linter.unusedVariables false
namespace Go.Rex

theorem topGoal_congr {P : Program} {T : Tab} {R : Ending → World → Prop} {F F' : SFrame} {a : AS} {w : World} (h1 : F'.f = F.f) (h2 : F'.todo = F.todo) (h3 : F'.cur = F.cur)
  (h : topGoal P T R F a w) : topGoal P T R F' a w := by
 unfold topGoal at *
 rw [h1, h2, h3]
 exact h
theorem put_f (F : SFrame) (d : Option Tmp) (v : SV) : (F.put d v).f = F.f ∧ (F.put d v).todo = F.todo ∧ (F.put d v).cur = F.cur := by cases d <;> exact ⟨rfl, rfl, rfl⟩
theorem adv_f (F : SFrame) (i : Nat) : (F.adv i).f = F.f ∧ (F.adv i).todo = F.todo ∧ (F.adv i).fr = F.fr := by
 unfold SFrame.adv
 split <;> exact ⟨rfl, rfl, rfl⟩
theorem adv_cur {F G : SFrame} (i : Nat) (h : F.cur = G.cur) : (F.adv i).cur = (G.adv i).cur := by
 unfold SFrame.adv
 rw [h]
 split <;> simp_all [advReg, advDr]
theorem adv_held {F : SFrame} {i : Nat} {p : List Nat} {k : Sch} {sc : List SB} {d : Bool} (h : (F.adv i).cur = .dr p k sc d) : d = true ∧ ∃ p' k' d', F.cur = .dr p' k' sc d' := by
 unfold SFrame.adv at h
 split at h
 ·simp [advReg] at h
 ·rename_i p' k' s' d' hc
  simp [advDr] at h
  exact ⟨h.2.2.2, p', k', d', by rw [hc, h.2.2.1]⟩
 ·rename_i hc
  rw [hc] at h; cases h
theorem FOK.put {T : Tab} {ρ : Env} {ν : Nat → Addr} {F : SFrame} {a : Act} {S : World → Prop} (h : FOK T ρ ν F a S) {dst : Option Tmp} (hd : dstOK T F.f dst = true) {v : SV} {x : Value} (hx : x = v.den ρ ν) :
  FOK T ρ ν (F.put dst v) (a.put dst x) S := by
 subst hx
 cases dst with
 | none => exact ⟨h.fr, h.tmps, h.defers, h.held⟩
 | some d =>
  have hlt : d < a.tmps.size := Nat.lt_of_lt_of_le (by simpa [dstOK] using hd) h.tmps
  refine ⟨fun t u ht => ?_, by simpa [SFrame.put, Act.put] using h.tmps, h.defers, fun p k sc d hc => h.held p k sc d hc⟩
  simp only [SFrame.put] at ht
  simp only [Act.put]
  unfold assoc at ht
  split at ht
  ·rename_i he
   simp only [beq_iff_eq] at he
   subst he
   simp at ht
   subst ht
   rw [Array.getD_eq_getD_getElem?]
   simp [hlt]
  ·rename_i he
   simp only [beq_iff_eq] at he
   rw [Array.getD_eq_getD_getElem?, Array.getElem?_setIfInBounds_ne he, ← Array.getD_eq_getD_getElem?]
   exact h.fr t u ht
theorem FOK.advance {T : Tab} {ρ : Env} {ν : Nat → Addr} {F : SFrame} {a : Act} {S : World → Prop} (h : FOK T ρ ν F a S) (i : Nat) : FOK T ρ ν (F.adv i) a S := by
 obtain ⟨h1, h2, h3⟩ := adv_f F i
 refine ⟨by rw [h3]; exact h.fr, by rw [h1]; exact h.tmps, h.defers, fun p k sc d hc => ?_⟩
 obtain ⟨-, p', k', d', hc'⟩ := adv_held hc
 exact h.held p' k' sc d' hc'
abbrev CSem := List (Con × (Env → Prop) × (Env → Prop))
def StepOK (P : Program) (T : Tab) (B : Base) (R : Ending → World → Prop) (cs : CSem) (ρ : Env) (ν : Nat → Addr) (c : Cfg) (a : AS) (as : List AS) (w : World) : SR → Prop
 | .next os fs c' => (∀ b ∈ os, b.den ρ = true) →
   (∀ ρ' ν' a' as' w', Agr c.nv c.hp.length ρ ρ' ν ν' → (fs = [] → ρ' = ρ) → c.nv ≤ c'.nv ∧ c.hp.length ≤ c'.hp.length → (∀ b ∈ os, b.den ρ' = true) → (∀ f ∈ fs, f.den ρ') → Rel T B ρ' ν' c' a' as' w' → Goal P T R c' a' as' w') → Goal P T R c a as w
 | .alt x y => (Rel T B ρ ν x a as w → Goal P T R x a as w) → (Rel T B ρ ν y a as w → Goal P T R y a as w) → Goal P T R c a as w
 | .call os g σ c' => (∀ b ∈ os, b.den ρ = true) → ∀ k pre post, cs[g]? = some (k, pre, post) → pre (σ.nenv ρ) →
   (∀ ρ' ν' a' as' w', Agr c.nv c.hp.length ρ ρ' ν ν' → c.nv ≤ c'.nv ∧ c.hp.length ≤ c'.hp.length → (∀ b ∈ os, b.den ρ' = true) → post (conEnv σ k.nv c.nv ρ ρ') → Rel T B ρ' ν' c' a' as' w' → Goal P T R c' a' as' w') → Goal P T R c a as w
 | .ret os v => (∀ b ∈ os, b.den ρ = true) → (c.stk = [] → R (.returned (v.den ρ ν)) w) → Goal P T R c a as w
 | _ => True
theorem contQ_panic {P : Program} {f : FuncId} {R : Ending → World → Prop} {k : List Item} {c : List PanicEntry} {a a' : Act} {w w' : World} (h : contQ P f R k (.panic c) a w) : contQ P f R k (.panic c) a' w' := by
 cases h.1
theorem argsFr_ok {ρ : Env} {ν : Nat → Addr} : ∀ {args : List SW} {i : Nat} {t : Nat} {v : SV}, assoc t (argsFr args i) = some v → ∃ k x, t = i + k ∧ args[k]? = some x ∧ v = .w x
 | [], i, t, v, h => by simp [argsFr, assoc] at h
 | x :: r, i, t, v, h => by
  simp only [argsFr] at h
  unfold assoc at h
  split at h
  ·rename_i he
   simp only [beq_iff_eq] at he
   simp at h
   exact ⟨0, x, by omega, rfl, h.symm⟩
  ·obtain ⟨k, y, h1, h2, h3⟩ := argsFr_ok (ρ := ρ) (ν := ν) h
   exact ⟨k + 1, y, by omega, by simpa using h2, h3⟩


theorem HpOK.pushD {ρ : Env} {ν : Nat → Addr} {hp : List SB} {w : World} (h : HpOK ρ ν hp w) {sb : SB} (hp' : sb.dead ρ = false → ν hp.length = ⟨(ν hp.length).block, 0, none⟩ ∧ (∃ arr, IsObj w.heap[(ν hp.length).block]? sb.t arr ∧ sb.has ρ ν arr) ∧
    ∀ (k : Nat) (s : SB), hp[k]? = some s → s.dead ρ = false → (ν k).block ≠ (ν hp.length).block) (hr : sb.ro = false) : HpOK ρ ν (hp ++ [sb]) w := by
 cases hd : sb.dead ρ with
 | false =>
  obtain ⟨h0, ⟨arr, h1, h2⟩, h3⟩ := hp' hd
  exact h.push h0 h1 h2 hr h3
 | true =>
  have cas : ∀ (i : Nat) (a : SB), (hp ++ [sb])[i]? = some a → a.dead ρ = false → hp[i]? = some a := by
   intro i a hi ha
   rw [List.getElem?_append] at hi
   split at hi
   ·exact hi
   ·rw [List.getElem?_singleton] at hi
    split at hi
    ·simp at hi
     subst hi
     rw [hd] at ha; cases ha
    ·cases hi
  exact ⟨fun i j x y hi hj gx gy rx he => h.inj i j x y (cas i x hi gx) (cas j y hj gy) gx gy rx he, fun k s hk hg hr => h.blk k s (cas k s hk hg) hg hr, fun k s hk hg hr => h.rd k s (cas k s hk hg) hg hr⟩
theorem findCon_ok {f : FuncId} {as : List SW} : ∀ {l : List Con} {i g : Nat} {k : Con}, findCon f as l i = some (g, k) → k.f = f ∧ i ≤ g ∧ l[g - i]? = some k
 | [], _, _, _, h => by simp [findCon] at h
 | c :: r, i, g, k, h => by
  unfold findCon at h
  split at h
  ·rename_i hc
   simp only [Option.some.injEq, Prod.mk.injEq] at h
   obtain ⟨rfl, rfl⟩ := h
   simp only [Bool.and_eq_true, beq_iff_eq] at hc
   exact ⟨hc.1, Nat.le_refl _, by simp⟩
  ·obtain ⟨h1, h2, h3⟩ := findCon_ok h
   refine ⟨h1, by omega, ?_⟩
   rw [show g - i = (g - (i + 1)) + 1 by omega]
   simpa using h3
theorem mGl_at {σ : Sub} {gl : List (Nat × Nat)} : ∀ {l : List (Nat × Nat)}, mGl σ gl l = true → ∀ g k, assoc g l = some k → ∃ b, assoc g gl = some b ∧ mBk σ k b = true
 | [], _, g, k, h => by simp [assoc] at h
 | (g0, k0) :: r, h, g, k, hk => by
  simp only [mGl, Bool.and_eq_true] at h
  unfold assoc at hk
  split at hk
  ·rename_i he
   simp only [beq_iff_eq] at he
   subst he
   simp at hk
   subst hk
   obtain ⟨h1, -⟩ := h
   split at h1
   ·rename_i b hb
    exact ⟨b, hb, h1⟩
   ·cases h1
  ·exact mGl_at h.2 g k hk
theorem mGl_ok {σ : Sub} {ρ : Env} {ν : Nat → Addr} {gl : List (Nat × Nat)} (hg : GlOK ν gl) {l : List (Nat × Nat)} (h : mGl σ gl l = true) : GlOK (σ.adr ρ ν) l := by
 refine ⟨fun g k h0 hk => ?_, fun g g' k k' h1 h2 h3 h4 hne => ?_⟩
 ·obtain ⟨b, hb, hm⟩ := mGl_at h g k hk
  rw [mBk_ok hm]
  exact hg.at_ _ b h0 hb
 ·obtain ⟨b, hb, hm⟩ := mGl_at h g k h3
  obtain ⟨b', hb', hm'⟩ := mGl_at h g' k' h4
  rw [mBk_ok hm, mBk_ok hm']
  exact hg.ne g g' b b' h1 h2 hb hb' hne
theorem conEnv_eq {σ : Sub} {m d : Nat} {ρ ρp : Env} {ν νp : Nat → Addr} {n : Nat} (hA : Agr m n (σ.env ρ ν) ρp (σ.adr ρ ν) νp) : conEnv σ m d ρ (postEnv d m ρ ρp) = ρp.num := by
 simp only [conEnv, Env.num, Env.mk.injEq, true_and, and_true]
 have hh : ∀ i, m ≤ i → ¬ (i - m + d < d) ∧ i - m + d - d + m = i := fun i hi => by omega
 refine ⟨?_, ?_, ?_, ?_⟩ <;> funext i <;> split
 ·rename_i hi; rw [hA.iv i hi]; rfl
 ·rename_i hi; obtain ⟨q1, q2⟩ := hh i (by omega); simp only [postEnv]; rw [if_neg q1, q2]
 ·rename_i hi; rw [hA.bv i hi]; rfl
 ·rename_i hi; obtain ⟨q1, q2⟩ := hh i (by omega); simp only [postEnv]; rw [if_neg q1, q2]
 ·rename_i hi; rw [hA.ic i hi]; rfl
 ·rename_i hi; obtain ⟨q1, q2⟩ := hh i (by omega); simp only [postEnv]; rw [if_neg q1, q2]
 ·rename_i hi; rw [hA.bc i hi]; rfl
 ·rename_i hi; obtain ⟨q1, q2⟩ := hh i (by omega); simp only [postEnv]; rw [if_neg q1, q2]

section
variable {P : Program} {T : Tab} {B : Base} {R : Ending → World → Prop} {E : Ex} {cs : CSem} {ρ : Env} {ν : Nat → Addr} {c : Cfg} {a : AS} {as : List AS} {w : World}
theorem doOp_ok (hT : TabOK P T) (hE : E.cons = cs.map (·.1)) (hC : ∀ k pre post, (k, pre, post) ∈ cs → conWf k = true ∧ ConOK P k pre post) (hr : Rel T B ρ ν c a as w) {p : List Nat} (hcur : c.top.pth = p)
  {i : Nat} {adv : SFrame → SFrame} (hadv : ∀ F : SFrame, F.cur = c.top.cur → adv F = F.adv i) {Q : Exit → Act → World → Prop} {K : Act → World → Prop}
  (hK : ∀ (F' : SFrame) (a' : Act) (w' : World), F'.f = c.top.f → F'.todo = c.top.todo → F'.cur = (c.top.adv i).cur → topGoal P T (RK P T R c.stk as) F' (a', a.2) w' → K a' w')
  (hG : wpOp P (T.ops c.top.f p) Q i K a.1 w → Goal P T R c a as w) :
  StepOK P T B R cs ρ ν c a as w (doOp T E c (T.ops c.top.f p) i adv) := by
 have hput : ∀ (d : Option Tmp) (v : SV), adv (c.top.put d v) = (c.top.put d v).adv i := fun d v => hadv _ (put_f _ _ _).2.2
 have hheld : ∀ (d : Option Tmp) (v : SV) p k sc, (adv (c.top.put d v)).cur = .dr p k sc false → False := by
  intro d v p k sc h
  rw [hput] at h
  cases (adv_held h).1
 have hK' : ∀ (c' : Cfg) (d : Option Tmp) (v : SV) (a' : Act) (w' : World), c'.top = adv (c.top.put d v) → c'.stk = c.stk → Goal P T R c' (a', a.2) as w' → K a' w' := by
  intro c' d v a' w' h1 h2 hg
  unfold Goal at hg
  rw [h1, h2, hput] at hg
  obtain ⟨e1, e2, e3⟩ := put_f c.top d v
  obtain ⟨f1, f2, f3⟩ := adv_f (c.top.put d v) i
  exact hK _ a' w' (f1.trans e1) (f2.trans e2) (adv_cur i e3) hg
 have hfok : ∀ {ρ' : Env} {ν' : Nat → Addr}, FOK T ρ' ν' c.top a.1 a.2 → ∀ {d : Option Tmp} {v : SV} {x : Value}, dstOK T c.top.f d = true → x = v.den ρ' ν' → FOK T ρ' ν' (adv (c.top.put d v)) (a.1.put d x) a.2 := by
  intro ρ' ν' hF d v x hd hx
  rw [hput]
  exact (hF.put hd hx).advance i
 unfold doOp
 split
 ·trivial
 rename_i o ho
 split
 ·trivial
 rename_i hdst
 replace hdst : dstOK T c.top.f o.dst = true := by simpa using hdst
 split
 ·trivial
 rename_i g hgc
 have hwant := gcond_ok hr.top.fr hgc
 have hgo : ∀ (w' : World) (K' : Act → World → Prop), wpOp P (T.ops c.top.f p) Q i K' a.1 w' = if g.den ρ then o.wp P a.1 w' K' Q ∨ (o.asks P a.1 w' ∧ LetsOut Q) else K' (a.1.put o.dst undef) w' := by
  intro w' K'
  unfold wpOp
  rw [ho]
  simp only [hwant]
 have same : ∀ (d : Option Tmp) (v : SV) (x : Value) (w' : World), dstOK T c.top.f d = true → x = v.den ρ ν → w' = w → Rel T B ρ ν { c with top := adv (c.top.put d v) } (a.1.put d x, a.2) as w' := by
  intro d v x w' hd hx hw
  subst hw
  exact ⟨hr.nv, hr.n, hr.agr, hr.kn, hr.gl, hr.hp, hr.wr, hr.own, hfok hr.top hd hx, hr.stk, fun p k sc h => (hheld _ _ _ _ _ h).elim⟩
 have R0 := Agr.refl c.nv c.hp.length ρ ν
 have L0 : c.nv ≤ c.nv ∧ c.hp.length ≤ c.hp.length := ⟨Nat.le_refl _, Nat.le_refl _⟩
 split
 ·-- not wanted
  rename_i hdec
  have hg0 := BE.decide_ok hr.kn hdec
  intro _ hnext
  apply hG
  rw [hgo, hg0]
  simp only [Bool.false_eq_true, if_false]
  exact hK' { c with top := adv (c.top.put o.dst (.tup [])) } o.dst (.tup []) _ _ rfl rfl (hnext ρ ν (_, a.2) as w R0 (fun _ => rfl) L0 (by simp) (by simp) (same o.dst (.tup []) undef w hdst rfl rfl))
 ·-- it hangs on something
  rename_i hdec
  split
  ·rename_i x os hpure
   intro hos hnext
   apply hG
   rw [hgo]
   cases hgd : g.den ρ with
   | false =>
    simp only [Bool.false_eq_true, if_false]
    exact hK' { c with top := adv (c.top.put o.dst (.gd g x)) } o.dst (.gd g x) _ _ rfl rfl (hnext ρ ν (_, a.2) as w R0 (fun _ => rfl) L0 hos (by simp) (same o.dst (.gd g x) undef w hdst (by simp [SV.den, hgd]) rfl))
   | true =>
    simp only [if_true]
    refine .inl ?_
    have hrun := pureOp_ok (hT.sw c.top.f) hr.gl (addKn_ok hgd hr.kn) hr.top.fr hr.hp hpure (fun b hb => by
      have := hos (.or g.notS b) (List.mem_map.2 ⟨b, hb, rfl⟩)
      simpa [BE.den, BE.notS_den, hgd] using this)
    unfold Oper.wp
    rw [hrun]
    exact hK' { c with top := adv (c.top.put o.dst (.gd g x)) } o.dst (.gd g x) _ _ rfl rfl (hnext ρ ν (_, a.2) as w R0 (fun _ => rfl) L0 hos (by simp) (same o.dst (.gd g x) _ w hdst (by simp [SV.den, hgd]) rfl))
  ·trivial
 ·rename_i hdec
  have hg1 := BE.decide_ok hr.kn hdec
  have hgo' : wpOp P (T.ops c.top.f p) Q i K a.1 w ↔ (o.wp P a.1 w K Q ∨ (o.asks P a.1 w ∧ LetsOut Q)) := by rw [hgo, hg1]; simp
  have heff0 := effOp_ok (P := P) (ρ := ρ) (ν := ν) (w := w) (a := a.1) (nv := c.nv) (o := o) (hT.sw c.top.f) hr.gl hr.kn hr.top.fr hr.hp
  split
  ·-- a value
   rename_i v os heff
   intro hos hnext
   apply hG
   rw [hgo']
   refine .inl ?_
   rw [heff] at heff0
   unfold Oper.wp
   rw [heff0 hos]
   exact hK' { c with top := adv (c.top.put o.dst v) } o.dst v _ _ rfl rfl (hnext ρ ν (_, a.2) as w R0 (fun _ => rfl) L0 hos (by simp) (same o.dst v _ w hdst rfl rfl))
  ·-- a new block
   rename_i v sb os heff
   split
   ·rename_i hsc
    intro hos hnext
    apply hG
    rw [hgo']
    refine .inl ?_
    have hA := agr_adr1 c.nv c.hp.length ρ ν w.heap.size
    have hν' : adr1 ν c.hp.length w.heap.size c.hp.length = ⟨w.heap.size, 0, none⟩ := by simp [adr1]
    generalize adr1 ν c.hp.length w.heap.size = ν' at hA hν'
    have hr' := hr.ext hsc hA
    have heff1 := effOp_ok (P := P) (ρ := ρ) (ν := ν') (w := w) (a := a.1) (nv := c.nv) (o := o) (hT.sw c.top.f) hr'.gl hr'.kn hr'.top.fr hr'.hp
    rw [heff] at heff1
    obtain ⟨obj, arr, hobj, hhas, hro, hrun⟩ := heff1 hν' hos
    unfold Oper.wp
    rw [hrun]
    have hnew : (w.alloc obj).heap[w.heap.size]? = some obj := heap_alloc_new w _
    have hold : ∀ k, k < w.heap.size → (w.alloc obj).heap[k]? = w.heap[k]? := fun k hk => heap_alloc_old w _ hk
    have hlive : ∀ (k : Nat) (s : SB), c.hp[k]? = some s → s.dead ρ = false → (ν' k).block < w.heap.size := fun k s hk hg => hr'.hp.lt hk hg
    refine hK' { c with hp := c.hp ++ [sb], top := adv (c.top.put o.dst v) } o.dst v _ _ rfl rfl (hnext ρ ν' (_, a.2) as _ hA (fun _ => rfl) ⟨Nat.le_refl _, by simp⟩ hos (by simp) ⟨hr'.nv, ?_, hr'.agr, hr'.kn, hr'.gl, ?_, ?_, ?_, hfok hr'.top hdst rfl, hr'.stk, fun p k sc h => (hheld _ _ _ _ _ h).elim⟩)
    ·simp only [List.length_append]
     have := hr'.n
     omega
    ·refine HpOK.push (hr'.hp.keep (by simp) fun k s hk hg => hold _ (hlive k s hk hg)) (by rw [hν']) (by rw [hν', hnew]; exact hobj) hhas hro fun k s hk hg => ?_
     rw [hν']
     exact Nat.ne_of_lt (hlive k s hk hg)
    ·exact hr'.wr.step rfl rfl rfl (by simp) fun k hk _ => hold k (Nat.lt_of_lt_of_le hk hr'.wr.size)
    ·intro k s hk hso hsd
     simp only at hk
     rw [List.getElem?_append] at hk
     split at hk
     ·exact hr'.own k s hk hso hsd
     ·rename_i hge
      rw [List.getElem?_singleton] at hk
      split at hk
      ·have : k = c.hp.length := by omega
       subst this
       rw [hν']
       exact .inl hr'.wr.size
      ·cases hk
   ·trivial
  ·-- a store
   rename_i b sb os heff
   intro hos hnext
   apply hG
   rw [hgo']
   refine .inl ?_
   rw [heff] at heff0
   obtain ⟨r0, w', sb0, hr0, hsb0, hown, hd0, hrun, hO, hhp⟩ := heff0 hos
   unfold Oper.wp
   rw [hrun]
   have hlt : b < c.hp.length := (List.getElem?_eq_some_iff.1 hsb0).1
   rcases hr0 with rfl | rfl
   all_goals
    refine hK' { c with hp := c.hp.set b sb, top := adv (c.top.put o.dst (.tup [])) } o.dst (.tup []) _ _ rfl rfl (hnext ρ ν (_, a.2) as _ R0 (fun _ => rfl) ⟨Nat.le_refl _, by simp⟩ hos (by simp) ⟨hr.nv, ?_, hr.agr, hr.kn, hr.gl, hhp, ?_, ?_, hfok hr.top hdst rfl, hr.stk, fun p k sc h => (hheld _ _ _ _ _ h).elim⟩)
    ·simp only [List.length_set]; exact hr.n
    ·refine hr.wr.step hO.os hO.tape hO.output (by rw [hO.size]; exact Nat.le_refl _) fun k hk hn => hO.block k fun e => ?_
     rcases hr.own b sb0 hsb0 hown hd0 with h | h
     ·omega
     ·rw [← e] at h; exact hn h
    ·intro k s hk hso hsd
     simp only at hk
     by_cases hkb : b = k
     ·subst hkb
      exact hr.own b sb0 hsb0 hown hd0
     ·rw [List.getElem?_set_ne hkb] at hk
      exact hr.own k s hk hso hsd
  ·-- append
   rename_i b v sb k fs os heff
   split
   ·rename_i hsc
    simp only [Bool.and_eq_true] at hsc
    obtain ⟨⟨hsc, hbs⟩, hmap⟩ := hsc
    intro hos hnext
    apply hG
    rw [hgo']
    refine .inl ?_
    rw [heff] at heff0
    obtain ⟨vr, w', hrun, hne0, g', ρ', ob, hA, hvr, hfs, hro, hgrow, hob, hlive⟩ := heff0 hos
    have hν' : adr1 ν c.hp.length g' c.hp.length = ⟨g', 0, none⟩ := by simp [adr1]
    generalize adr1 ν c.hp.length g' = ν' at hA hν' hvr hlive
    have hr' := hr.ext hsc hA
    have hsc' := hsc
    simp only [Cfg.sc, Bool.and_eq_true] at hsc'
    have hhpsc := hsc'.1.1.1.2
    have hlt : ∀ (k : Nat) (s : SB), c.hp[k]? = some s → s.dead ρ' = false → (ν' k).block < w.heap.size := fun k s hk hg => hr'.hp.lt hk hg
    -- the block that is used up
    have hob' : ∀ o', ob = some o' → ∃ j sb0, b = some j ∧ o' = (ν' j).block ∧ c.hp[j]? = some sb0 ∧ sb0.dead ρ' = false ∧ sb0.ro = false ∧ sb0.own = true := by
     intro o' ho'
     rcases hob with h | ⟨j, sb0, h1, h2, h3, h4, h5, h6⟩
     ·rw [h] at ho'; cases ho'
     ·rw [h2] at ho'
      cases ho'
      refine ⟨j, sb0, h1, ?_, h3, by rwa [SB.sc_dead hA (hpSc_at hhpsc j sb0 h3)], h5, h6⟩
      rw [hA.bl j (List.getElem?_eq_some_iff.1 h3).1]
    have old : ∀ (k : Nat) (s : SB), (dropBlk b c.hp)[k]? = some s → s.dead ρ' = false → c.hp[k]? = some s ∧ b ≠ some k := by
     intro k s hk hg
     cases b with
     | none => exact ⟨hk, by simp⟩
     | some j =>
      simp only [dropBlk] at hk
      rw [List.getElem?_modify] at hk
      cases hx : c.hp[k]? with
      | none => simp [hx] at hk
      | some x =>
       by_cases hjk : j = k
       ·simp [hx, hjk] at hk
        subst hk
        simp [SB.dead] at hg
       ·simp [hx, hjk] at hk
        exact ⟨by rw [hk], by simpa using hjk⟩
    have hne : ∀ (k : Nat) (s : SB), (dropBlk b c.hp)[k]? = some s → s.dead ρ' = false → ob ≠ some (ν' k).block := by
     intro k s hk hg he
     obtain ⟨h1, h2⟩ := old k s hk hg
     obtain ⟨j, sb0, e1, e2, e3, e4, e5, e6⟩ := hob' _ he
     have := hr'.hp.inj j k sb0 s e3 h1 e4 hg e5 e2.symm
     subst this
     exact h2 e1
    have hlen : (dropBlk b c.hp).length = c.hp.length := by cases b <;> simp [dropBlk]
    unfold Oper.wp
    rw [hrun]
    refine hK' { c with nv := c.nv + k, hp := dropBlk b c.hp ++ [sb], top := adv (c.top.put o.dst v) } o.dst v _ _ rfl rfl
     (hnext ρ' ν' (_, a.2) as _ hA (fun h => ?_) ⟨Nat.le_add_right _ _, by simp only [List.length_append]; omega⟩ (fun x hx => by rw [bs_den hA hbs x hx]; exact hos x hx) hfs ⟨Nat.le_trans hr'.nv (Nat.le_add_right _ _), ?_, hr'.agr, hr'.kn, hr'.gl, ?_, ?_, ?_, hfok hr'.top hdst hvr, hr'.stk, fun p k sc h => (hheld _ _ _ _ _ h).elim⟩)
    ·exact absurd h hne0
    ·simp only [List.length_append]
     have := hr'.n
     omega
    ·have hbase : HpOK ρ' ν' (dropBlk b c.hp) w' := by
      have hdrop : HpOK ρ' ν' (dropBlk b c.hp) w := by
       cases b with
       | none => exact hr'.hp
       | some j => exact hr'.hp.drop j
      refine hdrop.keep hgrow.size fun k s hk hg => ?_
      exact hgrow.block _ (hlt k s (old k s hk hg).1 hg) fun e => hne k s hk hg e.symm
     refine hbase.pushD (fun hd => ?_) hro
     obtain ⟨⟨cur, h1, h2⟩, h3⟩ := hlive hd
     rw [hlen, hν']
     refine ⟨rfl, ⟨cur, by rw [h1]; exact IsObj.of_cells (by simpa [SB.isMap] using hmap), h2⟩, fun k s hk hg => ?_⟩
     rcases h3 with h3 | h3
     ·intro e; exact hne k s hk hg (by rw [h3, e])
     ·rw [h3]; exact Nat.ne_of_lt (hlt k s (old k s hk hg).1 hg)
    ·refine hr'.wr.step hgrow.os hgrow.tape hgrow.output hgrow.size fun k hk hn => hgrow.block k (Nat.lt_of_lt_of_le hk hr'.wr.size) fun e => ?_
     obtain ⟨j, sb0, e1, e2, e3, e4, e5, e6⟩ := hob' k e.symm
     rcases hr'.own j sb0 e3 e6 e4 with h | h
     ·omega
     ·rw [← e2] at h; exact hn h
    ·intro k s hk hso hsd
     simp only at hk
     rw [List.getElem?_append, hlen] at hk
     split at hk
     ·obtain ⟨h1, -⟩ := old k s hk hsd
      exact hr'.own k s h1 hso hsd
     ·rename_i hge
      rw [List.getElem?_singleton] at hk
      split at hk
      ·have : k = c.hp.length := by omega
       subst this
       simp at hk
       subst hk
       rw [hν']
       obtain ⟨-, h3⟩ := hlive hsd
       rcases h3 with h3 | h3
       ·obtain ⟨j, sb0, e1, e2, e3, e4, e5, e6⟩ := hob' _ h3
        have := hr'.own j sb0 e3 e6 e4
        rw [← e2] at this
        exact this
       ·rw [h3]; exact .inl hr'.wr.size
      ·cases hk
   ·trivial
  ·-- a call
   rename_i f args heff
   split
   ·-- by contract
    rename_i g' k' hfind
    split
    ·rename_i hsc
     split
     ·rename_i σ os v c' hby
      split
      ·rename_i hbs
       intro hos kk pre post hcs hpre hnext
       apply hG
       rw [hgo']
       refine .inl ?_
       rw [heff] at heff0
       obtain ⟨hkf, -, hkat⟩ := findCon_ok hfind
       rw [hE, Nat.sub_zero, List.getElem?_map, hcs] at hkat
       simp at hkat
       subst hkat
       obtain ⟨hwf, hcon⟩ := hC kk pre post (List.mem_of_getElem? hcs)
       unfold byCon at hby
       simp only at hby
       split at hby
       case isFalse => cases hby
       rename_i hchk
       simp only [Bool.and_eq_true, beq_iff_eq] at hchk
       obtain ⟨⟨⟨⟨k1, k2⟩, k3⟩, k4⟩, k5⟩ := hchk
       split at hby
       ·cases hby
       rename_i os1 hinst
       split at hby
       case h_2 => cases hby
       rename_i hpO new vv hpost hnew hret
       simp only [Option.some.injEq, Prod.mk.injEq] at hby
       obtain ⟨rfl, rfl, rfl, rfl⟩ := hby
       generalize uHp2 (uGl (uSWs { lo := 0, lob := 0 } kk.args args) c.gl kk.gl) c.hp kk.hp = σ at *
       have hsc' := hsc
       simp only [Cfg.sc, Bool.and_eq_true] at hsc'
       obtain ⟨⟨⟨⟨s1, s2⟩, s3⟩, s4⟩, s5⟩ := hsc'
       have hhp0 := inst_ok (ν := ν) hinst hos hr.hp
       obtain ⟨fn, hfn, hfb, hfname⟩ : ∃ fn, P.funcs[f]? = some fn ∧ fn.body.isSome = true ∧ (fn.name == "runtime.NumGoroutine") = false := hkf ▸ hcon.fn
       have hrun := heff0 fn hfn hfb hfname
       unfold Oper.wp
       rw [hrun]
       have hargs : (kk.args.map (·.den (σ.env ρ ν) (σ.adr ρ ν))).toArray = (args.map (·.den ρ ν)).toArray := by rw [mSWs_ok k3]
       have hcall := hcon.run (σ.env ρ ν) (σ.adr ρ ν) w hhp0 (mGl_ok hr.gl k4) hpre
       rw [hargs, hkf] at hcall
       refine Calls.mono hcall fun e w' he => ?_
       obtain ⟨ρp, νp, hA, rfl, hP, hW, hO, hpo⟩ := he
       have H := post_trd (d := c.nv) (n0 := c.hp.length) k1 k2 k5 hA
       obtain ⟨q1, q2, q3, q4⟩ := call_hp hwf k1 k2 hinst hos k5 s2 hr.hp hr.own hr.wr.size hA hP hW hO hpost hnew
       have hag := post_agr c.nv kk.nv c.hp.length kk.hp.length ρ ρp ν νp
       have hr' := hr.ext hsc hag
       have hnewl := (trSBs_at hnew).1
       refine hK' { c with nv := c.nv + (kk.nv' - kk.nv), hp := hpO ++ new, top := adv (c.top.put o.dst vv) } o.dst vv _ _ rfl rfl
        (hnext _ _ (_, a.2) as _ hag ⟨Nat.le_add_right _ _, by simp only [List.length_append]; omega⟩ (fun x hx => by rw [bs_den hag hbs x hx]; exact hos x hx) (by rw [conEnv_eq hA]; exact hpo)
          ⟨Nat.le_trans hr'.nv (Nat.le_add_right _ _), ?_, hr'.agr, hr'.kn, hr'.gl, q1, ?_, q2, hfok hr'.top hdst (SV.tr_den H hret).symm, hr'.stk, fun p k sc h => (hheld _ _ _ _ _ h).elim⟩)
       ·simp only [List.length_append]
        have := hr.n
        omega
       ·refine hr.wr.step hW.os hW.tape hW.output hW.size fun k hk hn => hW.block k (Nat.lt_of_lt_of_le hk hr.wr.size) fun hb => ?_
        rcases q4 k hb with h | h
        ·omega
        ·exact hn h
      ·trivial
     ·trivial
    ·trivial
   ·split
    ·rename_i fn hfn
     split
     ·rename_i hcond
      simp only [Bool.and_eq_true, Bool.not_eq_true', decide_eq_true_eq] at hcond
      obtain ⟨⟨hb, hn⟩, hlen⟩ := hcond
      intro _ hnext
      apply hG
      rw [hgo']
      refine .inl ?_
      have hPf := hT.fns f fn (hT.f_mem hfn)
      rw [heff] at heff0
      unfold Oper.wp
      rw [heff0 fn hPf hb hn]
      obtain ⟨body, hbody⟩ := Option.isSome_iff_exists.1 hb
      refine Reach.calls hPf hbody ?_
      have hg := hnext ρ ν ({ tmps := (args.map (·.den ρ ν)).toArray ++ Array.replicate (fn.ntmps - (args.map (·.den ρ ν)).toArray.size) undef, defers := [] }, fun _ => True) (a :: as) w R0 (fun _ => rfl) L0 (by simp) (by simp)
       ⟨hr.nv, hr.n, hr.agr, hr.kn, hr.gl, hr.hp, hr.wr, hr.own, ⟨?_, ?_, rfl, fun p k sc d hc => by cases hc⟩, ⟨hr.top, hr.stk⟩, fun p k sc hc => by cases hc⟩
      ·have hbd : T.body f = body := by
        unfold Tab.body
        rw [show T.f f = some fn from hfn]
        simp [hbody]
       unfold Goal topGoal at hg
       simp only [List.map_cons, List.map_nil, SI.conc, hbd, Code.at, Option.getD_some] at hg
       refine Reach.mono hg fun e w' he => ?_
       obtain ⟨v, rfl, hgo2⟩ := he
       have hdeq : ((T.ops c.top.f c.top.pth)[i]?).bind (·.dst) = o.dst := by
        rw [hcur, ho]
        rfl
       rw [hdeq] at hgo2
       exact hK _ _ _ (adv_f _ _).1 (adv_f _ _).2.1 rfl hgo2
      ·intro t v ht
       obtain ⟨k, x, rfl, hx, rfl⟩ := argsFr_ok (ρ := ρ) (ν := ν) ht
       have hk : k < args.length := (List.getElem?_eq_some_iff.1 hx).1
       rw [Array.getD_eq_getD_getElem?, Array.getElem?_append]
       simp [hk, SV.den, (List.getElem?_eq_some_iff.1 hx).2]
      ·have : T.ntmps f = fn.ntmps := by
        unfold Tab.ntmps
        rw [show T.f f = some fn from hfn]
        rfl
       rw [this]
       simp
       omega
     ·trivial
    ·trivial
  ·trivial
  ·trivial
end
end Go.Rex
