/- Rex, part O: the run is right. -/
import Derived.Test.YthomdlajobnmnaaDoorRexN
set_option linter.unusedSimpArgs false
set_option linter.unusedVariables false
namespace Go.Rex

/-! ### sameness -/
theorem siSame_eq {a b : SI} (h : siSame a b = true) : a = b := by cases a <;> cases b <;> simp_all [siSame]
theorem sisSame_eq : ∀ {a b : List SI}, sisSame a b = true → a = b
 | [], [], _ => rfl
 | [], _ :: _, h => by simp [sisSame] at h
 | _ :: _, [], h => by simp [sisSame] at h
 | a :: r, b :: s, h => by
  simp only [sisSame, Bool.and_eq_true] at h
  rw [siSame_eq h.1, sisSame_eq h.2]
theorem swsSame_eq : ∀ {a b : List SW}, swsSame a b = true → a = b
 | [], [], _ => rfl
 | [], _ :: _, h => by simp [swsSame] at h
 | _ :: _, [], h => by simp [swsSame] at h
 | a :: r, b :: s, h => by
  simp only [swsSame, Bool.and_eq_true] at h
  rw [SW.same_eq h.1, swsSame_eq h.2]
theorem SV.same_eq {a b : SV} (h : a.same b = true) : a = b := by
 cases a <;> cases b <;> simp only [SV.same] at h <;> try cases h
 ·rw [SW.same_eq h]
 ·rw [swsSame_eq h]
 ·simp only [Bool.and_eq_true] at h
  rw [BE.same_eq h.1, SW.same_eq h.2]
theorem frSame_eq : ∀ {a b : Fr}, frSame a b = true → a = b
 | [], [], _ => rfl
 | [], _ :: _, h => by simp [frSame] at h
 | _ :: _, [], h => by simp [frSame] at h
 | (t, a) :: r, (u, b) :: s, h => by
  simp only [frSame, Bool.and_eq_true, beq_iff_eq] at h
  rw [h.1.1, SV.same_eq h.1.2, frSame_eq h.2]
theorem Sch.same_eq : ∀ {a b : Sch}, a.same b = true → a = b := by
 intro a
 induction a with
 | nil c => intro b h; cases b <;> simp [Sch.same] at h; rw [optSame_eq h]
 | take i D k ih => intro b h; cases b <;> simp [Sch.same] at h; rw [h.1.1, h.1.2, ih h.2]
 | drop k ih => intro b h; cases b <;> simp [Sch.same] at h; rw [ih h]
 | solo i k ih => intro b h; cases b <;> simp [Sch.same] at h; rw [h.1, ih h.2]
 | go i k ih => intro b h; cases b <;> simp [Sch.same] at h; rw [h.1, ih h.2]
 | alt i k j l ihk ihl => intro b h; cases b <;> simp [Sch.same] at h; rw [h.1.1.1, ihk h.1.1.2, h.1.2, ihl h.2]
theorem SB.same_eq {a b : SB} (h : a.same b = true) : a = b := by
 obtain ⟨_, _, _, _, _, _, _, _, _, _⟩ := a
 obtain ⟨_, _, _, _, _, _, _, _, _, _⟩ := b
 simp only [SB.same, Bool.and_eq_true, beq_iff_eq] at h
 obtain ⟨⟨⟨⟨⟨⟨⟨⟨⟨h1, h2⟩, h3⟩, h4⟩, h5⟩, h6⟩, h7⟩, h8⟩, h9⟩, h10⟩ := h
 simp only [SB.mk.injEq]
 exact ⟨h7, sameL_eq h4, segsSame_eq h5, upsSame_eq h6, h1, h3, capSame_eq h9, h8, h2, BE.same_eq h10⟩
theorem hpSame_eq : ∀ {a b : List SB}, hpSame a b = true → a = b
 | [], [], _ => rfl
 | [], _ :: _, h => by simp [hpSame] at h
 | _ :: _, [], h => by simp [hpSame] at h
 | a :: r, b :: s, h => by
  simp only [hpSame, Bool.and_eq_true] at h
  rw [SB.same_eq h.1, hpSame_eq h.2]
theorem Cur.same_eq {a b : Cur} (h : a.same b = true) : a = b := by
 cases a <;> cases b <;> simp only [Cur.same] at h <;> try cases h
 ·rfl
 ·simp only [Bool.and_eq_true, beq_iff_eq] at h
  rw [h.1, h.2]
 ·simp only [Bool.and_eq_true, beq_iff_eq] at h
  rw [h.1.1.1, Sch.same_eq h.1.1.2, hpSame_eq h.1.2, h.2]
theorem SFrame.same_eq {a b : SFrame} (h : a.same b = true) : a = b := by
 obtain ⟨_, _, _, _⟩ := a
 obtain ⟨_, _, _, _⟩ := b
 simp only [SFrame.same, Bool.and_eq_true, beq_iff_eq] at h
 obtain ⟨⟨⟨h1, h2⟩, h3⟩, h4⟩ := h
 rw [h1, frSame_eq h2, Cur.same_eq h3, sisSame_eq h4]
theorem stkSame_eq : ∀ {a b : List (SFrame × Nat)}, stkSame a b = true → a = b
 | [], [], _ => rfl
 | [], _ :: _, h => by simp [stkSame] at h
 | _ :: _, [], h => by simp [stkSame] at h
 | (F, i) :: r, (G, j) :: s, h => by
  simp only [stkSame, Bool.and_eq_true, beq_iff_eq] at h
  rw [SFrame.same_eq h.1.1, h.1.2, stkSame_eq h.2]
theorem glSame_eq : ∀ {a b : List (Nat × Nat)}, glSame a b = true → a = b
 | [], [], _ => rfl
 | [], _ :: _, h => by simp [glSame] at h
 | _ :: _, [], h => by simp [glSame] at h
 | (x, i) :: r, (y, j) :: s, h => by
  simp only [glSame, Bool.and_eq_true, beq_iff_eq] at h
  rw [h.1.1, h.1.2, glSame_eq h.2]
theorem isNone_eq {c : Cur} (h : c.isNone = true) : c = .none := by cases c <;> simp_all [Cur.isNone]

/-! ### what a step leaves as it is -/
theorem byCon_kn {k : Con} {c c' : Cfg} {args : List SW} {σ : Sub} {os : List BE} {v : SV} (h : byCon k c args = some (σ, os, v, c')) : c'.kn = c.kn := by
 unfold byCon at h
 simp only at h
 split at h
 ·split at h
  ·cases h
  ·split at h
   ·cases h; rfl
   ·cases h
 ·cases h
theorem doOp_kn {T : Tab} {E : Ex} {c c' : Cfg} {ops : Array Oper} {i : Nat} {adv : SFrame → SFrame} : (∀ os fs, doOp T E c ops i adv = .next os fs c' → c'.kn = c.kn) ∧ (∀ os g σ, doOp T E c ops i adv = .call os g σ c' → c'.kn = c.kn) ∧ ∀ x y, doOp T E c ops i adv ≠ .alt x y := by
 refine ⟨fun os fs h => ?_, fun os g σ h => ?_, fun x y h => ?_⟩
 all_goals unfold doOp at h
 all_goals repeat' split at h
 all_goals first | (cases h; done) | (cases h; rfl) | skip
 rename_i hby _
 cases h
 have := byCon_kn hby
 exact this
theorem doTake_kn {T : Tab} {c c' : Cfg} {ops : Array Oper} {i D : Nat} {p : List Nat} {k : Sch} {sc : List SB} : (∀ os fs, doTake T c ops i D p k sc = .next os fs c' → c'.kn = c.kn) ∧ (∀ os g σ, doTake T c ops i D p k sc ≠ .call os g σ c') ∧ ∀ x y, doTake T c ops i D p k sc ≠ .alt x y := by
 refine ⟨fun os fs h => ?_, fun os g σ h => ?_, fun x y h => ?_⟩
 all_goals unfold doTake at h
 all_goals repeat' split at h
 all_goals first | (cases h; done) | (cases h; rfl)
theorem doRet_kn {T : Tab} {c c' : Cfg} : (∀ os fs, doRet T c = .next os fs c' → c'.kn = c.kn) ∧ (∀ os g σ, doRet T c ≠ .call os g σ c') ∧ ∀ x y, doRet T c ≠ .alt x y := by
 refine ⟨fun os fs h => ?_, fun os g σ h => ?_, fun x y h => ?_⟩
 all_goals unfold doRet at h
 all_goals repeat' split at h
 all_goals try simp only at h
 all_goals repeat' split at h
 all_goals first | (cases h; done) | (cases h; rfl)
theorem doDr_kn {T : Tab} {E : Ex} {c c' : Cfg} {p : List Nat} {k : Sch} {sc : List SB} {d : Bool} : (∀ os fs, doDr T E c p k sc d = .next os fs c' → c'.kn = c.kn) ∧ (∀ os g σ, doDr T E c p k sc d = .call os g σ c' → c'.kn = c.kn) ∧
  ∀ x y, doDr T E c p k sc d = .alt x y → (x.nv = c.nv ∧ x.hp = c.hp) ∧ y.nv = c.nv ∧ y.hp = c.hp := by
 refine ⟨fun os fs h => ?_, fun os g σ h => ?_, fun x y h => ?_⟩
 all_goals unfold doDr at h
 all_goals simp only at h
 all_goals repeat' split at h
 all_goals first | (cases h; done) | (cases h; rfl) | exact doOp_kn.1 _ _ h | exact doOp_kn.2.1 _ _ _ h | exact absurd h (doOp_kn (c' := c').2.2 _ _) | exact doTake_kn.1 _ _ h | exact absurd h (doTake_kn.2.1 _ _ _) | exact absurd h (doTake_kn (c' := c').2.2 _ _) | (cases h; exact ⟨⟨rfl, rfl⟩, rfl, rfl⟩)
theorem stepC_all {T : Tab} {E : Ex} {c c' : Cfg} : (∀ os fs, stepC T E c = .next os fs c' → c'.kn = c.kn) ∧ (∀ os g σ, stepC T E c = .call os g σ c' → c'.kn = c.kn) ∧
  ∀ x y, stepC T E c = .alt x y → (x.nv = c.nv ∧ x.hp = c.hp) ∧ y.nv = c.nv ∧ y.hp = c.hp := by
 refine ⟨fun os fs h => ?_, fun os g σ h => ?_, fun x y h => ?_⟩
 all_goals unfold stepC at h
 all_goals simp only at h
 all_goals repeat' split at h
 all_goals first | (cases h; done) | (cases h; rfl) | exact doOp_kn.1 _ _ h | exact doOp_kn.2.1 _ _ _ h | exact absurd h (doOp_kn (c' := c').2.2 _ _) | exact doDr_kn.1 _ _ h | exact doDr_kn.2.1 _ _ _ h | exact doDr_kn (c' := c').2.2 _ _ h | exact doRet_kn.1 _ _ h | exact absurd h (doRet_kn.2.1 _ _ _) | exact absurd h (doRet_kn (c' := c').2.2 _ _)
theorem stepC_kn {T : Tab} {E : Ex} {c c' : Cfg} {os : List BE} {fs : List QF} (h : stepC T E c = .next os fs c') : c'.kn = c.kn := stepC_all.1 _ _ h
theorem stepC_knC {T : Tab} {E : Ex} {c c' : Cfg} {os : List BE} {g : Nat} {σ : Sub} (h : stepC T E c = .call os g σ c') : c'.kn = c.kn := stepC_all.2.1 _ _ _ h
theorem stepC_alt {T : Tab} {E : Ex} {c x y : Cfg} (h : stepC T E c = .alt x y) : x.nv = c.nv ∧ x.hp = c.hp ∧ y.nv = c.nv ∧ y.hp = c.hp := by
 obtain ⟨⟨a, b⟩, c, d⟩ := stepC_all (c' := x).2.2 _ _ h
 exact ⟨a, b, c, d⟩
section
variable {P : Program} {T : Tab} {B : Base} {R : Ending → World → Prop} {E : Ex} {cs : CSem} {inf : List (List OI)} {post : Env → Prop}
theorem mFr_ok {σ : Sub} {ρ : Env} {ν : Nat → Addr} {fr : Fr} {a : Act} (hf : FrOK ρ ν fr a) : ∀ {l : Fr}, mFr σ fr l = true → FrOK (σ.env ρ ν) (σ.adr ρ ν) l a
 | [], _ => fun t v h => by simp [assoc] at h
 | (t, v) :: r, h => by
  simp only [mFr, Bool.and_eq_true] at h
  intro u x hx
  unfold assoc at hx
  split at hx
  ·rename_i he
   simp only [beq_iff_eq] at he
   subst he
   simp at hx
   subst hx
   obtain ⟨h1, -⟩ := h
   split at h1
   ·rename_i y hy
    rw [mSV_ok h1]
    exact hf _ y hy
   ·cases h1
  ·exact mFr_ok hf h.2 u x hx
structure OpnOK1 (P : Program) (T : Tab) (B : Base) (R : Ending → World → Prop) (o : Opn) (G : Env → Prop) (ρ : Env) (ν : Nat → Addr) (nv n : Nat) : Prop where
 lo : B.nv ≤ o.lo ∧ o.lo ≤ nv ∧ o.lo ≤ o.cT.nv
 lob : B.n ≤ o.lob ∧ o.lob ≤ n ∧ o.lob ≤ o.cT.hp.length
 sc : knSc o.lo o.cT.kn = true ∧ glSc o.lob o.cT.gl = true ∧ stkSc o.lo o.lob o.cT.stk = true
 goal : ∃ ρ0 ν0, Agr o.lo o.lob ρ0 ρ ν0 ν ∧ Kn.ok ρ0 o.cT.kn ∧ ∀ ρ' ν' a as w, Agr o.lo o.lob ρ0 ρ' ν0 ν' → Rel T B ρ' ν' o.cT a as w → G ρ'.num → Goal P T R o.cT a as w
def OpnOK (P : Program) (T : Tab) (B : Base) (R : Ending → World → Prop) (op : List Opn) (Γ : List (Env → Prop)) (ρ : Env) (ν : Nat → Addr) (nv n : Nat) : Prop :=
 ∀ (i : Nat) (o : Opn), op[i]? = some o → ∀ G, Γ[i]? = some G → OpnOK1 P T B R o G ρ ν nv n
theorem OpnOK.ext {op : List Opn} {Γ : List (Env → Prop)} {ρ ρ' : Env} {ν ν' : Nat → Addr} {nv n nv' n' : Nat} (h : OpnOK P T B R op Γ ρ ν nv n) (hA : Agr nv n ρ ρ' ν ν') (h1 : nv ≤ nv') (h2 : n ≤ n') : OpnOK P T B R op Γ ρ' ν' nv' n' := by
 intro i o hi G hG
 obtain ⟨lo, lob, sc, ρ0, ν0, q1, q2, q3⟩ := h i o hi G hG
 exact ⟨⟨lo.1, Nat.le_trans lo.2.1 h1, lo.2.2⟩, ⟨lob.1, Nat.le_trans lob.2.1 h2, lob.2.2⟩, sc, ρ0, ν0, q1.trans hA lo.2.1 lob.2.1, q2, q3⟩
theorem instC_ok {ρ : Env} {ν : Nat → Addr} {lo lob : Nat} {cT c : Cfg} {σ : Sub} {os : List BE} {a : AS} {as : List AS} {w : World} (h : instC lo lob cT c = some (σ, os)) (ho : ∀ o ∈ os, o.den ρ = true) (hr : Rel T B ρ ν c a as w)
  (h1 : B.nv ≤ lo ∧ lo ≤ cT.nv) (h2 : B.n ≤ lob ∧ lob ≤ cT.hp.length) (hs : knSc lo cT.kn = true ∧ glSc lob cT.gl = true ∧ stkSc lo lob cT.stk = true) (hk : Kn.ok ρ cT.kn) :
  Rel T B (σ.env ρ ν) (σ.adr ρ ν) cT a as w ∧ Agr lo lob ρ (σ.env ρ ν) ν (σ.adr ρ ν) ∧ (Goal P T R cT a as w → Goal P T R c a as w) := by
 unfold instC at h
 simp only at h
 split at h
 case isFalse => cases h
 rename_i hc
 simp only [Bool.and_eq_true, beq_iff_eq] at hc
 obtain ⟨⟨⟨⟨⟨⟨⟨⟨c1, c2⟩, c3⟩, c4⟩, c5⟩, c6⟩, c7⟩, c8⟩, c9⟩ := hc
 simp only [Option.map_eq_some_iff, Prod.mk.injEq] at h
 obtain ⟨os', hinst, rfl, rfl⟩ := h
 generalize uHp2 (uFr { lo := lo, lob := lob } c.top.fr cT.top.fr) c.hp cT.hp = σ at *
 have hA : Agr lo lob ρ (σ.env ρ ν) ν (σ.adr ρ ν) := by
  have := σ.agr ρ ν
  rw [c1, c2] at this
  exact this
 have hn4 := isNone_eq c4
 have hn5 := isNone_eq c5
 have hstk := stkSame_eq c7
 have hgl := glSame_eq c8
 have htodo := sisSame_eq c6
 refine ⟨⟨Nat.le_trans h1.1 h1.2, Nat.le_trans h2.1 h2.2, hr.agr.trans hA h1.1 h2.1, kn_den hA hs.1 hk, ?_, inst_ok hinst ho hr.hp, hr.wr, ?_, ⟨mFr_ok hr.top.fr c9, by rw [c3]; exact hr.top.tmps, hr.top.defers, fun p k sc d hc => by rw [hn4] at hc; cases hc⟩, ?_, fun p k sc hc => by rw [hn4] at hc; cases hc⟩, hA, ?_⟩
 ·refine GlOK.ext hA hs.2.1 ?_
  rw [hgl]; exact hr.gl
 ·intro k T' hk' hto htd
  obtain ⟨a', A, hB⟩ := inst_blk hinst ho hk' htd
  rw [hB.adr, block_add]
  exact hr.own _ A hB.hp (hB.own hto) hB.live
 ·refine StOK.ext hA hs.2.2 ?_
  rw [hstk]; exact hr.stk
 ·intro hg
  unfold Goal at hg ⊢
  rw [hstk] at hg
  exact topGoal_congr c3.symm htodo.symm (hn5.trans hn4.symm) hg
theorem obWrap_ok {Γ : List (Env → Prop)} {ρ : Env} : ∀ {os : List BE} {kn : Kn} {k : Kn → Out}, Sat post cs Γ ρ (obWrap kn os k) → Kn.ok ρ kn →
  (∀ b ∈ os, b.den ρ = true) ∧ ∃ kn', (∀ ρ' : Env, Kn.ok ρ' kn → (∀ b ∈ os, b.den ρ' = true) → Kn.ok ρ' kn') ∧ Sat post cs Γ ρ (k kn')
 | [], kn, k, h, _ => ⟨by simp, kn, fun _ h _ => h, h⟩
 | b :: r, kn, k, h, hk => by
  unfold obWrap at h
  split at h
  ·rename_i hd
   obtain ⟨h1, kn', h2, h3⟩ := obWrap_ok h hk
   refine ⟨fun x hx => ?_, kn', fun ρ' a b => h2 ρ' a (fun x hx => b x (by simp [hx])), h3⟩
   rcases List.mem_cons.1 hx with rfl | hx
   ·exact BE.decide_ok hk hd
   ·exact h1 x hx
  ·cases h
  ·obtain ⟨h0, h⟩ := h
   obtain ⟨h1, kn', h2, h3⟩ := obWrap_ok (h h0) (addKn_ok h0 hk)
   refine ⟨fun x hx => ?_, kn', fun ρ' a c => h2 ρ' (addKn_ok (c b (by simp)) a) (fun x hx => c x (by simp [hx])), h3⟩
   rcases List.mem_cons.1 hx with rfl | hx
   ·exact h0
   ·exact h1 x hx
theorem asKn_ok {ρ : Env} : ∀ {fs : List QF} {kn : Kn}, Kn.ok ρ kn → (∀ f ∈ fs, f.den ρ) → Kn.ok ρ (asKn kn fs)
 | [], _, h, _ => h
 | .be b :: r, kn, h, hf => asKn_ok (fs := r) (addKn_ok (hf (.be b) (by simp)) h) fun f hm => hf f (by simp [hm])
 | .cat .. :: r, kn, h, hf => asKn_ok (fs := r) h fun f hm => hf f (by simp [hm])
theorem Rel.kn_set {ρ : Env} {ν : Nat → Addr} {c : Cfg} {a : AS} {as : List AS} {w : World} (h : Rel T B ρ ν c a as w) {kn : Kn} (hk : Kn.ok ρ kn) : Rel T B ρ ν { c with kn := kn } a as w :=
 ⟨h.nv, h.n, h.agr, hk, h.gl, h.hp, h.wr, h.own, h.top, h.stk, h.held⟩
theorem atLoop_ok {ρ : Env} {ν : Nat → Addr} {c : Cfg} {a : AS} {as : List AS} {w : World} {L : LSpec} {todo : List SI} (h : atLoop T E c = some (L, todo)) (hr : Rel T B ρ ν c a as w) :
  Rel T B ρ ν { c with top := { c.top with todo := todo } } a as w ∧ (Goal P T R { c with top := { c.top with todo := todo } } a as w → Goal P T R c a as w) := by
 unfold atLoop at h
 split at h
 case h_2 => cases h
 rename_i p k hcur htodo
 split at h
 case h_2 => cases h
 split at h
 case h_2 => cases h
 rename_i x hat
 simp only [Option.some.injEq, Prod.mk.injEq] at h
 obtain ⟨-, rfl⟩ := h
 refine ⟨⟨hr.nv, hr.n, hr.agr, hr.kn, hr.gl, hr.hp, hr.wr, hr.own, ⟨hr.top.fr, hr.top.tmps, hr.top.defers, fun p k sc d hc => by rw [show c.top.cur = .none from hcur] at hc; cases hc⟩, hr.stk, fun p k sc hc => by rw [show c.top.cur = .none from hcur] at hc; cases hc⟩, fun hg => ?_⟩
 unfold Goal topGoal at hg ⊢
 simp only [hcur] at hg ⊢
 rw [htodo]
 simp only [List.map_cons, SI.conc, at_child hat, Code.at, Option.getD_some, hat] at hg ⊢
 exact Reach.step (fun b cs => step_loop) hg
theorem atBack_ok {ρ : Env} {ν : Nat → Addr} {c : Cfg} {a : AS} {as : List AS} {w : World} {todo : List SI} (h : atBack E c = some todo) (hr : Rel T B ρ ν c a as w) :
  Rel T B ρ ν { c with top := { c.top with todo := todo } } a as w ∧ (Goal P T R { c with top := { c.top with todo := todo } } a as w → Goal P T R c a as w) := by
 unfold atBack at h
 split at h
 case h_2 => cases h
 rename_i p k hcur htodo
 split at h
 case h_2 => cases h
 simp only [Option.some.injEq] at h
 subst h
 refine ⟨⟨hr.nv, hr.n, hr.agr, hr.kn, hr.gl, hr.hp, hr.wr, hr.own, ⟨hr.top.fr, hr.top.tmps, hr.top.defers, fun p k sc d hc => by rw [show c.top.cur = .none from hcur] at hc; cases hc⟩, hr.stk, fun p k sc hc => by rw [show c.top.cur = .none from hcur] at hc; cases hc⟩, fun hg => ?_⟩
 unfold Goal topGoal at hg ⊢
 simp only [hcur] at hg ⊢
 rw [htodo]
 exact Reach.step (fun b cs => step_inLoop) hg
theorem findOpn_ok {c : Cfg} : ∀ {l : List Opn} {i j : Nat} {o : Opn}, findOpn c l i = some (j, o) → i ≤ j ∧ l[j - i]? = some o
 | [], _, _, _, h => by simp [findOpn] at h
 | x :: r, i, j, o, h => by
  unfold findOpn at h
  split at h
  ·simp only [Option.some.injEq, Prod.mk.injEq] at h
   obtain ⟨rfl, rfl⟩ := h
   exact ⟨Nat.le_refl _, by simp⟩
  ·obtain ⟨h1, h2⟩ := findOpn_ok h
   refine ⟨by omega, ?_⟩
   rw [show j - i = (j - (i + 1)) + 1 by omega]
   simpa using h2
theorem mkTmpl_kn {L : LSpec} {c cT : Cfg} {todo : List SI} (h : mkTmpl T L c todo = some cT) : cT.kn = c.kn ∧ cT.gl = c.gl ∧ cT.stk = c.stk := by
 unfold mkTmpl at h
 split at h
 ·cases h
 split at h
 ·cases h
 simp only [Option.some.injEq] at h
 subst h
 exact ⟨rfl, rfl, rfl⟩
def finR (F : Con) (B : Base) (post : Env → Prop) (e : Ending) (w' : World) : Prop :=
 ∃ ρ' ν', Agr F.nv F.hp.length B.ρ ρ' B.ν ν' ∧ e = .returned (F.ret.den ρ' ν') ∧ HpOK ρ' ν' F.hp' w' ∧ Wrt B.w B.W w' ∧ OwnOK B.w.heap.size B.W ρ' ν' F.hp' ∧ post ρ'.num
theorem knSame_eq : ∀ {a b : Kn}, knSame a b = true → a = b
 | [], [], _ => rfl
 | [], _ :: _, h => by simp [knSame] at h
 | _ :: _, [], h => by simp [knSame] at h
 | (x, t) :: r, (y, u) :: s, h => by
  simp only [knSame, Bool.and_eq_true, beq_iff_eq] at h
  obtain ⟨⟨h1, h2⟩, h3⟩ := h
  rw [BE.same_eq h1, h2, knSame_eq h3]
theorem mergeFr_at {x y : Fr} {t : Nat} {v : SV} (h : assoc t (mergeFr x y) = some v) : assoc t x = some v ∧ assoc t y = some v := by
 have hm := assoc_mem h
 unfold mergeFr at hm
 simp only [List.mem_filter, Bool.and_eq_true] at hm
 obtain ⟨-, h1, h2⟩ := hm
 refine ⟨?_, ?_⟩
 ·split at h1
  ·rename_i u hu
   rw [← SV.same_eq h1]; exact hu
  ·cases h1
 ·split at h2
  ·rename_i u hu
   rw [← SV.same_eq h2]; exact hu
  ·cases h2
theorem merge_x {ρ : Env} {ν : Nat → Addr} {x y : Cfg} {a : AS} {as : List AS} {w : World} (h : mergeOK x y = true) (hr : Rel T B ρ ν x a as w) :
  Rel T B ρ ν (mergeC x y) a as w ∧ (Goal P T R (mergeC x y) a as w → Goal P T R x a as w) := by
 simp only [mergeOK, Bool.and_eq_true, beq_iff_eq] at h
 obtain ⟨⟨⟨⟨⟨⟨⟨⟨h1, h2⟩, h3⟩, h4⟩, h5⟩, h6⟩, h7⟩, h8⟩, h9⟩ := h
 have hx := isNone_eq h6
 refine ⟨⟨hr.nv, hr.n, hr.agr, hr.kn, hr.gl, hr.hp, hr.wr, hr.own, ⟨fun t v ht => hr.top.fr t v (mergeFr_at ht).1, hr.top.tmps, hr.top.defers, hr.top.held⟩, hr.stk, hr.held⟩, fun hg => ?_⟩
 unfold Goal topGoal at hg ⊢
 simp only [mergeC, hx] at hg ⊢
 exact hg
theorem merge_y {ρ : Env} {ν : Nat → Addr} {x y : Cfg} {a : AS} {as : List AS} {w : World} (h : mergeOK x y = true) (hr : Rel T B ρ ν y a as w) :
  Rel T B ρ ν (mergeC x y) a as w ∧ (Goal P T R (mergeC x y) a as w → Goal P T R y a as w) ∧ y.nv = (mergeC x y).nv ∧ y.hp = (mergeC x y).hp := by
 simp only [mergeOK, Bool.and_eq_true, beq_iff_eq] at h
 obtain ⟨⟨⟨⟨⟨⟨⟨⟨h1, h2⟩, h3⟩, h4⟩, h5⟩, h6⟩, h7⟩, h8⟩, h9⟩ := h
 have hx := isNone_eq h6
 have hy := isNone_eq h7
 replace h2 := knSame_eq h2
 replace h3 := glSame_eq h3
 replace h4 := hpSame_eq h4
 replace h8 := sisSame_eq h8
 replace h9 := stkSame_eq h9
 refine ⟨⟨by show B.nv ≤ x.nv; rw [h1]; exact hr.nv, by show B.n ≤ x.hp.length; rw [h4]; exact hr.n, hr.agr, by show Kn.ok ρ x.kn; rw [h2]; exact hr.kn, by show GlOK ν x.gl; rw [h3]; exact hr.gl, by show HpOK ρ ν x.hp w; rw [h4]; exact hr.hp, hr.wr, by show OwnOK _ _ ρ ν x.hp; rw [h4]; exact hr.own, ⟨fun t v ht => hr.top.fr t v (mergeFr_at ht).2, by show T.ntmps x.top.f ≤ _; rw [h5]; exact hr.top.tmps, hr.top.defers, fun p k sc d hc => (by
     have hc : x.top.cur = .dr p k sc d := hc
     rw [hx] at hc; cases hc)⟩, by show StOK T ρ ν x.stk as; rw [h9]; exact hr.stk, fun p k sc hc => (by
     have hc : x.top.cur = .dr p k sc false := hc
     rw [hx] at hc; cases hc)⟩, fun hg => ?_, h1.symm, h4.symm⟩
 unfold Goal topGoal at hg ⊢
 simp only [mergeC, hx] at hg
 simp only [hy]
 rw [← h5, ← h8, ← h9]
 exact hg
theorem osAll_ok {ρ : Env} {kn : Kn} {os : List BE} (hk : Kn.ok ρ kn) (h : osAll kn os = true) : ∀ b ∈ os, b.den ρ = true := by
 intro b hb
 have := List.all_eq_true.1 h b hb
 split at this
 ·rename_i hd
  exact BE.decide_ok hk hd
 ·cases this
theorem trunc_ok {ρ : Env} {ν : Nat → Addr} {c : Cfg} {a : AS} {as : List AS} {w : World} {fl m : Nat} (hB : B.n ≤ fl) (hf : fl ≤ c.hp.length) (hr : Rel T B ρ ν c a as w) :
  Rel T B ρ ν (truncC fl m c) a as w ∧ (Goal P T R (truncC fl m c) a as w → Goal P T R c a as w) ∧ (truncC fl m c).nv = c.nv ∧ fl ≤ (truncC fl m c).hp.length := by
 unfold truncC
 split
 ·rename_i hc
  simp only [Bool.and_eq_true, Nat.blt_eq, Nat.ble_eq] at hc
  obtain ⟨⟨⟨h1, h2⟩, h3⟩, -⟩ := hc
  have hat : ∀ (k : Nat) (sb : SB), (c.hp.take m)[k]? = some sb → c.hp[k]? = some sb := fun k sb hk => by
   rw [List.getElem?_take] at hk
   split at hk
   ·exact hk
   ·cases hk
  have hlen : (c.hp.take m).length = m := by rw [List.length_take]; omega
  refine ⟨⟨hr.nv, by show B.n ≤ (c.hp.take m).length; omega, hr.agr, hr.kn, hr.gl, ⟨fun i j x y hi hj => hr.hp.inj i j x y (hat i x hi) (hat j y hj), fun k sb hk => hr.hp.blk k sb (hat k sb hk), fun k sb hk => hr.hp.rd k sb (hat k sb hk)⟩, hr.wr, fun k sb hk => hr.own k sb (hat k sb hk), hr.top, hr.stk, fun p k sc hcur => ?_⟩, fun hg => hg, rfl, by show fl ≤ (c.hp.take m).length; omega⟩
  have hcur : c.top.cur = .dr p k sc false := hcur
  unfold heldOK at h3
  rw [hcur] at h3
  exact h3
 ·exact ⟨hr, fun hg => hg, rfl, hf⟩
theorem callLen_ok {ρ : Env} {ν : Nat → Addr} {c c' : Cfg} {a : AS} {as : List AS} {w : World} {fl : Nat} {ls : List Nat} (hB : B.n ≤ fl) (hf : fl ≤ c'.hp.length) (hr : Rel T B ρ ν c' a as w) :
  Rel T B ρ ν (callLen fl c ls c').1 a as w ∧ (Goal P T R (callLen fl c ls c').1 a as w → Goal P T R c' a as w) ∧ (callLen fl c ls c').1.nv = c'.nv ∧ fl ≤ (callLen fl c ls c').1.hp.length := by
 unfold callLen
 split
 ·exact ⟨hr, fun hg => hg, rfl, hf⟩
 ·split
  ·split
   ·exact trunc_ok hB hf hr
   ·exact ⟨hr, fun hg => hg, rfl, hf⟩
  ·exact ⟨hr, fun hg => hg, rfl, hf⟩
theorem runP_ok (hT : TabOK P T) (hE : E.cons = cs.map (·.1)) (hC : ∀ k pre post, (k, pre, post) ∈ cs → conWf k = true ∧ ConOK P k pre post) (hS : schedsOK T E.sched inf = true) {R : Ending → World → Prop} {ρ : Env} {d fl : Nat} (hB : B.n ≤ fl) :
  ∀ (n : Nat) {ls : List Nat} {c z : Cfg} {ν : Nat → Addr} {a : AS} {as : List AS} {w : World}, runP T E d fl n ls c = some z → fl ≤ c.hp.length → Rel T B ρ ν c a as w →
   (∀ ν' a' as' w', Agr c.nv fl ρ ρ ν ν' → c.nv ≤ z.nv → fl ≤ z.hp.length → Rel T B ρ ν' z a' as' w' → Goal P T R z a' as' w') → Goal P T R c a as w
 | 0, _, _, _, _, _, _, _, h, _, _, _ => by simp [runP] at h
 | n + 1, ls, c, z, ν, a, as, w, h, hf, hr, hc => by
  unfold runP at h
  have hs := stepC_ok (P := P) (R := R) (E := E) hT hE hC hS hr
  split at h
  ·rename_i os fs c' hst
   rw [hst] at hs
   split at h
   ·rename_i hb
    simp only [Bool.and_eq_true, List.isEmpty_iff] at hb
    refine hs (osAll_ok hr.kn hb.2) fun ρ' ν' a' as' w' hA hfs hle ho hfd hr' => ?_
    obtain rfl := hfs hb.1
    split at h
    rename_i c2 ls2 hcl
    obtain ⟨k1, k2, k3, k4⟩ := callLen_ok (P := P) (R := R) (c := c) (ls := ls) hB (Nat.le_trans hf hle.2) hr'
    rw [hcl] at k1 k2 k3 k4
    apply k2
    have hA' : Agr c.nv fl ρ' ρ' ν ν' := ⟨fun i hi => hA.iv i hi, fun i hi => hA.bv i hi, fun i hi => hA.vv i hi, fun i hi => hA.ic i hi, fun i hi => hA.bc i hi, fun i hi => hA.vc i hi, fun i hi => hA.bl i (Nat.lt_of_lt_of_le hi hf)⟩
    split at h
    ·cases h
     exact hc ν' a' as' w' hA' (by rw [k3]; exact hle.1) k4 k1
    ·refine runP_ok hT hE hC hS hB n h k4 k1 fun ν2 a2 as2 w2 hA2 l1 l2 hr2 => ?_
     rw [k3] at hA2 l1
     exact hc ν2 a2 as2 w2 (hA'.trans hA2 hle.1 (Nat.le_refl _)) (Nat.le_trans hle.1 l1) l2 hr2
   ·cases h
  ·rename_i x y hst
   rw [hst] at hs
   obtain ⟨e1, e2, e3, e4⟩ := stepC_alt hst
   split at h
   ·rename_i x' y' hx hy
    split at h
    ·rename_i hm
     cases h
     refine hs (fun hr' => runP_ok hT hE hC hS hB n hx (by rw [e2]; exact hf) hr' fun ν2 a2 as2 w2 hA l1 l2 hr2 => ?_) (fun hr' => runP_ok hT hE hC hS hB n hy (by rw [e4]; exact hf) hr' fun ν2 a2 as2 w2 hA l1 l2 hr2 => ?_)
     ·obtain ⟨m1, m2⟩ := merge_x (P := P) (R := R) hm hr2
      rw [e1] at hA l1
      exact m2 (hc ν2 a2 as2 w2 hA l1 l2 m1)
     ·obtain ⟨m1, m2, m3, m4⟩ := merge_y (P := P) (R := R) hm hr2
      rw [e3] at hA
      rw [e3, m3] at l1
      rw [m4] at l2
      exact m2 (hc ν2 a2 as2 w2 hA l1 l2 m1)
    ·cases h
   ·cases h
  ·cases h
theorem exec_ok (hT : TabOK P T) (hE : E.cons = cs.map (·.1)) (hC : ∀ k pre post, (k, pre, post) ∈ cs → conWf k = true ∧ ConOK P k pre post) (hS : schedsOK T E.sched inf = true) (hB : B.nv = E.fin.nv ∧ B.n = E.fin.hp.length) :
  ∀ (n : Nat) {op : List Opn} {Γ : List (Env → Prop)} {ρ : Env} {ν : Nat → Addr} {c : Cfg} {a : AS} {as : List AS} {w : World}, op.length = Γ.length → OpnOK P T B (finR E.fin B post) op Γ ρ ν c.nv c.hp.length → Sat post cs Γ ρ (exec T E n op c) → Rel T B ρ ν c a as w →
   Goal P T (finR E.fin B post) c a as w
 | 0, op, Γ, ρ, ν, c, a, as, w, _, _, h, hr => by cases h
 | n + 1, op, Γ, ρ, ν, c, a, as, w, hlen, hO, h, hr => by
  unfold exec at h
  rw [Cfg.norm_eq] at h
  split at h
  ·-- a loop
   rename_i L todo hat
   obtain ⟨hr1, hgo⟩ := atLoop_ok (P := P) (R := finR E.fin B post) hat hr
   split at h
   ·cases h
   rename_i cT htm
   split at h
   ·cases h
   rename_i σ os hinst
   split at h
   case isFalse => cases h
   rename_i hsc
   simp only [Bool.and_eq_true, Nat.ble_eq] at hsc
   obtain ⟨⟨⟨hsc1, hsc2⟩, hle1⟩, hle2⟩ := hsc
   obtain ⟨hos, kn', hkn', h'⟩ := obWrap_ok h hr.kn
   obtain ⟨Inv, m, hI, hbody⟩ := h'
   obtain ⟨t1, t2, t3⟩ := mkTmpl_kn htm
   have hsc' := hsc1
   simp only [Cfg.sc, Bool.and_eq_true] at hsc'
   obtain ⟨⟨⟨⟨s1, s2⟩, s3⟩, s4⟩, s5⟩ := hsc'
   have hscT : knSc c.nv cT.kn = true ∧ glSc c.hp.length cT.gl = true ∧ stkSc c.nv c.hp.length cT.stk = true := by rw [t1, t2, t3]; exact ⟨s1, s5, s4⟩
   have hkT : Kn.ok ρ cT.kn := by rw [t1]; exact hr.kn
   obtain ⟨hrT, hAT, hback⟩ := instC_ok (P := P) (R := finR E.fin B post) hinst hos hr1 ⟨hr.nv, hle1⟩ ⟨hr.n, hle2⟩ hscT hkT
   apply hgo
   apply hback
   have main : ∀ (M : Nat) (ρ' : Env) (ν' : Nat → Addr) (a : AS) (as : List AS) (w : World), Agr c.nv c.hp.length ρ ρ' ν ν' → Rel T B ρ' ν' cT a as w → Inv ρ'.num → m ρ'.num = M → Goal P T (finR E.fin B post) cT a as w := by
    intro M
    induction M using Nat.strongRecOn with
    | ind M ih =>
     intro ρ' ν' a as w hA hrel hinv hm
     have hj := hA.join
     have hsat := hbody ρ' (by rw [hj]; exact hinv)
     rw [hj] at hsat
     refine exec_ok hT hE hC hS hB n (op := ⟨c.nv, c.hp.length, cT⟩ :: op) (Γ := (fun ρ'' => Inv ρ'' ∧ m ρ'' < m ρ'.num) :: Γ) (by simp [hlen]) ?_ hsat hrel
     intro i o hi G hG
     cases i with
     | zero =>
      simp at hi hG
      subst hi hG
      refine ⟨⟨hr.nv, hle1, hle1⟩, ⟨hr.n, hle2, hle2⟩, hscT, ρ, ν, hA, hkT, fun ρ2 ν2 a2 as2 w2 hA2 hr2 hG2 => ?_⟩
      exact ih _ (by rw [← hm]; exact hG2.2) ρ2 ν2 a2 as2 w2 hA2 hr2 hG2.1 rfl
     | succ i =>
      have := (hO.ext hA hle1 hle2) i o (by simpa using hi) G (by simpa using hG)
      exact this
   exact main _ _ _ a as w hAT hrT hI rfl
  split at h
  ·-- a round's end
   rename_i todo hat
   obtain ⟨hr1, hgo⟩ := atBack_ok (P := P) (R := finR E.fin B post) hat hr
   split at h
   ·cases h
   rename_i i o hfind
   split at h
   ·cases h
   rename_i σ os hinst
   obtain ⟨hos, kn', hkn', h'⟩ := obWrap_ok h hr.kn
   obtain ⟨G, hG, hGn⟩ := h'
   obtain ⟨-, hio⟩ := findOpn_ok hfind
   rw [Nat.sub_zero] at hio
   obtain ⟨lo, lob, sc, ρ0, ν0, q1, q2, q3⟩ := hO i o hio G hG
   obtain ⟨hrT, hAT, hback⟩ := instC_ok (P := P) (R := finR E.fin B post) hinst hos hr1 ⟨lo.1, lo.2.2⟩ ⟨lob.1, lob.2.2⟩ sc (kn_den q1 sc.1 q2)
   apply hgo
   apply hback
   exact q3 _ _ a as w (q1.trans hAT (Nat.le_refl _) (Nat.le_refl _)) hrT hGn
  have hs := stepC_ok (P := P) (R := finR E.fin B post) (E := E) hT hE hC hS hr
  split at h
  ·rename_i os fs c' hst
   rw [hst] at hs
   obtain ⟨h1, kn1, h2, h3⟩ := obWrap_ok h hr.kn
   refine hs h1 fun ρ' ν' a' as' w' hA hfs hle ho hf hr' => ?_
   have hk1 : Kn.ok ρ' kn1 := h2 ρ' (by
     have := hr'.kn
     rwa [stepC_kn hst] at this) ho
   have hk2 := asKn_ok hk1 hf
   have hO' := hO.ext hA hle.1 hle.2
   refine exec_ok hT hE hC hS hB n (c := { c' with kn := asKn kn1 fs }) hlen hO' ?_ (hr'.kn_set hk2)
   unfold newWrap at h3
   split at h3
   ·rw [hfs rfl]; exact h3
   ·have := h3 ρ' (by rw [hA.join]; exact hf)
    rw [hA.join] at this
    exact this
  ·rename_i x y hst
   rw [hst] at hs
   obtain ⟨e1, e2, e3, e4⟩ := stepC_alt hst
   split at h
   ·rename_i z hz
    unfold mergeAlt at hz
    split at hz
    case isFalse => cases hz
    split at hz
    case h_2 => cases hz
    rename_i x' y' hx hy
    split at hz
    case isFalse => cases hz
    rename_i hm
    cases hz
    refine hs (fun hr' => runP_ok hT hE hC hS hr.n n hx (by rw [e2]; exact Nat.le_refl _) hr' fun ν2 a2 as2 w2 hA l1 l2 hr2 => ?_) (fun hr' => runP_ok hT hE hC hS hr.n n hy (by rw [e4]; exact Nat.le_refl _) hr' fun ν2 a2 as2 w2 hA l1 l2 hr2 => ?_)
    ·obtain ⟨m1, m2⟩ := merge_x (P := P) (R := finR E.fin B post) hm hr2
     rw [e1] at hA l1
     exact m2 (exec_ok hT hE hC hS hB n hlen (hO.ext hA l1 l2) h m1)
    ·obtain ⟨m1, m2, m3, m4⟩ := merge_y (P := P) (R := finR E.fin B post) hm hr2
     rw [e3] at hA
     rw [e3, m3] at l1
     rw [m4] at l2
     exact m2 (exec_ok hT hE hC hS hB n hlen (hO.ext hA l1 l2) h m1)
   exact hs (fun hr' => exec_ok hT hE hC hS hB n hlen (hO.ext (Agr.refl _ _ _ _) (by rw [(stepC_alt hst).1]; exact Nat.le_refl _) (by rw [(stepC_alt hst).2.1]; exact Nat.le_refl _)) h.1 hr')
    (fun hr' => exec_ok hT hE hC hS hB n hlen (hO.ext (Agr.refl _ _ _ _) (by rw [(stepC_alt hst).2.2.1]; exact Nat.le_refl _) (by rw [(stepC_alt hst).2.2.2]; exact Nat.le_refl _)) h.2 hr')
  ·rename_i os g σ c' hst
   rw [hst] at hs
   obtain ⟨h1, kn1, h2, h3⟩ := obWrap_ok h hr.kn
   obtain ⟨k, pre, post', hcs, hpre, hbody⟩ := h3
   refine hs h1 k pre post' hcs hpre fun ρ' ν' a' as' w' hA hle ho hpo hr' => ?_
   have hk1 : Kn.ok ρ' kn1 := h2 ρ' (by
     have := hr'.kn
     rwa [stepC_knC hst] at this) ho
   have hsat := hbody ρ' (by rw [hA.join]; exact hpo)
   rw [hA.join] at hsat
   exact exec_ok hT hE hC hS hB n (c := { c' with kn := kn1 }) hlen (hO.ext hA hle.1 hle.2) hsat (hr'.kn_set hk1)
  ·rename_i b hst
   obtain ⟨ht, hf⟩ := h
   cases hb : b.den ρ with
   | true => exact exec_ok hT hE hC hS hB n (c := { c with kn := addKn b true c.kn }) hlen hO (ht hb) (hr.kn_set (addKn_ok hb hr.kn))
   | false => exact exec_ok hT hE hC hS hB n (c := { c with kn := addKn b false c.kn }) hlen hO (hf hb) (hr.kn_set (addKn_ok hb hr.kn))
  ·rename_i os v hst
   rw [hst] at hs
   split at h
   ·rename_i σ os' hfin
    obtain ⟨h1, kn1, h2, h3⟩ := obWrap_ok h hr.kn
    refine hs (fun b hb => h1 b (List.mem_append_left _ hb)) fun _ => ?_
    unfold finOut at hfin
    simp only at hfin
    split at hfin
    case isFalse => cases hfin
    rename_i hc
    simp only [Bool.and_eq_true, beq_iff_eq] at hc
    obtain ⟨⟨c1, c2⟩, c3⟩ := hc
    simp only [Option.map_eq_some_iff, Prod.mk.injEq] at hfin
    obtain ⟨os2, hinst, rfl, rfl⟩ := hfin
    generalize uHp2 (uSV { lo := E.fin.nv, lob := E.fin.hp.length } E.fin.ret v) c.hp E.fin.hp' = σ at *
    have ho2 : ∀ o ∈ os2, o.den ρ = true := fun o hm => h1 o (List.mem_append_right _ hm)
    have hA := σ.agr ρ ν
    rw [c1, c2] at hA
    refine ⟨σ.env ρ ν, σ.adr ρ ν, ?_, by rw [mSV_ok c3], inst_ok hinst ho2 hr.hp, hr.wr, ?_, h3⟩
    ·have h5 := hr.agr
     rw [hB.1, hB.2] at h5
     exact h5.trans hA (Nat.le_refl _) (Nat.le_refl _)
    ·intro k T' hk' hto htd
     obtain ⟨a', A, hIB⟩ := inst_blk hinst ho2 hk' htd
     rw [hIB.adr, block_add]
     exact hr.own _ A hIB.hp (hIB.own hto) hIB.live
   ·cases h
  ·cases h
  ·cases h
end
end Go.Rex
