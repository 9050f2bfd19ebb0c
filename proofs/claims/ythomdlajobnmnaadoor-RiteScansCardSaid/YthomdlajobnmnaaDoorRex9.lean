/- Rex, part 9: 'Reach': from here the function comes to its end. -/
import Derived.Test.YthomdlajobnmnaaDoorRex8
set_option linter.unusedSimpArgs false
set_option linter.unusedVariables false
namespace Go.Rex

/-! ### orders, where a condition on memory holds as long as somebody asks for it -/
section
variable {P : Program} {ops : Array Oper} {Q : Exit → Act → World → Prop} {md : Region.Mode} {S : World → Prop} {m : Option Nat}
def asked (m : Option Nat) (listed : Array Bool) : Prop := ∀ c, m = some c → listed.getD c true = false
def wpAnyK (P : Program) (md : Region.Mode) (ops : Array Oper) (Q : Exit → Act → World → Prop) (S : World → Prop) (m : Option Nat) : Nat → Array Bool → Act → World → Prop
 | 0, listed, a, w => Region.ready md ops listed = [] ∧ Q .normal a w
 | fuel + 1, listed, a, w =>
  (Region.ready md ops listed = [] → Q .normal a w) ∧
  ∀ i ∈ Region.ready md ops listed, wpOp P ops Q i (fun a' w' => (asked m (listed.setIfInBounds i true) → S w') ∧ wpAnyK P md ops Q S m fuel (listed.setIfInBounds i true) a' w') a w
theorem wpAny_of_K : ∀ (fuel : Nat) (listed : Array Bool) (a : Act) (w : World), wpAnyK P md ops Q S m fuel listed a w → wpAny P md ops Q fuel listed a w
 | 0, _, _, _, h => h
 | fuel + 1, _, _, _, h => ⟨h.1, fun i hi => wpOp_mono (fun a' w' h' => wpAny_of_K fuel _ a' w' h'.2) (h.2 i hi)⟩
theorem wpAnyK_weak {S' : World → Prop} (h : ∀ w, S' w → S w) : ∀ {fuel : Nat} {listed : Array Bool} {a : Act} {w : World}, wpAnyK P md ops Q S' m fuel listed a w → wpAnyK P md ops Q S m fuel listed a w
 | 0, _, _, _, hh => hh
 | _ + 1, _, _, _, hh => ⟨hh.1, fun i hi => wpOp_mono (fun _ _ h' => ⟨fun hm => h _ (h'.1 hm), wpAnyK_weak h h'.2⟩) (hh.2 i hi)⟩
theorem asked_less {listed : Array Bool} {i : Nat} (h : asked m (listed.setIfInBounds i true)) : asked m listed := by
 intro c hc
 have h1 := h c hc
 by_cases hic : i = c
 ·subst hic
  rcases Nat.lt_or_ge i listed.size with h' | h'
  ·simp [Array.getD_eq_getD_getElem?, Array.getElem?_setIfInBounds, h'] at h1
  ·rwa [Array.setIfInBounds_eq_of_size_le h'] at h1
 ·rwa [getD_set_ne true hic] at h1
theorem getD_set_ne_comm (i j c : Nat) (listed : Array Bool) (h : i ≠ c) : ((listed.setIfInBounds i true).setIfInBounds j true).getD c true = (listed.setIfInBounds j true).getD c true := by
 by_cases hjc : j = c
 ·subst hjc
  simp only [Array.getD_eq_getD_getElem?, Array.getElem?_setIfInBounds, Array.size_setIfInBounds]
  simp [h]
 ·rw [getD_set_ne true hjc, getD_set_ne true h, getD_set_ne true hjc]
theorem wpAnyK_drop {S' : World → Prop} : ∀ {fuel : Nat} {listed : Array Bool} {a : Act} {w : World}, ¬ asked m listed → wpAnyK P md ops Q S' m fuel listed a w → wpAnyK P md ops Q S m fuel listed a w
 | 0, _, _, _, _, hh => hh
 | n + 1, _, _, _, hf, hh => ⟨hh.1, fun i hi => wpOp_mono (fun _ _ h' => ⟨fun hm => absurd (asked_less hm) hf, wpAnyK_drop (fun hm => hf (asked_less hm)) h'.2⟩) (hh.2 i hi)⟩
structure Waits (md : Region.Mode) (ops : Array Oper) (listed : Array Bool) (i : Nat) (l : List Nat) : Prop where
 un : ∀ j ∈ l, listed.getD j true = false ∧ j ≠ i
 on : ∀ j ∈ l, ∃ o e, ops[j]? = some o ∧ e ∈ o.after ∧ Region.binds md e = true ∧ (e.on = i ∨ e.on ∈ l)
theorem wpAnyK_first {i : Nat} {oi : Oper} {v : Value} {S1 : World → Prop} {l : List Nat} (hi : ops[i]? = some oi) (hsel : ∀ (j : Nat) (o : Oper) cs b, ops[j]? = some o → o.op ≠ .select cs b)
  (hQ : ∀ c a w, Q (.panic c) (a.put oi.dst v) w → Q (.panic c) a w) (hne : m ≠ some i) (hS1 : (∀ w, S1 w) ∨ (S1 = S ∧ ∀ c, m = some c → c ∈ l)) :
  ∀ (fuel : Nat) (listed : Array Bool) (a : Act) (w : World),
   (∀ j oj, ops[j]? = some oj → j ≠ i → listed.getD j true = false → (∀ e ∈ oj.after, Region.binds md e = true → e.on ≠ i) → oi.apart ops oj = true) →
   i ∈ Region.ready md ops listed → YieldsIf P ops S1 oi v a → S1 w → (asked m (listed.setIfInBounds i true) → S w) → Waits md ops listed i l →
   wpAnyK P md ops Q S m fuel (listed.setIfInBounds i true) (a.put oi.dst v) w → wpAnyK P md ops Q S m (fuel + 1) listed a w := by
 intro fuel
 induction fuel with
 | zero =>
  intro listed a w _ hr hy hS hS0 _ H
  refine ⟨fun h => (by rw [h] at hr; cases hr), fun j hj => ?_⟩
  by_cases hji : j = i
  ·subst hji; exact hy.wpOp hi hS ⟨hS0, H⟩
  ·have := ready_mono hj hji
   rw [H.1] at this
   cases this
 | succ fuel ih =>
  intro listed a w hfree hr hy hS hS0 hW H
  refine ⟨fun h => (by rw [h] at hr; cases hr), fun j hj => ?_⟩
  by_cases hji : j = i
  ·subst hji; exact hy.wpOp hi hS ⟨hS0, H⟩
  ·have h1 := H.2 j (ready_mono hj hji)
   obtain ⟨hjun, oj, hoj, hall⟩ := mem_ready.1 hj
   have hnot : ∀ e ∈ oj.after, Region.binds md e = true → e.on ≠ i := fun e he hb heq => by
    have h1 := hall e he hb
    have h0 := (mem_ready.1 hr).1
    rw [heq] at h1
    rcases Nat.lt_or_ge i listed.size with h' | h'
    ·simp [h'] at h0 h1; rw [h0] at h1; cases h1
    ·simp [Array.getElem?_eq_none h'] at h1
   have hjl : j ∉ l := fun hjl => by
    obtain ⟨o, e, ho, he, hb, hon⟩ := hW.on j hjl
    rw [hoj] at ho
    cases ho
    rcases hon with hon | hon
    ·exact hnot e he hb hon
    ·have h1 := hall e he hb
     have h0 := (hW.un _ hon).1
     rcases Nat.lt_or_ge e.on listed.size with h' | h'
     ·simp [h'] at h0 h1; rw [h0] at h1; cases h1
     ·simp [Array.getElem?_eq_none h'] at h1
   have h2 := wpOp_putIf hoj (hfree j oj hoj hji hjun hnot) (fun cs b => hsel i oi cs b hi) (fun cs b => hsel j oj cs b hoj) hQ hy h1
   have hfree' : ∀ k ok, ops[k]? = some ok → k ≠ i → (listed.setIfInBounds j true).getD k true = false →
     (∀ e ∈ ok.after, Region.binds md e = true → e.on ≠ i) → oi.apart ops ok = true := fun k ok hk hki hun hno => by
    refine hfree k ok hk hki ?_ hno
    by_cases hjk : j = k
    ·subst hjk; exact hjun
    ·rw [getD_set_ne true hjk] at hun; exact hun
   have hW' : Waits md ops (listed.setIfInBounds j true) i l := ⟨fun k hk => by
     obtain ⟨a2, a3⟩ := hW.un k hk
     refine ⟨?_, a3⟩
     rw [getD_set_ne true fun e => hjl (by rw [e]; exact hk)]
     exact a2, hW.on⟩
   refine wpOp_mono (fun a' w' h3 => ?_) h2
   have hS3 : asked m (listed.setIfInBounds j true) → S w' := fun hm => h3.2.1 fun c hc => by
    rw [getD_set_ne_comm i j c listed (fun e => hne (e ▸ hc))]
    exact hm c hc
   have hS' : S1 w' := by
    rcases hS1 with h | ⟨h, hm⟩
    ·exact h w'
    ·rw [h]
     exact hS3 fun c hc => (hW'.un c (hm c hc)).1
   refine ⟨hS3, ih (listed.setIfInBounds j true) a' w' hfree' (ready_mono hr (Ne.symm hji)) h3.1 hS' (fun hm => hS3 (asked_less hm)) hW' ?_⟩
   rw [Array.setIfInBounds_comm _ _ hji]
   exact h3.2.2
theorem wpAnyK_done {listed : Array Bool} {a : Act} {w : World} (hr : Region.ready md ops listed = []) (h : Q .normal a w) : ∀ fuel, wpAnyK P md ops Q S m fuel listed a w
 | 0 => ⟨hr, h⟩
 | _ + 1 => ⟨fun _ => h, by rw [hr]; simp⟩
theorem wp_region_K {id : Nat} {a : Act} {w : World} (hm : P.follows .mixedOrders = true)
  (h : wpAnyK P .any ops Q S m ops.size (Array.replicate ops.size false) a { w with drawn := w.drawn + 1 }) : (Code.region id ops true).wp P Q a w :=
 wp_region_any hm (wpAny_of_K _ _ _ _ h)
end
def Reach (P : Program) (f : FuncId) (R : Ending → World → Prop) (a : Act) (k : List Item) (w : World) : Prop :=
 ∀ (b : Frame), b.fn = f → b.kind = .normal → ∀ cs, ∃ e w' fr, R e w' ∧ Comes P (lone (b.at a k) cs w) (lone fr cs w') e ∧ fr.fn = f ∧ fr.leaving P w' e

section
variable {P : Program} {f : FuncId} {R : Ending → World → Prop} {a a' : Act} {k k' : List Item} {w w' : World}
theorem Reach.steps (h : ∀ (b : Frame) (cs : List Frame), Steps P (lone (b.at a k) cs w) (lone (b.at a' k') cs w')) (hr : Reach P f R a' k' w') : Reach P f R a k w := by
 intro b hb hk cs
 obtain ⟨e, w2, fr, hR, hc, h1, h2⟩ := hr b hb hk cs
 exact ⟨e, w2, fr, hR, Comes.of_steps (h b cs) hc, h1, h2⟩
theorem Reach.step (h : ∀ (b : Frame) (cs : List Frame), Go.step P (lone (b.at a k) cs w) = .next (lone (b.at a' k') cs w')) (hr : Reach P f R a' k' w') : Reach P f R a k w :=
 Reach.steps (fun b cs => .one (h b cs)) hr
theorem Reach.mono {R' : Ending → World → Prop} (hr : Reach P f R a k w) (h : ∀ e w, R e w → R' e w) : Reach P f R' a k w := by
 intro b hb hk cs
 obtain ⟨e, w2, fr, hR, r⟩ := hr b hb hk cs
 exact ⟨e, w2, fr, h _ _ hR, r⟩
def contQ (P : Program) (f : FuncId) (R : Ending → World → Prop) (k : List Item) : Exit → Act → World → Prop := fun e a w => e = .normal ∧ Reach P f R a k w
theorem Reach.wp {c : Code} (h : c.wp P (contQ P f R k) a w) : Reach P f R a (.code c :: k) w := by
 intro b hb hk cs
 obtain ⟨e, a', w', ⟨rfl, hr⟩, harr⟩ := h b k cs
 obtain ⟨e2, w2, fr, hR, hc, h1, h2⟩ := hr b hb hk cs
 exact ⟨e2, w2, fr, hR, Comes.of_steps harr hc, h1, h2⟩
theorem Reach.ops {ops : Array Oper} {l : List Nat} (h : wpOps P ops (contQ P f R k) l a w) : Reach P f R a (.inRegion ops l :: k) w := by
 intro b hb hk cs
 obtain ⟨e, a', w', ⟨rfl, hr⟩, harr⟩ := wp_ops l a w h b k cs
 obtain ⟨e2, w2, fr, hR, hc, h1, h2⟩ := hr b hb hk cs
 exact ⟨e2, w2, fr, hR, Comes.of_steps harr hc, h1, h2⟩
theorem Reach.region {ops : Array Oper} {id : Nat} (h : wpOps P ops (contQ P f R k) (List.range ops.size) a w) : Reach P f R a (.code (.region id ops false) :: k) w :=
 Reach.wp (wp_region h)
theorem Reach.draw {ops : Array Oper} {id : Nat} {S : World → Prop} {m : Option Nat} (hm : P.follows .mixedOrders = true)
  (h : wpAnyK P .any ops (contQ P f R k) S m ops.size (Array.replicate ops.size false) a { w with drawn := w.drawn + 1 }) : Reach P f R a (.code (.region id ops true) :: k) w :=
 Reach.wp (wp_region_K hm h)
theorem Reach.ret {fn : Func} {v : Value} (hf : P.funcs[f]? = some fn) (hd : a.defers = []) (hr : (results fn a.tmps).run P w = .ok v w) (hR : R (.returned v) w) :
  Reach P f R a (.code .ret :: k) w := by
 intro b hb hk cs
 subst hb
 exact ⟨.returned v, w, { b.at a (.code .ret :: k) with mode := .returning }, hR, .one step_ret, rfl, rfl, hd, hk, fn, hf, hr⟩
theorem Reach.end {fn : Func} {v : Value} (hf : P.funcs[f]? = some fn) (hd : a.defers = []) (hr : (results fn a.tmps).run P w = .ok v w) (hR : R (.returned v) w) :
  Reach P f R a [] w := by
 intro b hb hk cs
 subst hb
 exact ⟨.returned v, w, { b.at a [] with mode := .returning }, hR, .one step_end, rfl, rfl, hd, hk, fn, hf, hr⟩
theorem Reach.calls {fn : Func} {c : Code} {args : Array Value} (hf : P.funcs[f]? = some fn) (hb : fn.body = some c)
  (h : Reach P f R { tmps := args ++ Array.replicate (fn.ntmps - args.size) undef, defers := [] } [.code c] w) : Calls P f args w R := by
 intro cs
 let b : Frame := { (default : Frame) with fn := f, kind := .normal }
 have henter : Frame.enter P f args .normal = b.at { tmps := args ++ Array.replicate (fn.ntmps - args.size) undef, defers := [] } [.code c] := by
  simp [Frame.enter, Frame.at, hf, hb, b]
 obtain ⟨e, w', fr, hR, hc, h1, h2⟩ := h b rfl rfl cs
 rw [← henter] at hc
 exact ⟨e, w', fr, hR, hc, h1, h2⟩
end

/-! ### places in a function's code -/
def Code.at : Code → List Nat → Option Code
 | c, [] => some c
 | .seq a _, 0 :: p => Code.at a p
 | .seq _ b, 1 :: p => Code.at b p
 | .cond _ t _, 0 :: p => Code.at t p
 | .cond _ _ e, 1 :: p => Code.at e p
 | .block _ b, 0 :: p => Code.at b p
 | .loop b, 0 :: p => Code.at b p
 | .scope b, 0 :: p => Code.at b p
 | _, _ => none
theorem Code.at_snoc : ∀ (c : Code) (p : List Nat) (i : Nat), Code.at c (p ++ [i]) = (Code.at c p).bind fun d => Code.at d [i] := by
 intro c p
 induction p generalizing c with
 | nil => intro i; simp [Code.at]
 | cons q p ih =>
  intro i
  cases c <;> simp only [List.cons_append]
  all_goals first
   | (rcases q with _ | _ | q <;> simp [Code.at, ih]; done)
   | (simp [Code.at]; done)
inductive SI where
 | code (p : List Nat)
 | blk (id : Nat)
 | lop (p : List Nat)
 | scp (p : List Nat)
 deriving Inhabited
def SI.conc (body : Code) : SI → Item
 | .code p => .code ((Code.at body p).getD .skip)
 | .blk id => .inBlock id
 | .lop p => .inLoop ((Code.at body p).getD .skip)
 | .scp p => .inScope ((Code.at body p).getD .skip)
def exitToS (id : Nat) : List SI → Option (List SI)
 | .blk id' :: k => if id' == id then some k else exitToS id k
 | _ :: k => exitToS id k
 | [] => none
theorem exitToS_ok (body : Code) (id : Nat) : ∀ {k k' : List SI}, exitToS id k = some k' → exitTo id (k.map (SI.conc body)) = some (k'.map (SI.conc body))
 | [], _, h => by simp [exitToS] at h
 | x :: k, k', h => by
  cases x <;> simp only [exitToS, List.map_cons, SI.conc, exitTo] at h ⊢
  ·exact exitToS_ok body id h
  ·split at h
   ·rename_i he; rw [if_pos he]; simp at h; rw [h]
   ·rename_i he; rw [if_neg he]; exact exitToS_ok body id h
  ·exact exitToS_ok body id h
  ·exact exitToS_ok body id h

end Go.Rex
