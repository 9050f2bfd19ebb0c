/- Rex, part 9: 'Reach': from here the function comes to its end. -/
import Derived.Test.YtjhnfmfajbghbaaDoorRex8
set_option linter.unusedSimpArgs false
set_option linter.unusedVariables false
namespace Go.Rex

def Reach (P : Program) (f : FuncId) (R : Ending → World → Prop) (a : Act) (k : List Item) (w : World) : Prop :=
  ∀ (b : Frame), b.fn = f → b.kind = .normal → ∀ cs, ∃ e w' fr, R e w' ∧ Comes P (lone (b.at a k) cs w) (lone fr cs w') e ∧ fr.fn = f ∧ fr.leaving P w' e

section
variable {P : Program} {f : FuncId} {R : Ending → World → Prop} {a a' : Act} {k k' : List Item} {w w' : World}
theorem Reach.steps (h : ∀ (b : Frame) (cs : List Frame), Steps P (lone (b.at a k) cs w) (lone (b.at a' k') cs w')) (hr : Reach P f R a' k' w') : Reach P f R a k w := by
  intro b hb hk cs
  obtain ⟨e, w2, fr, hR, hc, h1, h2⟩ := hr b hb hk cs
  exact ⟨e, w2, fr, hR, Comes.of_steps (h b cs) hc, h1, h2⟩
theorem Reach.step (h : ∀ (b : Frame) (cs : List Frame), Go.step P (lone (b.at a k) cs w) = .next (lone (b.at a' k') cs w')) (hr : Reach P f R a' k' w') : Reach P f R a k w :=
  Reach.steps (fun b cs => .one (h b cs)) hr
theorem Reach.mono {R' : Ending → World → Prop} (hr : Reach P f R a k w) (h : ∀ e w, R e w → R' e w) : Reach P f R' a k w := by
  intro b hb hk cs
  obtain ⟨e, w2, fr, hR, r⟩ := hr b hb hk cs
  exact ⟨e, w2, fr, h _ _ hR, r⟩
/-- what stands behind a piece of code -/
def contQ (P : Program) (f : FuncId) (R : Ending → World → Prop) (k : List Item) : Exit → Act → World → Prop := fun e a w => e = .normal ∧ Reach P f R a k w
theorem Reach.wp {c : Code} (h : c.wp P (contQ P f R k) a w) : Reach P f R a (.code c :: k) w := by
  intro b hb hk cs
  obtain ⟨e, a', w', ⟨rfl, hr⟩, harr⟩ := h b k cs
  obtain ⟨e2, w2, fr, hR, hc, h1, h2⟩ := hr b hb hk cs
  exact ⟨e2, w2, fr, hR, Comes.of_steps harr hc, h1, h2⟩
theorem Reach.ops {ops : Array Oper} {l : List Nat} (h : wpOps P ops (contQ P f R k) l a w) : Reach P f R a (.inRegion ops l :: k) w := by
  intro b hb hk cs
  obtain ⟨e, a', w', ⟨rfl, hr⟩, harr⟩ := wp_ops l a w h b k cs
  obtain ⟨e2, w2, fr, hR, hc, h1, h2⟩ := hr b hb hk cs
  exact ⟨e2, w2, fr, hR, Comes.of_steps harr hc, h1, h2⟩
theorem Reach.region {ops : Array Oper} {id : Nat} (h : wpOps P ops (contQ P f R k) (List.range ops.size) a w) : Reach P f R a (.code (.region id ops false) :: k) w :=
  Reach.wp (wp_region h)
theorem Reach.draw {ops : Array Oper} {id : Nat} {S : World → Prop} (hm : P.follows .mixedOrders = true)
    (h : wpAnyH P .any ops (contQ P f R k) S ops.size (Array.replicate ops.size false) a { w with drawn := w.drawn + 1 }) : Reach P f R a (.code (.region id ops true) :: k) w :=
  Reach.wp (wp_region_held hm h)
theorem Reach.ret {fn : Func} {v : Value} (hf : P.funcs[f]? = some fn) (hd : a.defers = []) (hr : (results fn a.tmps).run P w = .ok v w) (hR : R (.returned v) w) :
    Reach P f R a (.code .ret :: k) w := by
  intro b hb hk cs
  subst hb
  exact ⟨.returned v, w, { b.at a (.code .ret :: k) with mode := .returning }, hR, .one step_ret, rfl, rfl, hd, hk, fn, hf, hr⟩
theorem Reach.end {fn : Func} {v : Value} (hf : P.funcs[f]? = some fn) (hd : a.defers = []) (hr : (results fn a.tmps).run P w = .ok v w) (hR : R (.returned v) w) :
    Reach P f R a [] w := by
  intro b hb hk cs
  subst hb
  exact ⟨.returned v, w, { b.at a [] with mode := .returning }, hR, .one step_end, rfl, rfl, hd, hk, fn, hf, hr⟩
theorem Reach.calls {fn : Func} {c : Code} {args : Array Value} (hf : P.funcs[f]? = some fn) (hb : fn.body = some c)
    (h : Reach P f R { tmps := args ++ Array.replicate (fn.ntmps - args.size) undef, defers := [] } [.code c] w) : Calls P f args w R := by
  intro cs
  let b : Frame := { (default : Frame) with fn := f, kind := .normal }
  have henter : Frame.enter P f args .normal = b.at { tmps := args ++ Array.replicate (fn.ntmps - args.size) undef, defers := [] } [.code c] := by
    simp [Frame.enter, Frame.at, hf, hb, b]
  obtain ⟨e, w', fr, hR, hc, h1, h2⟩ := h b rfl rfl cs
  rw [← henter] at hc
  exact ⟨e, w', fr, hR, hc, h1, h2⟩
end

/-! ### places in a function's code -/
def Code.at : Code → List Nat → Option Code
  | c, [] => some c
  | .seq a _, 0 :: p => Code.at a p
  | .seq _ b, 1 :: p => Code.at b p
  | .cond _ t _, 0 :: p => Code.at t p
  | .cond _ _ e, 1 :: p => Code.at e p
  | .block _ b, 0 :: p => Code.at b p
  | .loop b, 0 :: p => Code.at b p
  | .scope b, 0 :: p => Code.at b p
  | _, _ => none
theorem Code.at_snoc : ∀ (c : Code) (p : List Nat) (i : Nat), Code.at c (p ++ [i]) = (Code.at c p).bind fun d => Code.at d [i] := by
  intro c p
  induction p generalizing c with
  | nil => intro i; simp [Code.at]
  | cons q p ih =>
    intro i
    cases c <;> simp only [List.cons_append]
    all_goals first
      | (rcases q with _ | _ | q <;> simp [Code.at, ih]; done)
      | (simp [Code.at]; done)
inductive SI where
  | code (p : List Nat)
  | blk (id : Nat)
  | lop (p : List Nat)
  | scp (p : List Nat)
  deriving Inhabited
def SI.conc (body : Code) : SI → Item
  | .code p => .code ((Code.at body p).getD .skip)
  | .blk id => .inBlock id
  | .lop p => .inLoop ((Code.at body p).getD .skip)
  | .scp p => .inScope ((Code.at body p).getD .skip)
def exitToS (id : Nat) : List SI → Option (List SI)
  | .blk id' :: k => if id' == id then some k else exitToS id k
  | _ :: k => exitToS id k
  | [] => none
theorem exitToS_ok (body : Code) (id : Nat) : ∀ {k k' : List SI}, exitToS id k = some k' → exitTo id (k.map (SI.conc body)) = some (k'.map (SI.conc body))
  | [], _, h => by simp [exitToS] at h
  | x :: k, k', h => by
    cases x <;> simp only [exitToS, List.map_cons, SI.conc, exitTo] at h ⊢
    · exact exitToS_ok body id h
    · split at h
      · rename_i he; rw [if_pos he]; simp at h; rw [h]
      · rename_i he; rw [if_neg he]; exact exitToS_ok body id h
    · exact exitToS_ok body id h
    · exact exitToS_ok body id h

end Go.Rex
