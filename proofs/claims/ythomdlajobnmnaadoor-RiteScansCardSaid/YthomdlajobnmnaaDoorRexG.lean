/- Rex, part G: what a state of the symbolic run says of the machine's; what is to be shown at it. -/
import Derived.Test.YthomdlajobnmnaaDoorRexF
set_option linter.unusedSimpArgs false
set_option linter.unusedVariables false
namespace Go.Rex

/-! ### what has changed since the beginning -/
structure Wrt (w0 : World) (W : Nat → Prop) (w : World) : Prop where
 os : w.os = w0.os
 tape : w.tape = w0.tape
 output : w.output = w0.output
 size : w0.heap.size ≤ w.heap.size
 block : ∀ k, k < w0.heap.size → ¬ W k → w.heap[k]? = w0.heap[k]?
theorem Wrt.refl (w : World) (W : Nat → Prop) : Wrt w W w := ⟨rfl, rfl, rfl, Nat.le_refl _, fun _ _ _ => rfl⟩
theorem Wrt.step {w0 w w' : World} {W : Nat → Prop} (h : Wrt w0 W w) (h1 : w'.os = w.os) (h2 : w'.tape = w.tape) (h3 : w'.output = w.output) (h4 : w.heap.size ≤ w'.heap.size)
  (h5 : ∀ k, k < w0.heap.size → ¬ W k → w'.heap[k]? = w.heap[k]?) : Wrt w0 W w' :=
 ⟨h1.trans h.os, h2.trans h.tape, h3.trans h.output, Nat.le_trans h.size h4, fun k hk hn => (h5 k hk hn).trans (h.block k hk hn)⟩
def OwnOK (z : Nat) (W : Nat → Prop) (ρ : Env) (ν : Nat → Addr) (hp : List SB) : Prop :=
 ∀ (k : Nat) (sb : SB), hp[k]? = some sb → sb.own = true → sb.dead ρ = false → z ≤ (ν k).block ∨ W (ν k).block
def ownW (ρ : Env) (ν : Nat → Addr) (hp : List SB) (b : Nat) : Prop := ∃ (k : Nat) (sb : SB), hp[k]? = some sb ∧ sb.own = true ∧ sb.dead ρ = false ∧ b = (ν k).block

/-! ### contracts -/
structure ConOK (P : Program) (k : Con) (pre post : Env → Prop) : Prop where
 fn : ∃ fn, P.funcs[k.f]? = some fn ∧ fn.body.isSome = true ∧ (fn.name == "runtime.NumGoroutine") = false
 run : ∀ ρ ν w, HpOK ρ ν k.hp w → GlOK ν k.gl → pre ρ.num → Calls P k.f (k.args.map (·.den ρ ν)).toArray w fun e w' =>
  ∃ ρ' ν', Agr k.nv k.hp.length ρ ρ' ν ν' ∧ e = .returned (k.ret.den ρ' ν') ∧ HpOK ρ' ν' k.hp' w' ∧ Wrt w (ownW ρ ν k.hp) w' ∧ OwnOK w.heap.size (ownW ρ ν k.hp) ρ' ν' k.hp' ∧ post ρ'.num
def conOld : List SB → List SB → Bool
 | [], _ => true
 | T :: r, [] => !T.own && conOld r []
 | T :: r, U :: s => (!T.own || U.gone || (!T.ro && !U.ro && T.nl.same U.nl)) && conOld r s
def conNew : List SB → Bool
 | [] => true
 | T :: r => (T.gone || (T.own && !T.ro)) && conNew r
def conWf (k : Con) : Bool := Nat.ble k.nv k.nv' && Nat.ble k.hp.length k.hp'.length && hpSc k.nv k.hp.length k.hp && conOld k.hp k.hp' && conNew (k.hp'.drop k.hp.length)

/-! ### the relation -/
structure Base where
 w : World
 W : Nat → Prop
 ρ : Env
 ν : Nat → Addr
 nv : Nat
 n : Nat
structure FOK (T : Tab) (ρ : Env) (ν : Nat → Addr) (F : SFrame) (a : Act) (S : World → Prop) : Prop where
 fr : FrOK ρ ν F.fr a
 tmps : T.ntmps F.f ≤ a.tmps.size
 defers : a.defers = []
 held : ∀ p k sc d, F.cur = .dr p k sc d → ∀ w, S w ↔ HpOK ρ ν sc w
abbrev AS := Act × (World → Prop)
def StOK (T : Tab) (ρ : Env) (ν : Nat → Addr) : List (SFrame × Nat) → List AS → Prop
 | [], [] => True
 | x :: r, y :: s => FOK T ρ ν x.1 y.1 y.2 ∧ StOK T ρ ν r s
 | _, _ => False
structure Rel (T : Tab) (B : Base) (ρ : Env) (ν : Nat → Addr) (c : Cfg) (a : AS) (as : List AS) (w : World) : Prop where
 nv : B.nv ≤ c.nv
 n : B.n ≤ c.hp.length
 agr : Agr B.nv B.n B.ρ ρ B.ν ν
 kn : Kn.ok ρ c.kn
 gl : GlOK ν c.gl
 hp : HpOK ρ ν c.hp w
 wr : Wrt B.w B.W w
 own : OwnOK B.w.heap.size B.W ρ ν c.hp
 top : FOK T ρ ν c.top a.1 a.2
 stk : StOK T ρ ν c.stk as
 held : ∀ p k sc, c.top.cur = .dr p k sc false → wkHp sc c.hp = true
theorem OwnOK.ext {z : Nat} {W : Nat → Prop} {nv n : Nat} {ρ ρ' : Env} {ν ν' : Nat → Addr} {hp : List SB} (h : OwnOK z W ρ ν hp) (hA : Agr nv n ρ ρ' ν ν') (hs : hpSc nv n hp = true) (hl : hp.length ≤ n) : OwnOK z W ρ' ν' hp := by
 intro k sb hk ho hd
 rw [hA.bl k (Nat.lt_of_lt_of_le (List.getElem?_eq_some_iff.1 hk).1 hl)]
 exact h k sb hk ho (by rwa [SB.sc_dead hA (hpSc_at hs k sb hk)] at hd)
theorem FOK.ext {T : Tab} {nv n : Nat} {ρ ρ' : Env} {ν ν' : Nat → Addr} (hA : Agr nv n ρ ρ' ν ν') {F : SFrame} {a : Act} {S : World → Prop} (hs : F.sc nv n = true) (h : FOK T ρ ν F a S) :
  FOK T ρ' ν' F a S := by
 simp only [SFrame.sc, Bool.and_eq_true] at hs
 refine ⟨FrOK.ext hA hs.1 h.fr, h.tmps, h.defers, fun p k sc d hc w => ?_⟩
 have h2 := hs.2
 rw [hc] at h2
 simp only [Bool.and_eq_true, Nat.ble_eq] at h2
 rw [h.held p k sc d hc w]
 exact HpOK.ext_iff hA h2.1 h2.2
theorem StOK.ext {T : Tab} {nv n : Nat} {ρ ρ' : Env} {ν ν' : Nat → Addr} (hA : Agr nv n ρ ρ' ν ν') : ∀ {st : List (SFrame × Nat)} {as : List AS}, stkSc nv n st = true → StOK T ρ ν st as → StOK T ρ' ν' st as
 | [], [], _, _ => trivial
 | [], _ :: _, _, h => h
 | _ :: _, [], _, h => h
 | x :: r, y :: s, hs, h => by
  simp only [stkSc, Bool.and_eq_true] at hs
  exact ⟨FOK.ext hA hs.1 h.1, StOK.ext hA hs.2 h.2⟩
theorem GlOK.ext {nv n : Nat} {ρ ρ' : Env} {ν ν' : Nat → Addr} (hA : Agr nv n ρ ρ' ν ν') {gl : List (Nat × Nat)} (hs : glSc n gl = true) (h : GlOK ν gl) : GlOK ν' gl := by
 have lt : ∀ g k, assoc g gl = some k → k < n := by
  intro g k hk
  have hm := assoc_mem hk
  clear h hk
  induction gl with
  | nil => cases hm
  | cons x r ih =>
   simp only [glSc, Bool.and_eq_true, Nat.blt_eq] at hs
   rcases List.mem_cons.1 hm with rfl | hm
   ·exact hs.1
   ·exact ih hs.2 hm
 refine ⟨fun g k hg hk => ?_, fun g g' k k' h1 h2 h3 h4 hne => ?_⟩
 ·rw [hA.bl k (lt g k hk)]
  exact h.at_ g k hg hk
 ·rw [hA.bl k (lt g k h3), hA.bl k' (lt g' k' h4)]
  exact h.ne g g' k k' h1 h2 h3 h4 hne
theorem Rel.ext {T : Tab} {B : Base} {ρ ρ' : Env} {ν ν' : Nat → Addr} {c : Cfg} {a : AS} {as : List AS} {w : World} (h : Rel T B ρ ν c a as w) (hs : c.sc = true)
  (hA : Agr c.nv c.hp.length ρ ρ' ν ν') : Rel T B ρ' ν' c a as w := by
 simp only [Cfg.sc, Bool.and_eq_true] at hs
 obtain ⟨⟨⟨⟨h1, h2⟩, h3⟩, h4⟩, h5⟩ := hs
 exact ⟨h.nv, h.n, h.agr.trans hA h.nv h.n, kn_den hA h1 h.kn, h.gl.ext hA h5, HpOK.ext hA h2 (Nat.le_refl _) h.hp, h.wr, h.own.ext hA h2 (Nat.le_refl _), h.top.ext hA h3, h.stk.ext hA h4, h.held⟩

/-! ### what is to be shown at a state -/
def drGoal (P : Program) (ops : Array Oper) (Q : Exit → Act → World → Prop) (S : World → Prop) : Sch → Array Bool → Act → World → Prop
 | .go i k, listed, a, w => wpOp P ops Q i (fun a' w' => (asked k.lim (listed.setIfInBounds i true) → S w') ∧ wpAnyK P .any ops Q S k.lim k.size (listed.setIfInBounds i true) a' w') a w
 | s, listed, a, w => wpAnyK P .any ops Q S s.lim s.size listed a w
theorem drGoal_plain {P : Program} {ops : Array Oper} {Q : Exit → Act → World → Prop} {S : World → Prop} {s : Sch} (h : s.isGo = false) {listed : Array Bool} {a : Act} {w : World} :
  drGoal P ops Q S s listed a w ↔ wpAnyK P .any ops Q S s.lim s.size listed a w := by
 cases s <;> first | exact Iff.rfl | (cases h)
def topGoal (P : Program) (T : Tab) (R : Ending → World → Prop) (F : SFrame) (a : AS) (w : World) : Prop :=
 let k := F.todo.map (SI.conc (T.body F.f))
 match F.cur with
 | .none => Reach P F.f R a.1 k w
 | .reg p i => wpOps P (T.ops F.f p) (contQ P F.f R k) (List.range' i ((T.ops F.f p).size - i)) a.1 w
 | .dr p s _ _ => (s.isDrop = false → a.2 w) ∧ ∀ listed : Array Bool, Region.noSelect (T.ops F.f p) = true → SchP (T.ops F.f p) listed s → drGoal P (T.ops F.f p) (contQ P F.f R k) a.2 s listed a.1 w
def RK (P : Program) (T : Tab) (R : Ending → World → Prop) : List (SFrame × Nat) → List AS → Ending → World → Prop
 | [], _, e, w => R e w
 | (G, i) :: st, a :: as, e, w => ∃ v, e = .returned v ∧ topGoal P T (RK P T R st as) (G.adv i) (a.1.put (((T.ops G.f G.pth)[i]?).bind (·.dst)) v, a.2) w
 | _ :: _, [], _, _ => False
def Goal (P : Program) (T : Tab) (R : Ending → World → Prop) (c : Cfg) (a : AS) (as : List AS) (w : World) : Prop :=
 topGoal P T (RK P T R c.stk as) c.top a w

/-! ### the tree: what is to be shown of it, the variables being read so -/
def conEnv (σ : Sub) (m d : Nat) (ρ ρ' : Env) : Env where
 iv := fun i => if i < m then (σ.nenv ρ).iv i else ρ'.iv (i - m + d)
 bv := fun i => if i < m then (σ.nenv ρ).bv i else ρ'.bv (i - m + d)
 ic := fun i => if i < m then (σ.nenv ρ).ic i else ρ'.ic (i - m + d)
 bc := fun i => if i < m then (σ.nenv ρ).bc i else ρ'.bc (i - m + d)
abbrev Cons' := List (Nat × (Env → Prop) × (Env → Prop))
def Sat (post : Env → Prop) (cs : List (Con × (Env → Prop) × (Env → Prop))) : List (Env → Prop) → Env → Out → Prop
 | _, ρ, .fin σ => post (σ.nenv ρ)
 | _, _, .stop _ => False
 | Γ, ρ, .br c t e => (c.den ρ = true → Sat post cs Γ ρ t) ∧ (c.den ρ = false → Sat post cs Γ ρ e)
 | Γ, ρ, .ob b k => b.den ρ = true ∧ (b.den ρ = true → Sat post cs Γ ρ k)
 | Γ, ρ, .alt a b => Sat post cs Γ ρ a ∧ Sat post cs Γ ρ b
 | Γ, ρ, .new nv fs k => ∀ e : Env, (∀ f ∈ fs, f.den (ρ.join nv e)) → Sat post cs Γ (ρ.join nv e) k
 | Γ, ρ, .loop nv σ k => ∃ (Inv : Env → Prop) (m : Env → Nat), Inv (σ.nenv ρ) ∧ ∀ e : Env, Inv (ρ.join nv e).num → Sat post cs ((fun ρ' => Inv ρ' ∧ m ρ' < m (ρ.join nv e).num) :: Γ) (ρ.join nv e) k
 | Γ, ρ, .back i σ => ∃ G, Γ[i]? = some G ∧ G (σ.nenv ρ)
 | Γ, ρ, .call g σ nv k => ∃ c pre post', cs[g]? = some (c, pre, post') ∧ pre (σ.nenv ρ) ∧ ∀ e : Env, post' (conEnv σ c.nv nv ρ (ρ.join nv e)) → Sat post cs Γ (ρ.join nv e) k
 | _, _, .bad _ => False
end Go.Rex
