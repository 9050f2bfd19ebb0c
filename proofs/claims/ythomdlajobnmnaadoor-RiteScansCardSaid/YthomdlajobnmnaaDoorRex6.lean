/- Rex, part 6: operators on two values. -/
import Derived.Test.YthomdlajobnmnaaDoorRex5
import Derived.IntWalk
set_option linter.unusedSimpArgs false
set_option linter.unusedVariables false
namespace Go.Rex

theorem wrap_inr {k : IntKind} {n : Int} (h1 : k.min ≤ n) (h2 : n ≤ k.max) : k.wrap n = n := by
 cases k
 ·exact IntWalk.i8_in n ⟨h1, h2⟩
 ·exact IntWalk.i16_in n ⟨h1, h2⟩
 ·exact IntWalk.i32_in n ⟨h1, h2⟩
 ·exact IntWalk.i64_in n ⟨h1, h2⟩
 ·exact IntWalk.u8_in n ⟨h1, h2⟩
 ·exact IntWalk.u16_in n ⟨h1, h2⟩
 ·exact IntWalk.u32_in n ⟨h1, h2⟩
 ·exact IntWalk.u64_in n ⟨h1, h2⟩

def IE.subS (a b : IE) : IE :=
 match a.lit?, b.lit? with
 | some x, some y => .lit (x - y)
 | none, some y => if y == 0 then a else .sub a b
 | _, _ => .sub a b
theorem IE.subS_den (ρ : Env) (a b : IE) : (a.subS b).den ρ = a.den ρ - b.den ρ := by
 unfold IE.subS
 split
 ·rename_i h1 h2; simp [IE.lit?_ok h1, IE.lit?_ok h2, IE.den]
 ·rename_i y _ h1; split
  ·rename_i h; simp at h; simp [IE.lit?_ok h1, h]
  ·simp [IE.den]
 ·simp [IE.den]
def fitE (wr : Bool) (k : IntKind) (e : IE) : IE × List BE :=
 match e.lit? with
 | some n => (.lit (k.wrap n), [])
 | none => match k with
  | .i64 => if wr then (.wrap .i64 e, []) else (e, [.inr .i64 e])
  | _ => (.wrap k e, [])
theorem fitE_ok {wr : Bool} {ρ : Env} {k : IntKind} {e : IE} (h : ∀ o ∈ (fitE wr k e).2, o.den ρ = true) : (fitE wr k e).1.den ρ = k.wrap (e.den ρ) := by
 unfold fitE at *
 split
 ·rename_i n hn; simp [IE.den, IE.lit?_ok hn]
 ·rename_i hn
  rw [hn] at h
  split
  ·cases wr with
   | true => rfl
   | false =>
    simp [BE.den] at h
    exact (wrap_inr h.1 h.2).symm
  ·rfl
def arithE (wr : Bool) (op : BinOp) (k : IntKind) (a b : IE) : Option (IE × List BE) :=
 match op with
 | .add => some (fitE wr k (a.addS b))
 | .sub => some (fitE wr k (a.subS b))
 | .mul => some (fitE wr k (.mul a b))
 | .quo =>
  let (e, o) := fitE wr k (.div a b)
  match b.lit? with
  | some n => if n == 0 then none else some (e, o)
  | none => some (e, .not (.ieq b (.lit 0)) :: o)
 | .rem =>
  match b.lit? with
  | some n => if n == 0 then none else some (match a.lit? with | some m => .lit (m.tmod n) | none => .mod a b, [])
  | none => some (.mod a b, [.not (.ieq b (.lit 0))])
 | _ => none
def BE.iltS (a b : IE) : BE := match a.lit?, b.lit? with
 | some x, some y => .lit (Decidable.decide (x < y))
 | _, _ => .ilt a b
def BE.ileS (a b : IE) : BE := match a.lit?, b.lit? with
 | some x, some y => .lit (Decidable.decide (x ≤ y))
 | _, _ => .ile a b
theorem BE.iltS_den (ρ : Env) (a b : IE) : (BE.iltS a b).den ρ = Decidable.decide (a.den ρ < b.den ρ) := by
 unfold BE.iltS
 split
 ·rename_i h1 h2; simp [BE.den, IE.lit?_ok h1, IE.lit?_ok h2]
 ·rfl
theorem BE.ileS_den (ρ : Env) (a b : IE) : (BE.ileS a b).den ρ = Decidable.decide (a.den ρ ≤ b.den ρ) := by
 unfold BE.ileS
 split
 ·rename_i h1 h2; simp [BE.den, IE.lit?_ok h1, IE.lit?_ok h2]
 ·rfl
def cmpE (op : BinOp) (a b : IE) : Option BE :=
 match op with
 | .eql => some (.ieqS a b)
 | .neq => some (BE.ieqS a b).notS
 | .lss => some (.iltS a b)
 | .leq => some (.ileS a b)
 | .gtr => some (.iltS b a)
 | .geq => some (.ileS b a)
 | _ => none
def isNilif : SW → Bool
 | .one .nilif => true
 | .one (.ifn _ _) => true
 | _ => false
def isAggW : SW → Bool
 | .agg _ => true
 | _ => false
def eqlW (T : Tab) (neg : Bool) (t : TypeId) (c : Bool) (x y : SW) : PR :=
 if isNilif x && isNilif y && !c then .no
 else if isAggW x && isAggW y && !((T.ty t).map (·.eqs)).getD false then .no
 else match eqW T 40 t x y with
  | some b => PR.one (.bool (if neg then b.notS else b))
  | none => .no
def isStr : SW → Option (List UInt8)
 | .one (.str l) => some l
 | _ => none
def binW (T : Tab) (op : BinOp) (t : TypeId) (c : Bool) (x y : SW) : PR :=
 match x, y with
 | .one (.int k a), .one (.int l b) =>
  if kindEq k l then
   match op with
   | .add | .sub | .mul | .quo | .rem => match arithE T.wr op k a b with | some (e, o) => PR.one (.int k e) o | none => .no
   | .eql | .neq | .lss | .leq | .gtr | .geq => match cmpE op a b with | some b => PR.one (.bool b) | none => .no
   | _ => .no
  else .no
 | x, y =>
  match isStr x, isStr y with
  | some l, some m => match op with
   | .eql => PR.one (.bool (.lit (l == m)))
   | .neq => PR.one (.bool (.lit (!(l == m))))
   | _ => .no
  | _, _ => match op with
   | .eql => eqlW T false t c x y
   | .neq => eqlW T true t c x y
   | _ => .no

theorem eqGuard_plain {P : Program} {op : BinOp} {t : TypeId} {X Y : Operand} {a b : Value} {w : World}
  (h1 : a = .nilIface → b = .nilIface → False) (h2 : isAggV a = true → isAggV b = true → False) : (eqGuard op t X Y a b).run P w = .ok () w := by
 unfold eqGuard
 cases op <;> simp only [Bool.not_true, Bool.not_false, Bool.false_eq_true, if_false, if_true] <;> try rfl
 all_goals
  split
  ·exact (h1 rfl rfl).elim
  ·exact (h2 rfl rfl).elim
  ·rfl
def isC : Operand → Bool
 | .const _ => true
 | _ => false
theorem eqGuard_nil {P : Program} {op : BinOp} {t : TypeId} {X Y : Operand} {w : World} (h : (isC X || isC Y) = true) :
  (eqGuard op t X Y .nilIface .nilIface).run P w = .ok () w := by
 unfold eqGuard
 cases X <;> cases Y <;> first | (cases op <;> rfl) | (simp [isC] at h)
theorem isAggV_one {ρ : Env} {ν : Nat → Addr} (c : SC) : isAggV (c.den ρ ν) = true → False := by
 by_cases hh : c.isHole = true
 ·induction c with
  | ifn k x ih =>
   simp only [SC.den]
   split
   ·simp [isAggV]
   ·exact ih (by simpa [SC.isHole] using hh)
  | hole => simp [SC.den, undef, isAggV]
  | _ => simp [SC.isHole] at hh
 ·have := SC.oneCell (ρ := ρ) (ν := ν) c (by simpa using hh)
  intro h
  unfold isAggV at h
  split at h
  ·rename_i e; rw [e] at this; simp [Value.oneCell'] at this
  ·cases h
theorem den_nilif {ρ : Env} {ν : Nat → Addr} {x : SW} (h : x.den ρ ν = .nilIface) : isNilif x = true ∨ (∃ i, x = .one (.val i)) ∨ (∃ r a b j, x = .one (.vcell r a b j)) := by
 cases x with
 | agg cs => simp [SW.den] at h
 | one c =>
  cases c <;> simp [SW.den, SC.den, isNilif, undef] at h ⊢
  split at h <;> cases h
theorem eqW_noval {T : Tab} {n : Nat} {t : TypeId} {x y : SW} {c : BE} (h : eqW T n t x y = some c) :
  (∀ i, x ≠ .one (.val i)) ∧ (∀ r a b j, x ≠ .one (.vcell r a b j)) ∧ (∀ i, y ≠ .one (.val i)) ∧ (∀ r a b j, y ≠ .one (.vcell r a b j)) ∧ (∀ k z, x = .one (.ifn k z) → ∃ t d, z = .iface t d) ∧ (∀ k z, y = .one (.ifn k z) → ∃ t d, z = .iface t d) := by
 cases n with
 | zero => simp [eqW] at h
 | succ n =>
  unfold eqW at h
  split at h
  ·cases h
  ·split at h
   all_goals first
    | (simp; done)
    | cases h
    | (refine ⟨by simp, by simp, by simp, by simp, fun k z e => ?_, fun k z e => ?_⟩
       · first | (simp at e; done) | (simp at e; exact ⟨_, _, e.2.symm⟩)
       · first | (simp at e; done) | (simp at e; exact ⟨_, _, e.2.symm⟩))
theorem eqlW_ok {P : Program} {T : Tab} (hT : TabOK P T) {neg : Bool} {t : TypeId} {X Y : Operand} {x y : SW} {v : SV} {obs : List BE} {ρ : Env} {ν : Nat → Addr} {w : World}
  (h : eqlW T neg t (isC X || isC Y) x y = .ok v obs)
  (hb : (binOp (if neg then .neq else .eql) t (x.den ρ ν) (y.den ρ ν)).run P w = ((Op.equal t (x.den ρ ν) (y.den ρ ν)).run P w).andThen fun b w' => .ok (.bool (if neg then !b else b)) w') :
  (do eqGuard (if neg then .neq else .eql) t X Y (x.den ρ ν) (y.den ρ ν); binOp (if neg then .neq else .eql) t (x.den ρ ν) (y.den ρ ν) : Sem Value).run P w = .ok (v.den ρ ν) w := by
 unfold eqlW at h
 split at h
 ·cases h
 rename_i g1
 split at h
 ·cases h
 rename_i g2
 split at h
 case h_2 => cases h
 rename_i b hb'
 simp only [PR.one, PR.ok.injEq] at h
 obtain ⟨h, _⟩ := h
 subst h
 obtain ⟨n1, n2, n3, n4, n5, n6⟩ := eqW_noval hb'
 have heq := (eqW_ok hT (ρ := ρ) (ν := ν) (w := w) 40).1 _ _ _ _ hb' Op.maxDepth (by simp [Op.maxDepth])
 have hgd : (eqGuard (if neg then .neq else .eql) t X Y (x.den ρ ν) (y.den ρ ν)).run P w = .ok () w := by
  by_cases hn : x.den ρ ν = .nilIface ∧ y.den ρ ν = .nilIface
  ·obtain ⟨e1, e2⟩ := hn
   have i1 := (den_nilif e1).resolve_right (by rintro (⟨i, e⟩ | ⟨r, a, b, j, e⟩); exact n1 _ e; exact n2 _ _ _ _ e)
   have i2 := (den_nilif e2).resolve_right (by rintro (⟨i, e⟩ | ⟨r, a, b, j, e⟩); exact n3 _ e; exact n4 _ _ _ _ e)
   rw [e1, e2]
   refine eqGuard_nil ?_
   simp only [i1, i2, Bool.and_self, Bool.true_and, Bool.not_eq_true', Bool.not_eq_false] at g1
   exact g1
  ·by_cases ha : isAggW x = true ∧ isAggW y = true
   ·obtain ⟨a1, a2⟩ := ha
    simp only [a1, a2, Bool.and_self, Bool.true_and, Bool.not_eq_true', Bool.not_eq_false] at g2
    cases hti : T.ty t with
    | none => simp [hti] at g2
    | some ti =>
     simp [hti] at g2
     obtain ⟨d, hd, hc, he⟩ := (hT.ty hti).und
     cases x with
     | one c => simp [isAggW] at a1
     | agg xs =>
      cases y with
      | one c => simp [isAggW] at a2
      | agg ys => exact run_eqGuard_agg w _ t X Y _ _ (he g2).2.1
   ·refine eqGuard_plain (fun e1 e2 => hn ⟨e1, e2⟩) (fun e1 e2 => ha ⟨?_, ?_⟩)
    ·cases x with
     | one c => exact (isAggV_one c e1).elim
     | agg _ => rfl
    ·cases y with
     | one c => exact (isAggV_one c e2).elim
     | agg _ => rfl
 simp only [Sem.run_bind, hgd, Result.andThen_ok]
 rw [hb]
 unfold Op.equal
 rw [heq]
 simp only [Result.andThen_ok, SV.den, SW.den, SC.den]
 cases neg <;> simp [BE.notS_den]

theorem arithE_ok {wr : Bool} {op : BinOp} {k : IntKind} {a b : IE} {e : IE} {obs : List BE} {ρ : Env} {P : Program} {t : TypeId} {w : World}
  (h : arithE wr op k a b = some (e, obs)) (ho : ∀ o ∈ obs, o.den ρ = true) :
  (binOp op t (.int k (a.den ρ)) (.int k (b.den ρ))).run P w = .ok (.int k (e.den ρ)) w := by
 unfold arithE at h
 split at h
 ·simp only [Option.some.injEq] at h
  have e1 : (fitE wr k (a.addS b)).1 = e := by rw [h]
  have e2 : (fitE wr k (a.addS b)).2 = obs := by rw [h]
  have := fitE_ok (wr := wr) (ρ := ρ) (k := k) (e := a.addS b) (by rw [e2]; exact ho)
  rw [e1, IE.addS_den] at this
  simp [binOp, Op.intArith, this]
 ·simp only [Option.some.injEq] at h
  have e1 : (fitE wr k (a.subS b)).1 = e := by rw [h]
  have e2 : (fitE wr k (a.subS b)).2 = obs := by rw [h]
  have := fitE_ok (wr := wr) (ρ := ρ) (k := k) (e := a.subS b) (by rw [e2]; exact ho)
  rw [e1, IE.subS_den] at this
  simp [binOp, Op.intArith, this]
 ·simp only [Option.some.injEq] at h
  have e1 : (fitE wr k (.mul a b)).1 = e := by rw [h]
  have e2 : (fitE wr k (.mul a b)).2 = obs := by rw [h]
  have := fitE_ok (wr := wr) (ρ := ρ) (k := k) (e := .mul a b) (by rw [e2]; exact ho)
  rw [e1] at this
  simp [binOp, Op.intArith, this, IE.den]
 ·simp only at h
  split at h
  ·rename_i n hn
   split at h
   ·cases h
   ·rename_i hne
    simp only [Option.some.injEq, Prod.mk.injEq] at h
    obtain ⟨e1, e2⟩ := h
    have := fitE_ok (wr := wr) (ρ := ρ) (k := k) (e := .div a b) (by rw [e2]; exact ho)
    rw [e1] at this
    have hb : b.den ρ ≠ 0 := by rw [IE.lit?_ok hn]; simpa using hne
    simp [binOp, Op.intDiv, this, IE.den, hb]
  ·simp only [Option.some.injEq, Prod.mk.injEq] at h
   obtain ⟨e1, e2⟩ := h
   have hb : b.den ρ ≠ 0 := by
    have := ho (.not (.ieq b (.lit 0))) (by rw [← e2]; simp)
    simpa [BE.den, IE.den] using this
   have := fitE_ok (wr := wr) (ρ := ρ) (k := k) (e := .div a b) (fun o hm => ho o (by rw [← e2]; simp [hm]))
   rw [e1] at this
   simp [binOp, Op.intDiv, this, IE.den, hb]
 ·split at h
  ·rename_i n hn
   split at h
   ·cases h
   ·rename_i hne
    simp only [Option.some.injEq, Prod.mk.injEq] at h
    obtain ⟨e1, e2⟩ := h
    have hb : b.den ρ ≠ 0 := by rw [IE.lit?_ok hn]; simpa using hne
    have he : e.den ρ = (a.den ρ).tmod (b.den ρ) := by
     rw [← e1]
     split
     ·rename_i m hm; simp [IE.den, IE.lit?_ok hm, IE.lit?_ok hn]
     ·simp [IE.den]
    simp [binOp, Op.intDiv, he, hb]
  ·simp only [Option.some.injEq, Prod.mk.injEq] at h
   obtain ⟨e1, e2⟩ := h
   have hb : b.den ρ ≠ 0 := by
    have := ho (.not (.ieq b (.lit 0))) (by rw [← e2]; simp)
    simpa [BE.den, IE.den] using this
   subst e1
   simp [binOp, Op.intDiv, IE.den, hb]
 ·cases h
theorem cmpE_ok {op : BinOp} {k : IntKind} {a b : IE} {e : BE} {ρ : Env} {P : Program} {t : TypeId} {w : World} (h : cmpE op a b = some e) :
  (binOp op t (.int k (a.den ρ)) (.int k (b.den ρ))).run P w = .ok (.bool (e.den ρ)) w := by
 unfold cmpE at h
 split at h <;> simp at h
 all_goals subst h
 ·simp [binOp, Op.intCmp, BE.ieqS_den]
 ·simp [binOp, Op.intCmp, BE.notS_den, BE.ieqS_den, bne]
 ·simp [binOp, Op.intCmp, BE.iltS_den]
 ·simp [binOp, Op.intCmp, BE.ileS_den]
 ·simp [binOp, Op.intCmp, BE.iltS_den]
 ·simp [binOp, Op.intCmp, BE.ileS_den]
theorem isStr_eq {x : SW} {l : List UInt8} (h : isStr x = some l) : x = .one (.str l) := by
 unfold isStr at h
 split at h
 ·simp at h; rw [h]
 ·cases h

theorem eqlW_run {P : Program} {T : Tab} (hT : TabOK P T) {neg : Bool} {t : TypeId} {X Y : Operand} {x y : SW} {v : SV} {obs : List BE} {ρ : Env} {ν : Nat → Addr} {w : World}
  (h : eqlW T neg t (isC X || isC Y) x y = .ok v obs) (hi : svInt (.w x) = none ∨ svInt (.w y) = none) (hs : isStr x = none ∨ isStr y = none) :
  (do eqGuard (if neg then .neq else .eql) t X Y (x.den ρ ν) (y.den ρ ν); binOp (if neg then .neq else .eql) t (x.den ρ ν) (y.den ρ ν) : Sem Value).run P w = .ok (v.den ρ ν) w := by
 have hnv : ∃ c, eqW T 40 t x y = some c := by
  unfold eqlW at h
  split at h
  ·cases h
  split at h
  ·cases h
  split at h
  ·rename_i b hb; exact ⟨b, hb⟩
  ·cases h
 obtain ⟨c, hc⟩ := hnv
 obtain ⟨n1, n2, n3, n4, n5, n6⟩ := eqW_noval hc
 refine eqlW_ok hT h ?_
 have hcase : ∀ a b : Value, (∀ k l i j, a = .int k i → b = .int l j → False) → (∀ i j, a = .string i → b = .string j → False) →
   (∀ k l i j, a = .float k i → b = .float l j → False) → (∀ k l i j i' j', a = .complex k i i' → b = .complex l j j' → False) →
   (binOp (if neg then .neq else .eql) t a b).run P w = ((Op.equal t a b).run P w).andThen fun b w' => .ok (.bool (if neg then !b else b)) w' := by
  intro a b q1 q2 q3 q4
  cases neg
  ·cases a <;> cases b <;> first | (exact (q1 _ _ _ _ rfl rfl).elim) | (exact (q2 _ _ rfl rfl).elim) | (exact (q3 _ _ _ _ rfl rfl).elim) | (exact (q4 _ _ _ _ _ _ rfl rfl).elim) | (simp [binOp])
  ·cases a <;> cases b <;> first | (exact (q1 _ _ _ _ rfl rfl).elim) | (exact (q2 _ _ rfl rfl).elim) | (exact (q3 _ _ _ _ rfl rfl).elim) | (exact (q4 _ _ _ _ _ _ rfl rfl).elim) | (simp [binOp])
 have hx : (∀ k i, x.den ρ ν = .int k i → (svInt (.w x)).isSome = true) ∧ (∀ i, x.den ρ ν = .string i → (isStr x).isSome = true) ∧ (∀ k i, x.den ρ ν ≠ .float k i) ∧ (∀ k i j, x.den ρ ν ≠ .complex k i j) := by
  cases x with
  | agg cs => simp [SW.den]
  | one c => cases c <;> first | exact (n2 _ _ _ _ rfl).elim | exact (n1 _ rfl).elim | (obtain ⟨tt, dd, rfl⟩ := n5 _ _ rfl; simp only [SW.den, SC.den]; split <;> simp; done) | (simp [SW.den, SC.den, svInt, isStr, undef]; done) | (simp only [SW.den, SC.den]; split <;> simp)
 have hy : (∀ k i, y.den ρ ν = .int k i → (svInt (.w y)).isSome = true) ∧ (∀ i, y.den ρ ν = .string i → (isStr y).isSome = true) := by
  cases y with
  | agg cs => simp [SW.den]
  | one c => cases c <;> first | exact (n4 _ _ _ _ rfl).elim | exact (n3 _ rfl).elim | (obtain ⟨tt, dd, rfl⟩ := n6 _ _ rfl; simp only [SW.den, SC.den]; split <;> simp; done) | (simp [SW.den, SC.den, svInt, isStr, undef]; done) | (simp only [SW.den, SC.den]; split <;> simp)
 refine hcase _ _ (fun k l i j e1 e2 => ?_) (fun i j e1 e2 => ?_) (fun k l i j e1 _ => hx.2.2.1 _ _ e1) (fun k l i j i' j' e1 _ => hx.2.2.2 _ _ _ e1)
 ·rcases hi with hi | hi
  ·have := hx.1 _ _ e1; rw [hi] at this; cases this
  ·have := hy.1 _ _ e2; rw [hi] at this; cases this
 ·rcases hs with hs | hs
  ·have := hx.2.1 _ e1; rw [hs] at this; cases this
  ·have := hy.2 _ e2; rw [hs] at this; cases this
theorem binW_ok {P : Program} {T : Tab} (hT : TabOK P T) {op : BinOp} {t : TypeId} {X Y : Operand} {x y : SW} {v : SV} {obs : List BE} {ρ : Env} {ν : Nat → Addr} {w : World}
  (h : binW T op t (isC X || isC Y) x y = .ok v obs) (ho : ∀ o ∈ obs, o.den ρ = true) :
  (do eqGuard op t X Y (x.den ρ ν) (y.den ρ ν); binOp op t (x.den ρ ν) (y.den ρ ν) : Sem Value).run P w = .ok (v.den ρ ν) w := by
 unfold binW at h
 split at h
 ·rename_i k a l b
  split at h
  ·rename_i hk
   have hk' := kindEq_eq hk
   subst hk'
   have hg : (eqGuard op t X Y ((SW.one (.int k a)).den ρ ν) ((SW.one (.int k b)).den ρ ν)).run P w = .ok () w :=
    eqGuard_plain (by simp [SW.den, SC.den]) (by simp [SW.den, SC.den, isAggV])
   simp only [Sem.run_bind, hg, Result.andThen_ok]
   have ar : ∀ q, (match arithE T.wr op k a b with | some (e, o) => PR.one (.int k e) o | none => .no) = PR.ok v obs → q = op → (binOp q t ((SW.one (.int k a)).den ρ ν) ((SW.one (.int k b)).den ρ ν)).run P w = .ok (v.den ρ ν) w := by
    intro q hq e
    subst e
    split at hq
    ·rename_i e o he
     simp only [PR.one, PR.ok.injEq] at hq
     obtain ⟨rfl, rfl⟩ := hq
     exact arithE_ok he ho
    ·cases hq
   have cm : ∀ q, (match cmpE op a b with | some b => PR.one (.bool b) | none => .no) = PR.ok v obs → q = op → (binOp q t ((SW.one (.int k a)).den ρ ν) ((SW.one (.int k b)).den ρ ν)).run P w = .ok (v.den ρ ν) w := by
    intro q hq e
    subst e
    split at hq
    ·rename_i e he
     simp only [PR.one, PR.ok.injEq] at hq
     obtain ⟨rfl, rfl⟩ := hq
     exact cmpE_ok he
    ·cases hq
   split at h
   all_goals first
    | exact ar _ h rfl
    | exact cm _ h rfl
    | cases h
  ·cases h
 ·rename_i hno
  split at h
  ·rename_i l m hl hm
   have hl' := isStr_eq hl
   have hm' := isStr_eq hm
   subst hl' hm'
   have hg : (eqGuard op t X Y ((SW.one (.str l)).den ρ ν) ((SW.one (.str m)).den ρ ν)).run P w = .ok () w :=
    eqGuard_plain (by simp [SW.den, SC.den]) (by simp [SW.den, SC.den, isAggV])
   simp only [Sem.run_bind, hg, Result.andThen_ok]
   split at h
   ·simp only [PR.one, PR.ok.injEq] at h
    obtain ⟨rfl, rfl⟩ := h
    simp [SW.den, SV.den, SC.den, BE.den, binOp, Op.stringOp, ByteArray.toList_eq]
   ·simp only [PR.one, PR.ok.injEq] at h
    obtain ⟨rfl, rfl⟩ := h
    simp [SW.den, SV.den, SC.den, BE.den, binOp, Op.stringOp, ByteArray.toList_eq]
   ·cases h
  ·rename_i hno2
   have hs : isStr x = none ∨ isStr y = none := by
    cases hx : isStr x with
    | none => exact .inl rfl
    | some l =>
     cases hy : isStr y with
     | none => exact .inr rfl
     | some m => exact (hno2 l m hx hy).elim
   have hi : svInt (.w x) = none ∨ svInt (.w y) = none := by
    cases hx : svInt (.w x) with
    | none => exact .inl rfl
    | some p =>
     cases hy : svInt (.w y) with
     | none => exact .inr rfl
     | some q =>
      unfold svInt at hx hy
      split at hx
      ·rename_i k a hk
       split at hy
       ·rename_i l b hl
        simp only [SV.w.injEq] at hk hl
        exact (hno k a l b hk hl).elim
       ·cases hy
      ·cases hx
   split at h
   ·exact eqlW_run (neg := false) hT h hi hs
   ·exact eqlW_run (neg := true) hT h hi hs
   ·cases h

end Go.Rex
