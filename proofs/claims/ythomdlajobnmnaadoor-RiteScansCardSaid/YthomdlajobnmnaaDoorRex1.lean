/- Rex, part 1: symbolic values and what they stand for. Plain definitions and laws; no program in sight. -/
import Derived.WalkKit
import Derived.OrdersHeld
set_option linter.unusedSimpArgs false
set_option linter.unusedVariables false
namespace Go.Rex

structure Env where
 iv : Nat → Int := fun _ => 0
 bv : Nat → Bool := fun _ => false
 vv : Nat → Value := fun _ => undef
 ic : Nat → Nat → Nat → Nat → Int := fun _ _ _ _ => 0
 bc : Nat → Nat → Nat → Nat → Bool := fun _ _ _ _ => false
 vc : Nat → Nat → Nat → Nat → Value := fun _ _ _ _ => undef

def Env.join (ρ : Env) (nv : Nat) (e : Env) : Env where
 iv := fun i => if i < nv then ρ.iv i else e.iv i
 bv := fun i => if i < nv then ρ.bv i else e.bv i
 vv := fun i => if i < nv then ρ.vv i else e.vv i
 ic := fun i => if i < nv then ρ.ic i else e.ic i
 bc := fun i => if i < nv then ρ.bc i else e.bc i
 vc := fun i => if i < nv then ρ.vc i else e.vc i

def kindEq : IntKind → IntKind → Bool
 | .i8, .i8 | .i16, .i16 | .i32, .i32 | .i64, .i64 | .u8, .u8 | .u16, .u16 | .u32, .u32 | .u64, .u64 => true
 | _, _ => false
theorem kindEq_eq {a b : IntKind} (h : kindEq a b = true) : a = b := by cases a <;> cases b <;> simp_all [kindEq]

inductive IE where
 | lit (n : Int) | var (i : Nat)
 | add (a b : IE) | sub (a b : IE) | mul (a b : IE) | div (a b : IE) | mod (a b : IE)
 | wrap (k : IntKind) (a : IE)
 | imin (a b : IE) | imax (a b : IE)
 | cell (r : Nat) (i1 i2 : IE) (j : Nat)
 deriving Inhabited

def IE.den (ρ : Env) : IE → Int
 | .lit n => n
 | .var i => ρ.iv i
 | .add a b => a.den ρ + b.den ρ
 | .sub a b => a.den ρ - b.den ρ
 | .mul a b => a.den ρ * b.den ρ
 | .div a b => (a.den ρ).tdiv (b.den ρ)
 | .mod a b => (a.den ρ).tmod (b.den ρ)
 | .wrap k a => k.wrap (a.den ρ)
 | .imin a b => min (a.den ρ) (b.den ρ)
 | .imax a b => max (a.den ρ) (b.den ρ)
 | .cell r i1 i2 j => ρ.ic r (i1.den ρ).toNat (i2.den ρ).toNat j

def IE.same : IE → IE → Bool
 | .lit n, .lit m => n == m
 | .var i, .var j => i == j
 | .add a b, .add c d => a.same c && b.same d
 | .sub a b, .sub c d => a.same c && b.same d
 | .mul a b, .mul c d => a.same c && b.same d
 | .div a b, .div c d => a.same c && b.same d
 | .mod a b, .mod c d => a.same c && b.same d
 | .wrap k a, .wrap l b => kindEq k l && a.same b
 | .imin a b, .imin c d => a.same c && b.same d
 | .imax a b, .imax c d => a.same c && b.same d
 | .cell r a b j, .cell s c d k => r == s && a.same c && b.same d && j == k
 | _, _ => false
theorem IE.same_eq : ∀ {a b : IE}, a.same b = true → a = b := by
 intro a
 induction a with
 | lit n => intro b h; cases b <;> simp_all [IE.same]
 | var n => intro b h; cases b <;> simp_all [IE.same]
 | add a b iha ihb => intro c h; cases c <;> simp [IE.same] at h; rw [iha h.1, ihb h.2]
 | sub a b iha ihb => intro c h; cases c <;> simp [IE.same] at h; rw [iha h.1, ihb h.2]
 | mul a b iha ihb => intro c h; cases c <;> simp [IE.same] at h; rw [iha h.1, ihb h.2]
 | div a b iha ihb => intro c h; cases c <;> simp [IE.same] at h; rw [iha h.1, ihb h.2]
 | mod a b iha ihb => intro c h; cases c <;> simp [IE.same] at h; rw [iha h.1, ihb h.2]
 | wrap k a ih => intro c h; cases c <;> simp [IE.same] at h; rw [kindEq_eq h.1, ih h.2]
 | imin a b iha ihb => intro c h; cases c <;> simp [IE.same] at h; rw [iha h.1, ihb h.2]
 | imax a b iha ihb => intro c h; cases c <;> simp [IE.same] at h; rw [iha h.1, ihb h.2]
 | cell r a b j iha ihb => intro c h; cases c <;> simp [IE.same] at h; rw [h.1.1.1, iha h.1.1.2, ihb h.1.2, h.2]

inductive BE where
 | lit (b : Bool) | var (i : Nat)
 | not (a : BE) | and (a b : BE) | or (a b : BE) | ite (c a b : BE)
 | ieq (a b : IE) | ile (a b : IE) | ilt (a b : IE)
 | beq (a b : BE)
 | inr (k : IntKind) (a : IE)
 | cell (r : Nat) (i1 i2 : IE) (j : Nat)
 deriving Inhabited

def BE.den (ρ : Env) : BE → Bool
 | .lit b => b
 | .var i => ρ.bv i
 | .not a => !a.den ρ
 | .and a b => a.den ρ && b.den ρ
 | .or a b => a.den ρ || b.den ρ
 | .ite c a b => if c.den ρ then a.den ρ else b.den ρ
 | .ieq a b => a.den ρ == b.den ρ
 | .ile a b => decide (a.den ρ ≤ b.den ρ)
 | .ilt a b => decide (a.den ρ < b.den ρ)
 | .beq a b => a.den ρ == b.den ρ
 | .inr k a => decide (k.min ≤ a.den ρ) && decide (a.den ρ ≤ k.max)
 | .cell r i1 i2 j => ρ.bc r (i1.den ρ).toNat (i2.den ρ).toNat j

def BE.same : BE → BE → Bool
 | .lit n, .lit m => n == m
 | .var i, .var j => i == j
 | .not a, .not b => a.same b
 | .and a b, .and c d => a.same c && b.same d
 | .or a b, .or c d => a.same c && b.same d
 | .ite a b e, .ite c d f => a.same c && b.same d && e.same f
 | .ieq a b, .ieq c d => IE.same a c && IE.same b d
 | .ile a b, .ile c d => IE.same a c && IE.same b d
 | .ilt a b, .ilt c d => IE.same a c && IE.same b d
 | .beq a b, .beq c d => a.same c && b.same d
 | .inr k a, .inr l b => kindEq k l && IE.same a b
 | .cell r a b j, .cell s c d k => r == s && IE.same a c && IE.same b d && j == k
 | _, _ => false
theorem BE.same_eq : ∀ {a b : BE}, a.same b = true → a = b := by
 intro a
 induction a with
 | lit n => intro b h; cases b <;> simp_all [BE.same]
 | var n => intro b h; cases b <;> simp_all [BE.same]
 | not a ih => intro c h; cases c <;> simp [BE.same] at h; rw [ih h]
 | and a b iha ihb => intro c h; cases c <;> simp [BE.same] at h; rw [iha h.1, ihb h.2]
 | or a b iha ihb => intro c h; cases c <;> simp [BE.same] at h; rw [iha h.1, ihb h.2]
 | ite a b e iha ihb ihe => intro c h; cases c <;> simp [BE.same] at h; rw [iha h.1.1, ihb h.1.2, ihe h.2]
 | ieq a b => intro c h; cases c <;> simp [BE.same] at h; rw [IE.same_eq h.1, IE.same_eq h.2]
 | ile a b => intro c h; cases c <;> simp [BE.same] at h; rw [IE.same_eq h.1, IE.same_eq h.2]
 | ilt a b => intro c h; cases c <;> simp [BE.same] at h; rw [IE.same_eq h.1, IE.same_eq h.2]
 | beq a b iha ihb => intro c h; cases c <;> simp [BE.same] at h; rw [iha h.1, ihb h.2]
 | inr k a => intro c h; cases c <;> simp [BE.same] at h; rw [kindEq_eq h.1, IE.same_eq h.2]
 | cell r a b j => intro c h; cases c <;> simp [BE.same] at h; rw [h.1.1.1, IE.same_eq h.1.1.2, IE.same_eq h.1.2, h.2]

/-! ### what is known of conditions -/
abbrev Kn := List (BE × Bool)
def Kn.ok (ρ : Env) (kn : Kn) : Prop := ∀ p ∈ kn, p.1.den ρ = p.2
def Kn.find (c : BE) : Kn → Option Bool
 | [] => none
 | (d, b) :: r => if c.same d then some b else Kn.find c r
theorem Kn.find_ok {ρ : Env} {c : BE} {b : Bool} : ∀ {kn : Kn}, Kn.ok ρ kn → Kn.find c kn = some b → c.den ρ = b
 | [], _, h => by simp [Kn.find] at h
 | (d, x) :: r, hk, h => by
  unfold Kn.find at h
  split at h
  ·rename_i hs
   rw [BE.same_eq hs]
   have := hk (d, x) (by simp)
   simp at h
   rw [this]; exact h
  ·exact Kn.find_ok (fun p hp => hk p (by simp [hp])) h

def IE.lit? : IE → Option Int
 | .lit n => some n
 | _ => none
theorem IE.lit?_ok {ρ : Env} {a : IE} {n : Int} (h : a.lit? = some n) : a.den ρ = n := by
 cases a <;> simp_all [IE.lit?, IE.den]

def Kn.val (a : IE) : Kn → Option Int
 | [] => none
 | (.ieq x (.lit m), true) :: r => if x.same a then some m else Kn.val a r
 | _ :: r => Kn.val a r
theorem Kn.val_ok {ρ : Env} {a : IE} {m : Int} : ∀ {kn : Kn}, Kn.ok ρ kn → Kn.val a kn = some m → a.den ρ = m
 | [], _, h => by simp [Kn.val] at h
 | p :: r, hk, h => by
  have hr : Kn.ok ρ r := fun q hq => hk q (by simp [hq])
  unfold Kn.val at h
  split at h
  ·rename_i hx
   cases hx
  ·rename_i x n r' hx
   cases hx
   split at h
   ·rename_i hs
    have := hk (.ieq x (.lit n), true) (by simp)
    simp only [BE.den, IE.den, beq_iff_eq] at this
    simp at h
    rw [← IE.same_eq hs, this, h]
   ·exact Kn.val_ok hr h
  ·rename_i hx
   cases hx
   exact Kn.val_ok hr h
def IE.val (kn : Kn) (a : IE) : Option Int :=
 match a.lit? with
 | some n => some n
 | none => Kn.val a kn
theorem IE.val_ok {ρ : Env} {kn : Kn} {a : IE} {n : Int} (hk : Kn.ok ρ kn) (h : a.val kn = some n) : a.den ρ = n := by
 unfold IE.val at h
 split at h
 ·rename_i hl
  simp at h
  subst h
  exact IE.lit?_ok hl
 ·exact Kn.val_ok hk h
def BE.decide (kn : Kn) : BE → Option Bool
 | .lit b => some b
 | .var i => Kn.find (.var i) kn
 | .cell r a b j => Kn.find (.cell r a b j) kn
 | .ite c a b => Kn.find (.ite c a b) kn
 | .beq a b => Kn.find (.beq a b) kn
 | .not a => (a.decide kn).map (!·)
 | .and a b =>
  match a.decide kn, b.decide kn with
  | some false, _ => some false
  | _, some false => some false
  | some true, some true => some true
  | _, _ => Kn.find (.and a b) kn
 | .or a b =>
  match a.decide kn, b.decide kn with
  | some true, _ => some true
  | _, some true => some true
  | some false, some false => some false
  | _, _ => Kn.find (.or a b) kn
 | .ieq a b =>
  match a.val kn, b.val kn with
  | some x, some y => some (x == y)
  | _, _ =>
   if a.same b then some true else
   match Kn.find (.ieq a b) kn with
   | some r => some r
   | none => Kn.find (.ieq b a) kn
 | .ile a b =>
  match a.val kn, b.val kn with
  | some x, some y => some (Decidable.decide (x ≤ y))
  | _, _ => if a.same b then some true else Kn.find (.ile a b) kn
 | .ilt a b =>
  match a.val kn, b.val kn with
  | some x, some y => some (Decidable.decide (x < y))
  | _, _ => Kn.find (.ilt a b) kn
 | .inr k a =>
  match a.lit? with
  | some x => some (Decidable.decide (k.min ≤ x) && Decidable.decide (x ≤ k.max))
  | none => Kn.find (.inr k a) kn
theorem BE.decide_ok {ρ : Env} {kn : Kn} (hk : Kn.ok ρ kn) : ∀ {c : BE} {b : Bool}, c.decide kn = some b → c.den ρ = b := by
 intro c
 induction c with
 | lit x => intro b h; simpa [BE.decide, BE.den] using h
 | not a ih =>
  intro b h
  simp only [BE.decide, Option.map_eq_some_iff] at h
  obtain ⟨x, hx, rfl⟩ := h
  simp [BE.den, ih hx]
 | and x y ihx ihy =>
  intro b h
  simp only [BE.decide] at h
  split at h
  ·rename_i h1; simp at h; subst h; simp [BE.den, ihx h1]
  ·rename_i h1 _; simp at h; subst h; simp [BE.den, ihy h1]
  ·rename_i h1 h2; simp at h; subst h; simp [BE.den, ihx h1, ihy h2]
  ·exact Kn.find_ok hk h
 | or x y ihx ihy =>
  intro b h
  simp only [BE.decide] at h
  split at h
  ·rename_i h1; simp at h; subst h; simp [BE.den, ihx h1]
  ·rename_i h1 _; simp at h; subst h; simp [BE.den, ihy h1]
  ·rename_i h1 h2; simp at h; subst h; simp [BE.den, ihx h1, ihy h2]
  ·exact Kn.find_ok hk h
 | ieq x y =>
  intro b h
  simp only [BE.decide] at h
  split at h
  ·rename_i h1 h2; simp at h; subst h; simp [BE.den, IE.val_ok hk h1, IE.val_ok hk h2]
  ·split at h
   ·rename_i hs; simp at h; subst h; simp [BE.den, IE.same_eq hs]
   ·split at h
    ·rename_i r hr
     simp at h; subst h
     exact Kn.find_ok (c := .ieq x y) hk hr
    ·have := Kn.find_ok (c := .ieq y x) hk h
     simp only [BE.den] at this ⊢
     rw [← this]
     exact Bool.beq_comm
 | ile x y =>
  intro b h
  simp only [BE.decide] at h
  split at h
  ·rename_i h1 h2; simp at h; subst h; simp [BE.den, IE.val_ok hk h1, IE.val_ok hk h2]
  ·split at h
   ·rename_i hs; simp at h; subst h; simp [BE.den, IE.same_eq hs]
   ·exact Kn.find_ok (c := .ile x y) hk h
 | ilt x y =>
  intro b h
  simp only [BE.decide] at h
  split at h
  ·rename_i h1 h2; simp at h; subst h; simp [BE.den, IE.val_ok hk h1, IE.val_ok hk h2]
  ·exact Kn.find_ok (c := .ilt x y) hk h
 | inr k x =>
  intro b h
  simp only [BE.decide] at h
  split at h
  ·rename_i h1; simp at h; subst h; simp [BE.den, IE.lit?_ok h1]
  ·exact Kn.find_ok (c := .inr k x) hk h
 | var i => intro b h; exact Kn.find_ok (c := .var i) hk (by simpa [BE.decide] using h)
 | ite c a b _ _ _ => intro b' h; exact Kn.find_ok (c := .ite c a b) hk (by simpa [BE.decide] using h)
 | beq a b _ _ => intro b' h; exact Kn.find_ok (c := .beq a b) hk (by simpa [BE.decide] using h)
 | cell r a b j => intro b' h; exact Kn.find_ok (c := .cell r a b j) hk (by simpa [BE.decide] using h)

end Go.Rex
