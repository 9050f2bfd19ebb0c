/- plain words: a heap of slots with a board, and its accesses -/
import Derived.Test.YthomdlajobnmnaaDoorRexT
set_option linter.unusedSimpArgs false
set_option linter.unusedVariables false
namespace Go.Proofs.YthomdlajobnmnaaDoor
open Go.Rex
def yW : List Kd := [.int .i64, .int .i64, .int .i64, .int .i64, .bool]
def yN : List Kd := [.int .i64, .int .i64, .int .i64, .int .i64, .bool, .int .i64, .int .i64]
def yI : List Kd := [.int .i64]
def yB : List Kd := [.int .i64, .bool]
abbrev yv (n : Nat) : IE := .var n
abbrev yw (n : Nat) : BE := .var n
abbrev yb (n : Nat) : SA := { blk := n }
abbrev yc (n s : Nat) : SA := { blk := n, i1 := .lit 0, s1 := s }
abbrev yu (r n s : Nat) (k : List Kd) (g : Nat) : CV := .up { r := r, n1 := .var n, s1 := s, ks := k } g [] (.lit 0)
abbrev yl (r : Nat) (n : Int) (s l : Nat) (k : List Kd) (g : Nat) : CV := .up { r := r, n1 := .lit n, s1 := s, lo := l, ks := k } g [] (.lit 0)
theorem Da : type_of% (And.intro @D.le (And.intro @D.lef (And.intro @D.lt (And.intro @D.ltf (And.intro @D.eq (And.intro @D.eqf (And.intro @D.not (And.intro @D.notf (And.intro @D.and (And.intro @D.andf (And.intro @D.or (And.intro @D.orf (And.intro @D.inr (And.intro @D.var (And.intro @D.lit (And.intro @D.cellB (And.intro @D.beq (And.intro @D.beqf (And.intro @D.litI (And.intro @D.varI (And.intro @D.add (And.intro @D.sub (And.intro @D.mul (And.intro @D.min (And.intro @D.max (And.intro @D.cellI (And.intro @D.i64min (And.intro @D.i64max (@Int.toNat_zero))))))))))))))))))))))))))))) := And.intro @D.le (And.intro @D.lef (And.intro @D.lt (And.intro @D.ltf (And.intro @D.eq (And.intro @D.eqf (And.intro @D.not (And.intro @D.notf (And.intro @D.and (And.intro @D.andf (And.intro @D.or (And.intro @D.orf (And.intro @D.inr (And.intro @D.var (And.intro @D.lit (And.intro @D.cellB (And.intro @D.beq (And.intro @D.beqf (And.intro @D.litI (And.intro @D.varI (And.intro @D.add (And.intro @D.sub (And.intro @D.mul (And.intro @D.min (And.intro @D.max (And.intro @D.cellI (And.intro @D.i64min (And.intro @D.i64max (@Int.toNat_zero))))))))))))))))))))))))))))
structure Wd where
 slot : Int
 gen : Int
 tag : Int
 num : Int
 mark : Bool
 deriving DecidableEq
def Wd.zero : Wd := ⟨0, 0, 0, 0, false⟩
structure Ac where
 kind : Int
 slot : Int
 gen : Int
 field : Int
 old : Wd
 new : Wd
structure Rp where
 word : Wd
 ok : Bool
 deriving DecidableEq
structure PS where
 nb : Int
 ns : Int
 nf : Int
 steps : Int
 made : Int
 good : Bool
 bd : Nat → Wd
 gen : Nat → Int
 used : Nat → Bool
 cell : Nat → Nat → Wd
 fr : Nat → Int
def PS.is (p : PS) (n : Int) : Prop := 1 ≤ n ∧ n ≤ p.ns
instance (p : PS) (n : Int) : Decidable (p.is n) := by unfold PS.is; exact inferInstance
def PS.has (p : PS) (slot gen field : Int) : Prop := if slot = 0 then gen = 0 ∧ 0 ≤ field ∧ field < p.nb else p.is slot ∧ 0 ≤ field ∧ field < 10
instance (p : PS) (s g f : Int) : Decidable (p.has s g f) := by unfold PS.has; exact inferInstance
def PS.valid (p : PS) (a : Ac) : Prop :=
 if a.kind = 1 ∨ a.kind = 2 ∨ a.kind = 3 then p.has a.slot a.gen a.field else if a.kind = 4 then True else if a.kind = 5 then p.is a.old.slot else False
instance (p : PS) (a : Ac) : Decidable (p.valid a) := by unfold PS.valid; exact inferInstance
def PS.live (p : PS) (slot gen : Int) : Prop := slot = 0 ∨ (p.used (slot - 1).toNat = true ∧ p.gen (slot - 1).toNat = gen)
instance (p : PS) (s g : Int) : Decidable (p.live s g) := by unfold PS.live; exact inferInstance
def PS.right (p : PS) (a : Ac) : Prop := if a.kind = 4 then True else if a.kind = 5 then p.live a.old.slot a.old.gen else p.live a.slot a.gen
instance (p : PS) (a : Ac) : Decidable (p.right a) := by unfold PS.right; exact inferInstance
def PS.at (p : PS) (slot field : Int) : Wd := if slot = 0 then p.bd field.toNat else p.cell (slot - 1).toNat field.toNat
def PS.put (p : PS) (slot field : Int) (w : Wd) : PS :=
 if slot = 0 then { p with bd := fun i => if i = field.toNat then w else p.bd i }
 else { p with cell := fun i k => if i = (slot - 1).toNat ∧ k = field.toNat then w else p.cell i k }
def sameW (a b : Wd) : Prop := a.slot = b.slot ∧ a.tag = b.tag ∧ a.num = b.num ∧ a.mark = b.mark
instance (a b : Wd) : Decidable (sameW a b) := by unfold sameW; exact inferInstance
def Rp.no : Rp := ⟨Wd.zero, false⟩
def bornCells (birth : Int) (k : Nat) : Wd := if k = 9 then { Wd.zero with num := birth } else Wd.zero
def PS.alloc (p : PS) (birth : Int) : PS × Rp :=
 if p.nf = 0 then (p, Rp.no) else
  let n := p.fr (p.nf - 1).toNat
  let g := p.gen (n - 1).toNat + 1
  ({ p with nf := p.nf - 1, made := p.made + 1, gen := fun i => if i = (n - 1).toNat then g else p.gen i, used := fun i => if i = (n - 1).toNat then true else p.used i,
            cell := fun i k => if i = (n - 1).toNat ∧ k < 10 then bornCells birth k else p.cell i k }, ⟨⟨n, g, 0, 0, false⟩, true⟩)
def PS.free (p : PS) (n : Int) : PS := { p with used := fun i => if i = (n - 1).toNat then false else p.used i, fr := fun i => if i = p.nf.toNat then n else p.fr i, nf := p.nf + 1 }
def refusedW (kind : Int) : Rp := if kind = 1 ∨ kind = 3 then ⟨{ Wd.zero with num := -1 }, false⟩ else Rp.no
def PS.makes (p : PS) (a : Ac) : PS × Rp :=
 if a.kind = 4 then p.alloc a.new.num else
 if a.kind = 5 then (p.free a.old.slot, ⟨Wd.zero, true⟩) else
 if a.kind = 1 then (p, ⟨p.at a.slot a.field, true⟩) else
 if a.kind = 2 then (p.put a.slot a.field a.new, ⟨Wd.zero, true⟩) else
 if sameW (p.at a.slot a.field) a.old then (p.put a.slot a.field a.new, ⟨p.at a.slot a.field, true⟩) else (p, ⟨p.at a.slot a.field, false⟩)
def PS.act (p : PS) (a : Ac) : PS × Option Rp :=
 if p.valid a then
  if p.right a then
   let r := PS.makes { p with steps := p.steps + 1 } a
   (r.1, some r.2)
  else ({ p with steps := p.steps + 1, good := false }, some (refusedW a.kind))
 else (p, none)
def PS.new (ns nb : Int) : PS where
 nb := nb
 ns := ns
 nf := ns
 steps := 0
 made := 0
 good := true
 bd := fun _ => Wd.zero
 gen := fun _ => 0
 used := fun _ => false
 cell := fun _ _ => Wd.zero
 fr := fun i => ns - i
def usedN (u : Nat → Bool) : Nat → Nat
 | 0 => 0
 | n + 1 => usedN u n + if u n then 1 else 0
theorem usedN_same {u v : Nat → Bool} : ∀ {n : Nat}, (∀ i, i < n → u i = v i) → usedN u n = usedN v n
 | 0, _ => rfl
 | n + 1, h => by simp only [usedN, usedN_same fun i hi => h i (Nat.lt_succ_of_lt hi), h n (Nat.lt_succ_self n)]
theorem usedN_on {u : Nat → Bool} {k : Nat} : ∀ {n : Nat}, k < n → u k = false → usedN (fun i => if i = k then true else u i) n = usedN u n + 1
 | n + 1, h, hu => by
  simp only [usedN]
  by_cases hk : k = n
  ·subst hk
   rw [usedN_same (v := u) fun i hi => (if_neg (by omega))]
   simp [hu]
  ·have e : (if n = k then true else u n) = u n := if_neg fun e => hk e.symm
   simp only [usedN_on (show k < n by omega) hu, e]
   omega
theorem usedN_off {u : Nat → Bool} {k : Nat} : ∀ {n : Nat}, k < n → u k = true → usedN (fun i => if i = k then false else u i) n + 1 = usedN u n
 | n + 1, h, hu => by
  simp only [usedN]
  by_cases hk : k = n
  ·subst hk
   rw [usedN_same (v := u) fun i hi => (if_neg (by omega))]
   simp [hu]
  ·have := usedN_off (n := n) (by omega) hu
   have e : (if n = k then false else u n) = u n := if_neg fun e => hk e.symm
   simp only [e]
   omega
theorem usedN_le (u : Nat → Bool) : ∀ n, usedN u n ≤ n
 | 0 => Nat.le_refl _
 | n + 1 => by
  have := usedN_le u n
  simp only [usedN]
  split <;> omega
theorem usedN_zero : ∀ n, usedN (fun _ => false) n = 0
 | 0 => rfl
 | n + 1 => by simp [usedN, usedN_zero n]
structure PS.OK (p : PS) : Prop where
 nb : 0 ≤ p.nb ∧ p.nb ≤ 200
 ns : 0 ≤ p.ns ∧ p.ns ≤ 1024
 nf : 0 ≤ p.nf
 made : 0 ≤ p.made ∧ p.made ≤ p.steps
 gen : ∀ i : Nat, 0 ≤ p.gen i ∧ p.gen i ≤ p.made
 fr : ∀ i : Nat, (i : Int) < p.nf → 1 ≤ p.fr i ∧ p.fr i ≤ p.ns ∧ p.used (p.fr i - 1).toNat = false
 one : ∀ i j : Nat, i < j → (j : Int) < p.nf → p.fr i ≠ p.fr j
 cnt : (usedN p.used p.ns.toNat : Int) + p.nf = p.ns
theorem PS.OK.new {ns nb : Int} (h1 : 0 ≤ ns ∧ ns ≤ 1024) (h2 : 0 ≤ nb ∧ nb ≤ 200) : (PS.new ns nb).OK := by
 refine ⟨h2, h1, h1.1, ⟨Int.le_refl 0, Int.le_refl 0⟩, fun _ => ⟨Int.le_refl 0, Int.le_refl 0⟩, fun i hi => ?_, fun i j hi hj => ?_, ?_⟩
 ·simp only [PS.new] at hi ⊢
  exact ⟨by omega, by omega, trivial⟩
 ·simp only [PS.new] at hj ⊢
  omega
 ·simp only [PS.new, usedN_zero]
  omega
theorem PS.OK.stepped {p : PS} (h : p.OK) : ({ p with steps := p.steps + 1 } : PS).OK := ⟨h.nb, h.ns, h.nf, ⟨h.made.1, by have := h.made.2; show p.made ≤ p.steps + 1; omega⟩, h.gen, h.fr, h.one, h.cnt⟩
theorem PS.OK.bad {p : PS} (h : p.OK) : ({ p with steps := p.steps + 1, good := false } : PS).OK := ⟨h.nb, h.ns, h.nf, ⟨h.made.1, by have := h.made.2; show p.made ≤ p.steps + 1; omega⟩, h.gen, h.fr, h.one, h.cnt⟩
theorem PS.OK.put {p : PS} (h : p.OK) (s f : Int) (w : Wd) : (p.put s f w).OK := by
 unfold PS.put
 split <;> exact ⟨h.nb, h.ns, h.nf, h.made, h.gen, h.fr, h.one, h.cnt⟩
theorem PS.OK.alloc {p : PS} (h : p.OK) (hm : p.made < p.steps) (b : Int) : (p.alloc b).1.OK := by
 unfold PS.alloc
 split
 ·exact h
 ·rename_i h0
  have h1 := h.nf
  obtain ⟨f1, f2, f3⟩ := h.fr (p.nf - 1).toNat (by omega)
  have h2 := h.made
  refine ⟨h.nb, h.ns, by show 0 ≤ p.nf - 1; omega, ⟨by show 0 ≤ p.made + 1; omega, by show p.made + 1 ≤ p.steps; omega⟩, fun i => ?_, fun i hi => ?_, fun i j hi hj => ?_, ?_⟩
  ·show 0 ≤ (if i = _ then _ else _) ∧ (if i = _ then _ else _) ≤ p.made + 1
   have g := h.gen i
   have g2 := h.gen (p.fr (p.nf - 1).toNat - 1).toNat
   split <;> omega
  ·replace hi : (i : Int) < p.nf - 1 := hi
   obtain ⟨e1, e2, e3⟩ := h.fr i (by omega)
   refine ⟨e1, e2, ?_⟩
   show (if (p.fr i - 1).toNat = _ then true else _) = false
   have := h.one i (p.nf - 1).toNat (by omega) (by omega)
   rw [if_neg (by omega)]
   exact e3
  ·exact h.one i j hi (by have : (j : Int) < p.nf - 1 := hj; omega)
  ·have := usedN_on (u := p.used) (n := p.ns.toNat) (k := (p.fr (p.nf - 1).toNat - 1).toNat) (by omega) f3
   have h3 := h.cnt
   show ((usedN (fun i => if i = _ then true else p.used i) p.ns.toNat : Nat) : Int) + (p.nf - 1) = p.ns
   omega
theorem PS.OK.free {p : PS} (h : p.OK) {n : Int} (hn : p.is n) (hu : p.used (n - 1).toNat = true) : (p.free n).OK := by
 obtain ⟨n1, n2⟩ := hn
 have h1 := h.nf
 refine ⟨h.nb, h.ns, by show 0 ≤ p.nf + 1; omega, h.made, h.gen, fun i hi => ?_, fun i j hi hj => ?_, ?_⟩
 ·replace hi : (i : Int) < p.nf + 1 := hi
  show 1 ≤ (if i = p.nf.toNat then n else p.fr i) ∧ (if i = p.nf.toNat then n else p.fr i) ≤ p.ns ∧ (if ((if i = p.nf.toNat then n else p.fr i) - 1).toNat = (n - 1).toNat then false else p.used ((if i = p.nf.toNat then n else p.fr i) - 1).toNat) = false
  by_cases hx : i = p.nf.toNat
  ·simp only [if_pos hx]
   exact ⟨n1, n2, by simp⟩
  ·simp only [if_neg hx]
   obtain ⟨e1, e2, e3⟩ := h.fr i (by omega)
   refine ⟨e1, e2, ?_⟩
   split
   ·rfl
   ·exact e3
 ·replace hj : (j : Int) < p.nf + 1 := hj
  show (if i = p.nf.toNat then n else p.fr i) ≠ (if j = p.nf.toNat then n else p.fr j)
  rw [if_neg (by omega)]
  by_cases hx : j = p.nf.toNat
  ·rw [if_pos hx]
   intro he
   obtain ⟨e1, e2, e3⟩ := h.fr i (by omega)
   rw [he, hu] at e3
   cases e3
  ·rw [if_neg hx]
   exact h.one i j hi (by omega)
 ·have := usedN_off (u := p.used) (n := p.ns.toNat) (k := (n - 1).toNat) (by omega) hu
  have h3 := h.cnt
  show ((usedN (fun i => if i = _ then false else p.used i) p.ns.toNat : Nat) : Int) + (p.nf + 1) = p.ns
  omega
theorem PS.OK.act {p : PS} (h : p.OK) (a : Ac) : (p.act a).1.OK := by
 unfold PS.act
 split
 ·rename_i hv
  split
  ·rename_i hr
   have hs := h.stepped
   show (PS.makes { p with steps := p.steps + 1 } a).1.OK
   unfold PS.makes
   split
   ·exact hs.alloc (by have := h.made.2; show p.made < p.steps + 1; omega) _
   split
   ·rename_i h4 h5
    have hv' : p.is a.old.slot := by
     unfold PS.valid at hv
     rw [if_neg (by omega), if_neg h4, if_pos h5] at hv
     exact hv
    have hr' : p.live a.old.slot a.old.gen := by
     unfold PS.right at hr
     rw [if_neg h4, if_pos h5] at hr
     exact hr
    have hne : a.old.slot ≠ 0 := by have := hv'.1; omega
    exact hs.free hv' (by
      rcases hr' with h | h
      · exact absurd h hne
      · exact h.1)
   split
   ·exact hs
   split
   ·exact hs.put _ _ _
   split
   ·exact hs.put _ _ _
   ·exact hs
  ·exact h.bad
 ·exact h
theorem PS.act_steps (p : PS) (a : Ac) : (p.act a).1.steps ≤ p.steps + 1 ∧ p.steps ≤ (p.act a).1.steps := by
 unfold PS.act
 split
 ·split
  ·have e : (PS.makes { p with steps := p.steps + 1 } a).1.steps = p.steps + 1 := by
    unfold PS.makes PS.alloc PS.put PS.free
    repeat' first | rfl | split
   show (PS.makes { p with steps := p.steps + 1 } a).1.steps ≤ p.steps + 1 ∧ p.steps ≤ (PS.makes { p with steps := p.steps + 1 } a).1.steps
   omega
  ·exact ⟨Int.le_refl _, by show p.steps ≤ p.steps + 1; omega⟩
 ·exact ⟨by show p.steps ≤ p.steps + 1; omega, Int.le_refl _⟩
theorem PS.act_dims (p : PS) (a : Ac) : (p.act a).1.ns = p.ns ∧ (p.act a).1.nb = p.nb := by
 unfold PS.act
 split
 ·split
  ·show (PS.makes { p with steps := p.steps + 1 } a).1.ns = p.ns ∧ (PS.makes { p with steps := p.steps + 1 } a).1.nb = p.nb
   unfold PS.makes PS.alloc PS.put PS.free
   repeat' first | exact ⟨rfl, rfl⟩ | split
  ·exact ⟨rfl, rfl⟩
 ·exact ⟨rfl, rfl⟩
end Go.Proofs.YthomdlajobnmnaaDoor
