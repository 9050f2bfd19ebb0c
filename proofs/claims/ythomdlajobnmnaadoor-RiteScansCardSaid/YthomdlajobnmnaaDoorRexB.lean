/- Rex, part B: knowing less of memory; sameness. -/
import Derived.Test.YthomdlajobnmnaaDoorRexA
set_option linter.unusedSimpArgs false
set_option linter.unusedVariables false
namespace Go.Rex

def dummy : Seg := { r := 0, n1 := .lit 0, ks := [] }
def kdSame : Kd → Kd → Bool
 | .int a, .int b => kindEq a b
 | .bool, .bool => true
 | .val, .val => true
 | _, _ => false
def kdsSame : List Kd → List Kd → Bool
 | [], [] => true
 | a :: r, b :: s => kdSame a b && kdsSame r s
 | _, _ => false
def Seg.same (a b : Seg) : Bool := a.r == b.r && a.n1.same b.n1 && a.s1 == b.s1 && a.n2 == b.n2 && a.s2 == b.s2 && a.lo == b.lo && a.z == b.z && kdsSame a.ks b.ks
def segsSame : List Seg → List Seg → Bool
 | [], [] => true
 | a :: r, b :: s => a.same b && segsSame r s
 | _, _ => false
def Up.same (a b : Up) : Bool := a.g == b.g && a.i1.same b.i1 && a.i2.same b.i2 && a.j == b.j && a.c.same b.c
def upsSame : List Up → List Up → Bool
 | [], [] => true
 | a :: r, b :: s => a.same b && upsSame r s
 | _, _ => false
def wkCs : List SC → List SC → Bool
 | [], [] => true
 | a :: r, b :: s => (a.isHole || a.same b) && wkCs r s
 | _, _ => false
def capSame : Option (IE × Nat) → Option (IE × Nat) → Bool
 | none, none => true
 | some (a, n), some (b, m) => a.same b && n == m
 | _, _ => false
def SB.wk (a b : SB) : Bool :=
 a.gone || (!b.gone && (a.ro == b.ro && ((!a.own || b.own) && (a.nl.same b.nl && (a.t == b.t && ((a.opn || !b.opn) && (capSame a.cap b.cap && (wkCs a.cs b.cs && ((segsSame a.segs b.segs && upsSame a.ups b.ups) || (segsSame a.segs [dummy] && a.ups.isEmpty))))))))))
def wkHp : List SB → List SB → Bool
 | [], _ => true
 | a :: r, b :: s => a.wk b && wkHp r s
 | _ :: _, [] => false
section
variable {ρ : Env} {ν : Nat → Addr}
theorem wkCs_ok : ∀ {a b : List SC}, wkCs a b = true → a.length = b.length ∧ ∀ (p : Nat) (c : SC), a[p]? = some c → c.isHole = false → b[p]? = some c
 | [], [], _ => ⟨rfl, fun p c h => by simp at h⟩
 | [], _ :: _, h => by simp [wkCs] at h
 | _ :: _, [], h => by simp [wkCs] at h
 | x :: a, y :: b, h => by
  simp only [wkCs, Bool.and_eq_true, Bool.or_eq_true] at h
  obtain ⟨h1, h2⟩ := wkCs_ok h.2
  refine ⟨by simp [h1], fun p c hp hh => ?_⟩
  cases p with
  | zero =>
   simp at hp
   subst hp
   rcases h.1 with h | h
   ·rw [hh] at h; cases h
   ·rw [SC.same_eq h]; rfl
  | succ p => exact h2 p c (by simpa using hp) hh
theorem kdSame_eq {a b : Kd} (h : kdSame a b = true) : a = b := by
 cases a <;> cases b <;> simp [kdSame] at h
 ·rw [kindEq_eq h]
 ·rfl
 ·rfl
theorem kdsSame_eq : ∀ {a b : List Kd}, kdsSame a b = true → a = b
 | [], [], _ => rfl
 | [], _ :: _, h => by simp [kdsSame] at h
 | _ :: _, [], h => by simp [kdsSame] at h
 | x :: a, y :: b, h => by
  simp only [kdsSame, Bool.and_eq_true] at h
  rw [kdSame_eq h.1, kdsSame_eq h.2]
theorem Seg.same_eq {a b : Seg} (h : a.same b = true) : a = b := by
 obtain ⟨_, _, _, _, _, _, _, _⟩ := a
 obtain ⟨_, _, _, _, _, _, _, _⟩ := b
 simp only [Seg.same, Bool.and_eq_true, beq_iff_eq] at h
 obtain ⟨⟨⟨⟨⟨⟨⟨rfl, h1⟩, rfl⟩, rfl⟩, rfl⟩, rfl⟩, rfl⟩, h2⟩ := h
 rw [IE.same_eq h1, kdsSame_eq h2]
theorem segsSame_eq : ∀ {a b : List Seg}, segsSame a b = true → a = b
 | [], [], _ => rfl
 | [], _ :: _, h => by simp [segsSame] at h
 | _ :: _, [], h => by simp [segsSame] at h
 | x :: a, y :: b, h => by
  simp only [segsSame, Bool.and_eq_true] at h
  rw [Seg.same_eq h.1, segsSame_eq h.2]
theorem Up.same_eq {a b : Up} (h : a.same b = true) : a = b := by
 obtain ⟨_, _, _, _, _⟩ := a
 obtain ⟨_, _, _, _, _⟩ := b
 simp only [Up.same, Bool.and_eq_true, beq_iff_eq] at h
 obtain ⟨⟨⟨⟨rfl, h1⟩, h2⟩, rfl⟩, h3⟩ := h
 rw [IE.same_eq h1, IE.same_eq h2, SC.same_eq h3]
theorem upsSame_eq : ∀ {a b : List Up}, upsSame a b = true → a = b
 | [], [], _ => rfl
 | [], _ :: _, h => by simp [upsSame] at h
 | _ :: _, [], h => by simp [upsSame] at h
 | x :: a, y :: b, h => by
  simp only [upsSame, Bool.and_eq_true] at h
  rw [Up.same_eq h.1, upsSame_eq h.2]
theorem capSame_eq {a b : Option (IE × Nat)} (h : capSame a b = true) : a = b := by
 unfold capSame at h
 split at h
 ·rfl
 ·simp only [Bool.and_eq_true, beq_iff_eq] at h
  rw [IE.same_eq h.1, h.2]
 ·cases h
theorem SB.wk_ok {a b : SB} (h : a.wk b = true) (hg : a.gone = false) : b.gone = false ∧ a.nl = b.nl ∧ a.ro = b.ro ∧ (a.own = true → b.own = true) ∧ a.t = b.t ∧ ∀ arr, b.has ρ ν arr → a.has ρ ν arr := by
 simp only [SB.wk, hg, Bool.false_or, Bool.and_eq_true, Bool.not_eq_true', Bool.or_eq_true, beq_iff_eq] at h
 obtain ⟨h1, hro, how, hnl, h2, h3, h4, h5, h6⟩ := h
 obtain ⟨hl, hc⟩ := wkCs_ok h5
 refine ⟨h1, BE.same_eq hnl, hro, fun h => by rcases how with how | how <;> simp_all, h2, fun arr hb => ?_⟩
 rcases h6 with ⟨h6, h7⟩ | ⟨h6, h7⟩
 ·have e1 := segsSame_eq h6
  have e2 := upsSame_eq h7
  refine ⟨fun u hu => hb.un u (e2 ▸ hu), fun hs ho => ?_, fun e n he => hb.cap e n (capSame_eq h4 ▸ he), fun p c hp hh => hb.ex p c (hc p c hp hh) hh, fun gi g hgi => ?_⟩
  ·rw [hl]
   refine hb.size (e1 ▸ hs) ?_
   rcases h3 with h3 | h3
   ·rw [ho] at h3; cases h3
   ·exact h3
  ·rw [e2]
   exact hb.sg gi g (e1 ▸ hgi)
 ·have e1 := segsSame_eq h6
  have e2 : a.ups = [] := by simpa using h7
  refine ⟨fun u hu => (by rw [e2] at hu; cases hu), fun hs => (by rw [e1] at hs; cases hs), fun e n he => hb.cap e n (capSame_eq h4 ▸ he), fun p c hp hh => hb.ex p c (hc p c hp hh) hh, fun gi g hgi i1 i2 j a1 a2 a3 => ?_⟩
  rw [e1] at hgi
  cases gi with
  | zero => simp at hgi; subst hgi; simp [dummy] at a3
  | succ gi => simp at hgi
theorem wkHp_at : ∀ {sc hp : List SB}, wkHp sc hp = true → ∀ (k : Nat) (a : SB), sc[k]? = some a → ∃ b, hp[k]? = some b ∧ a.wk b = true
 | [], _, _, k, a, h => by simp at h
 | _ :: _, [], h, _, _, _ => by simp [wkHp] at h
 | x :: sc, y :: hp, h, k, a, hk => by
  simp only [wkHp, Bool.and_eq_true] at h
  cases k with
  | zero => simp at hk; subst hk; exact ⟨y, rfl, h.1⟩
  | succ k =>
   obtain ⟨b, hb, hw⟩ := wkHp_at h.2 k a (by simpa using hk)
   exact ⟨b, by simpa using hb, hw⟩
theorem SB.wk_segs {a b : SB} (h : a.wk b = true) (hg : a.gone = false) : a.segs = [] → b.segs = [] := by
 simp only [SB.wk, hg, Bool.false_or, Bool.and_eq_true, Bool.not_eq_true', Bool.or_eq_true, beq_iff_eq] at h
 obtain ⟨-, -, -, -, -, -, -, -, h6⟩ := h
 intro he
 rcases h6 with ⟨h6, -⟩ | ⟨h6, -⟩
 ·rw [← segsSame_eq h6]; exact he
 ·have := segsSame_eq h6
  rw [he] at this; cases this
theorem SB.wk_dead {a b : SB} (h : a.wk b = true) (hg : a.dead ρ = false) : b.dead ρ = false := by
 obtain ⟨h1, h2, -⟩ := SB.wk_ok (ρ := ρ) (ν := fun _ => ⟨0, 0, none⟩) h (SB.live_gone hg)
 unfold SB.dead at hg ⊢
 rw [h1]
 rw [h2] at hg
 simp at hg
 simp [hg.2]
theorem wkHp_ok {sc hp : List SB} {w : World} (h : wkHp sc hp = true) (hh : HpOK ρ ν hp w) : HpOK ρ ν sc w := by
 refine ⟨fun i j a b hi hj ga gb ra he => ?_, fun k a hk hg hr => ?_, fun k a hk hg hr => ?_⟩
 ·obtain ⟨a', ha, wa⟩ := wkHp_at h i a hi
  obtain ⟨b', hb, wb⟩ := wkHp_at h j b hj
  obtain ⟨e1, -, e2, -⟩ := SB.wk_ok (ρ := ρ) (ν := ν) wa (SB.live_gone ga)
  exact hh.inj i j a' b' ha hb (SB.wk_dead wa ga) (SB.wk_dead wb gb) (e2 ▸ ra) he
 ·obtain ⟨b, hb, wb⟩ := wkHp_at h k a hk
  obtain ⟨g1, -, gr, -, g2, g3⟩ := SB.wk_ok (ρ := ρ) (ν := ν) wb (SB.live_gone hg)
  obtain ⟨h0, arr, h1, h2⟩ := hh.blk k b hb (SB.wk_dead wb hg) (gr ▸ hr)
  exact ⟨h0, arr, by rw [g2]; exact h1, g3 arr h2⟩
 ·obtain ⟨b, hb, wb⟩ := wkHp_at h k a hk
  obtain ⟨g1, -, gr, -, g2, g3⟩ := SB.wk_ok (ρ := ρ) (ν := ν) wb (SB.live_gone hg)
  obtain ⟨h0, arr, h1, h2⟩ := hh.rd k b hb (SB.wk_dead wb hg) (gr ▸ hr)
  refine ⟨h0.of (SB.wk_segs wb (SB.live_gone hg)) g2 (Nat.le_refl _) rfl, arr, g3 arr h1, h2⟩
end

/-! ### everything is the same as itself -/
theorem kindEq_refl (k : IntKind) : kindEq k k = true := by cases k <;> rfl
theorem IE.same_refl : ∀ e : IE, e.same e = true := by
 intro e
 induction e <;> simp_all [IE.same, kindEq_refl]
theorem BE.same_refl : ∀ e : BE, e.same e = true := by
 intro e
 induction e <;> simp_all [BE.same, IE.same_refl, kindEq_refl]
theorem SA.same_refl (a : SA) : a.same a = true := by simp [SA.same, IE.same_refl]
theorem SC.same_refl : ∀ e : SC, e.same e = true := by
 intro e
 induction e <;> simp_all [SC.same, IE.same_refl, BE.same_refl, SA.same_refl, kindEq_refl]
theorem wkCs_refl : ∀ l : List SC, wkCs l l = true
 | [] => rfl
 | c :: r => by simp [wkCs, SC.same_refl, wkCs_refl r]
theorem kdsSame_refl : ∀ l : List Kd, kdsSame l l = true
 | [] => rfl
 | c :: r => by cases c <;> simp [kdsSame, kdSame, kindEq_refl, kdsSame_refl r]
theorem segsSame_refl : ∀ l : List Seg, segsSame l l = true
 | [] => rfl
 | c :: r => by simp [segsSame, Seg.same, IE.same_refl, kdsSame_refl, segsSame_refl r]
theorem upsSame_refl : ∀ l : List Up, upsSame l l = true
 | [] => rfl
 | c :: r => by simp [upsSame, Up.same, IE.same_refl, SC.same_refl, upsSame_refl r]
theorem capSame_refl (c : Option (IE × Nat)) : capSame c c = true := by
 cases c with
 | none => rfl
 | some p => simp [capSame, IE.same_refl]
theorem SB.wk_refl (a : SB) : a.wk a = true := by
 simp [SB.wk, wkCs_refl, segsSame_refl, upsSame_refl, capSame_refl, BE.same_refl]
theorem wkHp_of : ∀ {sc hp : List SB}, sc.length ≤ hp.length → (∀ (k : Nat) (a b : SB), sc[k]? = some a → hp[k]? = some b → a.wk b = true) → wkHp sc hp = true
 | [], _, _, _ => by simp [wkHp]
 | _ :: _, [], h, _ => by simp at h
 | x :: sc, y :: hp, hl, h => by
  simp only [wkHp, Bool.and_eq_true]
  exact ⟨h 0 x y rfl rfl, wkHp_of (by simpa using hl) fun k a b ha hb => h (k + 1) a b (by simpa using ha) (by simpa using hb)⟩
def goneSB : SB := { t := 0, gone := true }
theorem goneSB_wk (b : SB) : goneSB.wk b = true := rfl
def maskCs (lo n : Nat) : List SC → List SC → Nat → List SC
 | _, [], _ => []
 | [], b :: bs, i => (if Nat.ble lo i && Nat.blt i (lo + n) then b else .hole) :: maskCs lo n [] bs (i + 1)
 | a :: as, b :: bs, i => (if (Nat.ble lo i && Nat.blt i (lo + n)) || !a.isHole then b else .hole) :: maskCs lo n as bs (i + 1)
theorem maskCs_wk {lo n : Nat} : ∀ {as bs : List SC} {i : Nat}, wkCs (maskCs lo n as bs i) bs = true
 | _, [], _ => by simp [maskCs, wkCs]
 | [], b :: bs, i => by
  simp only [maskCs, wkCs, Bool.and_eq_true]
  refine ⟨?_, maskCs_wk⟩
  split
  ·simp [SC.same_refl]
  ·rfl
 | a :: as, b :: bs, i => by
  simp only [maskCs, wkCs, Bool.and_eq_true]
  refine ⟨?_, maskCs_wk⟩
  split
  ·simp [SC.same_refl]
  ·rfl
theorem wk_maskCs {lo n : Nat} : ∀ {as bs : List SC} {i : Nat}, wkCs as bs = true → wkCs as (maskCs lo n as bs i) = true
 | [], [], _, _ => rfl
 | [], b :: bs, _, h => by simp [wkCs] at h
 | a :: as, [], _, h => by simp [wkCs] at h
 | a :: as, b :: bs, i, h => by
  simp only [wkCs, Bool.and_eq_true] at h
  simp only [maskCs, wkCs, Bool.and_eq_true]
  refine ⟨?_, wk_maskCs h.2⟩
  cases ha : a.isHole with
  | true => rfl
  | false =>
   have := h.1
   rw [ha] at this
   simpa using this
def SB.mask (m : Option (Nat × Nat)) (a b : SB) : SB :=
 match m with
 | some (lo, n) => if b.segs.isEmpty then { b with cs := maskCs lo n (if a.gone then [] else a.cs) b.cs 0 } else if a.gone then b else a
 | none => if a.gone then b else a
theorem SB.mask_wk {m : Option (Nat × Nat)} {a b : SB} (h : a.wk b = true) : (a.mask m b).wk b = true := by
 unfold SB.mask
 split
 ·split
  ·have h1 := SB.wk_refl b
   unfold SB.wk at h1 ⊢
   simp only [Bool.or_eq_true, Bool.and_eq_true] at h1 ⊢
   rcases h1 with h1 | ⟨g1, g2, g3, g4, g5, g6, g7, g8, g9⟩
   ·exact .inl h1
   ·exact .inr ⟨g1, g2, g3, g4, g5, g6, g7, maskCs_wk, g9⟩
  ·split
   ·exact SB.wk_refl b
   ·exact h
 ·split
  ·exact SB.wk_refl b
  ·exact h
theorem SB.wk_mask {m : Option (Nat × Nat)} {a b : SB} (h : a.wk b = true) : a.wk (a.mask m b) = true := by
 unfold SB.mask
 cases ha : a.gone with
 | true => simp [SB.wk, ha]
 | false =>
  simp only [Bool.false_eq_true, if_false]
  split
  ·split
   ·unfold SB.wk at h ⊢
    simp only [ha, Bool.false_or, Bool.and_eq_true] at h ⊢
    obtain ⟨g1, g2, g3, g4, g5, g6, g7, g8, g9⟩ := h
    exact ⟨g1, g2, g3, g4, g5, g6, g7, wk_maskCs g8, g9⟩
   ·exact SB.wk_refl a
  ·exact SB.wk_refl a
def hold (m : Option (Nat × Nat)) : List SB → List SB → Nat → List SB
 | [], b :: _, 0 => [goneSB.mask m b]
 | [], _ :: hp, k + 1 => goneSB :: hold m [] hp k
 | a :: sc, b :: hp, 0 => a.mask m b :: sc
 | a :: sc, _ :: hp, k + 1 => a :: hold m sc hp k
 | sc, [], _ => sc
theorem hold_wk {m : Option (Nat × Nat)} : ∀ {sc hp : List SB} {k : Nat}, wkHp sc hp = true → wkHp (hold m sc hp k) hp = true
 | [], b :: hp, 0, _ => by simp [hold, wkHp, SB.mask_wk (goneSB_wk b)]
 | [], b :: hp, k + 1, _ => by simp only [hold, wkHp, goneSB_wk, Bool.true_and]; exact hold_wk (sc := []) (by simp [wkHp])
 | a :: sc, b :: hp, 0, h => by
  simp only [wkHp, Bool.and_eq_true] at h
  simp [hold, wkHp, SB.mask_wk h.1, h.2]
 | a :: sc, b :: hp, k + 1, h => by
  simp only [wkHp, Bool.and_eq_true] at h
  simp only [hold, wkHp, Bool.and_eq_true]
  exact ⟨h.1, hold_wk h.2⟩
 | [], [], _, _ => by simp [hold, wkHp]
 | _ :: _, [], _, h => by simp [wkHp] at h
theorem hold_more {m : Option (Nat × Nat)} : ∀ {sc hp : List SB} {k : Nat}, wkHp sc hp = true → wkHp sc (hold m sc hp k) = true
 | [], _, _, _ => by simp [wkHp]
 | a :: sc, b :: hp, 0, h => by
  simp only [wkHp, Bool.and_eq_true] at h
  simp only [hold, wkHp, Bool.and_eq_true]
  exact ⟨SB.wk_mask h.1, wkHp_of (Nat.le_refl _) fun k x y hx hy => by rw [hx] at hy; cases hy; exact SB.wk_refl x⟩
 | a :: sc, b :: hp, k + 1, h => by
  simp only [wkHp, Bool.and_eq_true] at h
  simp only [hold, wkHp, Bool.and_eq_true]
  exact ⟨SB.wk_refl a, hold_more h.2⟩
 | a :: sc, [], _, h => by simp [wkHp] at h
end Go.Rex
