/- Rex, part C: templates: what a state says, said by fewer terms. -/
import Derived.Test.YthomdlajobnmnaaDoorRexB
set_option linter.unusedSimpArgs false
set_option linter.unusedVariables false
namespace Go.Rex

/-! ### contents -/
inductive CV where
 | up (g : Seg) (gi : Nat) (us : List Up) (sh : IE)
 | ex (cs : List SC) (s1 s2 lo : Nat)
 deriving Inhabited
def SC.I (ρ : Env) : SC → Int
 | .int _ e => e.den ρ
 | _ => 0
def SC.B (ρ : Env) : SC → Bool
 | .bool b => b.den ρ
 | _ => false
def upsI (ρ : Env) : List Up → Nat → Nat → Nat → Nat → Int → Int
 | [], _, _, _, _, b => b
 | u :: r, g, i1, i2, j, b =>
  if u.g = g ∧ (u.i1.den ρ).toNat = i1 ∧ (u.i2.den ρ).toNat = i2 ∧ u.j = j then u.c.I ρ else upsI ρ r g i1 i2 j b
def upsB (ρ : Env) : List Up → Nat → Nat → Nat → Nat → Bool → Bool
 | [], _, _, _, _, b => b
 | u :: r, g, i1, i2, j, b =>
  if u.g = g ∧ (u.i1.den ρ).toNat = i1 ∧ (u.i2.den ρ).toNat = i2 ∧ u.j = j then u.c.B ρ else upsB ρ r g i1 i2 j b
def Seg.I (ρ : Env) (g : Seg) (i1 i2 j : Nat) : Int := if g.z then 0 else ρ.ic g.r i1 i2 j
def Seg.B (ρ : Env) (g : Seg) (i1 i2 j : Nat) : Bool := if g.z then false else ρ.bc g.r i1 i2 j
def CV.I (ρ : Env) : CV → Nat → Nat → Nat → Int
 | .up g gi us sh, i1, i2, j => upsI ρ us gi ((sh.den ρ).toNat + i1) i2 j (g.I ρ ((sh.den ρ).toNat + i1) i2 j)
 | .ex cs s1 s2 lo, i1, i2, j => (cs.getD (i1 * s1 + i2 * s2 + lo + j) .hole).I ρ
def CV.B (ρ : Env) : CV → Nat → Nat → Nat → Bool
 | .up g gi us sh, i1, i2, j => upsB ρ us gi ((sh.den ρ).toNat + i1) i2 j (g.B ρ ((sh.den ρ).toNat + i1) i2 j)
 | .ex cs s1 s2 lo, i1, i2, j => (cs.getD (i1 * s1 + i2 * s2 + lo + j) .hole).B ρ
def CV.V (ρ : Env) (ν : Nat → Addr) : CV → Nat → Nat → Nat → Value
 | .up g gi us sh, i1, i2, j => upsVal ρ ν us gi ((sh.den ρ).toNat + i1) i2 j (g.base ρ ((sh.den ρ).toNat + i1) i2 j)
 | .ex cs s1 s2 lo, i1, i2, j => (cs.getD (i1 * s1 + i2 * s2 + lo + j) .hole).den ρ ν

def kdFit : Kd → SC → Bool
 | .int k, .int l _ => kindEq k l
 | .bool, .bool _ => true
 | .val, c => !c.isHole
 | _, _ => false
def upsFit (ks : List Kd) (gi : Nat) : List Up → Bool
 | [] => true
 | u :: r => (!(u.g == gi) || (match ks[u.j]? with | some k => kdFit k u.c | none => true)) && upsFit ks gi r
theorem kdFit_int {k : IntKind} {c : SC} (h : kdFit (.int k) c = true) (ρ : Env) (ν : Nat → Addr) : c.den ρ ν = .int k (c.I ρ) := by
 cases c <;> simp [kdFit] at h
 rw [kindEq_eq h]; rfl
theorem kdFit_bool {c : SC} (h : kdFit .bool c = true) (ρ : Env) (ν : Nat → Addr) : c.den ρ ν = .bool (c.B ρ) := by
 cases c <;> simp [kdFit] at h
 rfl
theorem kdFit_val {c : SC} (h : kdFit .val c = true) (ρ : Env) (ν : Nat → Addr) : (c.den ρ ν).oneCell' = true := by
 refine SC.oneCell c ?_
 cases c <;> simp_all [kdFit, SC.isHole]
section
variable {ρ : Env} {ν : Nat → Addr} {ks : List Kd} {gi : Nat}
theorem upsVal_int {k : IntKind} {i1 i2 j : Nat} {b : Int} (hj : ks[j]? = some (.int k)) : ∀ {us : List Up}, upsFit ks gi us = true →
  upsVal ρ ν us gi i1 i2 j (.int k b) = .int k (upsI ρ us gi i1 i2 j b)
 | [], _ => rfl
 | u :: r, h => by
  simp only [upsFit, Bool.and_eq_true, Bool.or_eq_true, Bool.not_eq_true', beq_eq_false_iff_ne, ne_eq] at h
  unfold upsVal upsI
  split
  ·rename_i hc
   obtain ⟨e1, -, -, e2⟩ := hc
   rcases h.1 with h1 | h1
   ·exact absurd e1 h1
   ·rw [e2, hj] at h1
    exact kdFit_int h1 ρ ν
  ·exact upsVal_int hj h.2
theorem upsVal_bool {i1 i2 j : Nat} {b : Bool} (hj : ks[j]? = some .bool) : ∀ {us : List Up}, upsFit ks gi us = true →
  upsVal ρ ν us gi i1 i2 j (.bool b) = .bool (upsB ρ us gi i1 i2 j b)
 | [], _ => rfl
 | u :: r, h => by
  simp only [upsFit, Bool.and_eq_true, Bool.or_eq_true, Bool.not_eq_true', beq_eq_false_iff_ne, ne_eq] at h
  unfold upsVal upsB
  split
  ·rename_i hc
   obtain ⟨e1, -, -, e2⟩ := hc
   rcases h.1 with h1 | h1
   ·exact absurd e1 h1
   ·rw [e2, hj] at h1
    exact kdFit_bool h1 ρ ν
  ·exact upsVal_bool hj h.2
theorem upsVal_val {i1 i2 j : Nat} {b : Value} (hb : b.oneCell' = true) (hj : ks[j]? = some .val) : ∀ {us : List Up}, upsFit ks gi us = true →
  (upsVal ρ ν us gi i1 i2 j b).oneCell' = true
 | [], _ => hb
 | u :: r, h => by
  simp only [upsFit, Bool.and_eq_true, Bool.or_eq_true, Bool.not_eq_true', beq_eq_false_iff_ne, ne_eq] at h
  unfold upsVal
  split
  ·rename_i hc
   obtain ⟨e1, -, -, e2⟩ := hc
   rcases h.1 with h1 | h1
   ·exact absurd e1 h1
   ·rw [e2, hj] at h1
    exact kdFit_val h1 ρ ν
  ·exact upsVal_val hb hj h.2
def kdVal (kd : Option Kd) (i : Int) (b : Bool) (v : Value) : Value :=
 match kd with
 | some (.int k) => .int k i
 | some .bool => .bool b
 | _ => one1 v
theorem Seg.base_kd (g : Seg) (hz : g.z = false) (i1 i2 j : Nat) : g.base ρ i1 i2 j = kdVal g.ks[j]? (ρ.ic g.r i1 i2 j) (ρ.bc g.r i1 i2 j) (ρ.vc g.r i1 i2 j) := by
 unfold Seg.base kdVal
 rw [hz]
 rfl
theorem up_kd {g : Seg} {us : List Up} {i1 i2 j : Nat} (hj : j < g.ks.length) (hf : upsFit g.ks gi us = true) :
  upsVal ρ ν us gi i1 i2 j (g.base ρ i1 i2 j) = kdVal g.ks[j]? (upsI ρ us gi i1 i2 j (g.I ρ i1 i2 j)) (upsB ρ us gi i1 i2 j (g.B ρ i1 i2 j)) (upsVal ρ ν us gi i1 i2 j (g.base ρ i1 i2 j)) := by
 have hjs : g.ks[j]? = some g.ks[j] := List.getElem?_eq_getElem hj
 cases hk : g.ks[j] with
 | int k =>
  rw [hk] at hjs
  have hb : g.base ρ i1 i2 j = .int k (g.I ρ i1 i2 j) := by unfold Seg.base; rw [hjs]; rfl
  rw [hjs, hb, upsVal_int hjs hf]
  rfl
 | bool =>
  rw [hk] at hjs
  have hb : g.base ρ i1 i2 j = .bool (g.B ρ i1 i2 j) := by unfold Seg.base; rw [hjs]; rfl
  rw [hjs, hb, upsVal_bool hjs hf]
  rfl
 | val =>
  rw [hk] at hjs
  rw [hjs]
  have hb : (g.base ρ i1 i2 j).oneCell' = true := by unfold Seg.base; rw [hjs]; exact one1_one _
  simp only [kdVal]
  rw [one1_of (upsVal_val hb hjs hf)]
theorem fit_kd {kd : Kd} {c : SC} (h : kdFit kd c = true) : c.den ρ ν = kdVal (some kd) (c.I ρ) (c.B ρ) (c.den ρ ν) := by
 cases kd with
 | int k => simpa [kdVal] using kdFit_int h ρ ν
 | bool => simpa [kdVal] using kdFit_bool h ρ ν
 | val => simp only [kdVal]; rw [one1_of (kdFit_val h ρ ν)]
end

/-! ### what a template's variables stand for -/
structure Sub where
 lo : Nat
 lob : Nat
 iv : List (Nat × IE) := []
 bv : List (Nat × BE) := []
 vv : List (Nat × SC) := []
 ct : List (Nat × CV) := []
 bk : List (Nat × SA) := []
 nb : List Nat := []
 deriving Inhabited
def Env.num (ρ : Env) : Env := { ρ with vv := fun _ => undef, vc := fun _ _ _ _ => undef }
def Sub.nenv (σ : Sub) (ρ : Env) : Env where
 iv := fun i => if i < σ.lo then ρ.iv i else match assoc i σ.iv with | some e => e.den ρ | none => 0
 bv := fun i => if i < σ.lo then ρ.bv i else match assoc i σ.bv with | some e => e.den ρ | none => false
 ic := fun r => if r < σ.lo then ρ.ic r else match assoc r σ.ct with | some c => c.I ρ | none => fun _ _ _ => 0
 bc := fun r => if r < σ.lo then ρ.bc r else match assoc r σ.ct with | some c => c.B ρ | none => fun _ _ _ => false
def Sub.env (σ : Sub) (ρ : Env) (ν : Nat → Addr) : Env :=
 { σ.nenv ρ with
   vv := fun i => if i < σ.lo then ρ.vv i else match assoc i σ.vv with | some e => e.den ρ ν | none => undef
   vc := fun r => if r < σ.lo then ρ.vc r else match assoc r σ.ct with | some c => c.V ρ ν | none => fun _ _ _ => undef }
def Sub.adr (σ : Sub) (ρ : Env) (ν : Nat → Addr) : Nat → Addr :=
 fun k => if k < σ.lob then ν k else match assoc k σ.bk with | some a => a.den ρ ν | none => ⟨0, 0, none⟩
theorem Sub.env_num (σ : Sub) (ρ : Env) (ν : Nat → Addr) : (σ.env ρ ν).num = (σ.nenv ρ).num := rfl
theorem Sub.agr (σ : Sub) (ρ : Env) (ν : Nat → Addr) : Agr σ.lo σ.lob ρ (σ.env ρ ν) ν (σ.adr ρ ν) :=
 ⟨fun i hi => by simp [Sub.env, Sub.nenv, hi], fun i hi => by simp [Sub.env, Sub.nenv, hi], fun i hi => by simp [Sub.env, hi], fun i hi => by simp [Sub.env, Sub.nenv, hi],
  fun i hi => by simp [Sub.env, Sub.nenv, hi], fun i hi => by simp [Sub.env, hi], fun i hi => by simp [Sub.adr, hi]⟩

/-! ### matching -/
def mIE (σ : Sub) (t e : IE) : Bool :=
 match t with
 | .var i => if Nat.blt i σ.lo then t.same e else match assoc i σ.iv with | some x => x.same e | none => false
 | _ => t.same e && t.sc σ.lo
def mBE (σ : Sub) (t e : BE) : Bool :=
 match t with
 | .var i => if Nat.blt i σ.lo then t.same e else match assoc i σ.bv with | some x => x.same e | none => false
 | _ => t.same e && t.sc σ.lo
def IE.isZ : IE → Bool
 | .lit 0 => true
 | _ => false
theorem IE.isZ_ok {ρ : Env} {a : IE} (h : a.isZ = true) : a.den ρ = 0 := by
 unfold IE.isZ at h
 split at h
 ·rfl
 ·cases h
def mSA (σ : Sub) (t a : SA) : Bool :=
 if Nat.blt t.blk σ.lob then t.same a && t.sc σ.lo σ.lob
 else match t.i1 with
  | .var o => mIE σ (.var o) a.i1 && t.s1 == a.s1 && t.i2.isZ && a.i2.isZ && t.j == 0 && a.j == 0 && (match assoc t.blk σ.bk with | some x => x.blk == a.blk && x.i1.isZ && x.i2.isZ && x.j == 0 | none => false)
  | _ => (match t.lit? with | some 0 => true | _ => false) && (match assoc t.blk σ.bk with | some x => x.same a | none => false)
def mBk (σ : Sub) (t b : Nat) : Bool :=
 if Nat.blt t σ.lob then t == b else match assoc t σ.bk with | some x => x.same { blk := b } | none => false
def mBks (σ : Sub) : List Nat → List Nat → Bool
 | [], [] => true
 | a :: r, b :: s => mBk σ a b && mBks σ r s
 | _, _ => false
def mSC (σ : Sub) : SC → SC → Bool
 | .int k e, .int l f => kindEq k l && mIE σ e f
 | .bool e, .bool f => mBE σ e f
 | .val i, c => if Nat.blt i σ.lo then (SC.val i).same c else match assoc i σ.vv with | some x => x.same c && !c.isHole | none => false
 | .ptr a, .ptr b => mSA σ a b
 | .sl a l c, .sl b m d => mSA σ a b && mIE σ l m && mIE σ c d
 | .sln k a l c, .sl b m d => mBE σ k (.lit false) && mSA σ a b && mIE σ l m && mIE σ c d
 | .sln k a l c, .sln k' b m d => mBE σ k k' && mSA σ a b && mIE σ l m && mIE σ c d
 | .sln k _ _ _, .nilsl => mBE σ k (.lit true)
 | .fn f a, .fn g b => f == g && mBks σ a b
 | .iface t c, .iface u d => t == u && mSC σ c d
 | .ifn k c, .ifn k' d => mBE σ k k' && mSC σ c d
 | .ifn k _, .nilif => mBE σ k (.lit true)
 | .ifn k c, .iface u d => mBE σ k (.lit false) && mSC σ c (.iface u d)
 | .mp a, .mp b => mBk σ a b
 | t, c => t.same c && t.sc σ.lo σ.lob
def mSCs (σ : Sub) : List SC → List SC → Bool
 | [], [] => true
 | a :: r, b :: s => mSC σ a b && mSCs σ r s
 | _, _ => false
def mSW (σ : Sub) : SW → SW → Bool
 | .one a, .one b => mSC σ a b
 | .agg a, .agg b => mSCs σ a b
 | _, _ => false
def mSWs (σ : Sub) : List SW → List SW → Bool
 | [], [] => true
 | a :: r, b :: s => mSW σ a b && mSWs σ r s
 | _, _ => false
def mSV (σ : Sub) : SV → SV → Bool
 | .w a, .w b => mSW σ a b
 | .tup a, .tup b => mSWs σ a b
 | .gd c a, .gd d b => mBE σ c d && mSW σ a b
 | _, _ => false
section
variable {ρ : Env} {ν : Nat → Addr} {σ : Sub}
theorem mIE_ok {t e : IE} (h : mIE σ t e = true) : t.den (σ.env ρ ν) = e.den ρ := by
 unfold mIE at h
 split at h
 ·rename_i i
  split at h
  ·rename_i hi
   rw [← IE.same_eq h]
   exact IE.sc_den (σ.agr ρ ν) (e := .var i) hi
  ·rename_i hi
   split at h
   ·rename_i x hx
    have hi' : ¬ i < σ.lo := by simpa using hi
    simp only [IE.den, Sub.env, Sub.nenv, if_neg hi', hx, IE.same_eq h]
   ·cases h
 ·simp only [Bool.and_eq_true] at h
  rw [← IE.same_eq h.1]
  exact IE.sc_den (σ.agr ρ ν) h.2
theorem mBE_ok {t e : BE} (h : mBE σ t e = true) : t.den (σ.env ρ ν) = e.den ρ := by
 unfold mBE at h
 split at h
 ·rename_i i
  split at h
  ·rename_i hi
   rw [← BE.same_eq h]
   exact BE.sc_den (σ.agr ρ ν) (e := .var i) hi
  ·rename_i hi
   split at h
   ·rename_i x hx
    have hi' : ¬ i < σ.lo := by simpa using hi
    simp only [BE.den, Sub.env, Sub.nenv, if_neg hi', hx, BE.same_eq h]
   ·cases h
 ·simp only [Bool.and_eq_true] at h
  rw [← BE.same_eq h.1]
  exact BE.sc_den (σ.agr ρ ν) h.2
theorem mSA_ok {t a : SA} (h : mSA σ t a = true) : t.den (σ.env ρ ν) (σ.adr ρ ν) = a.den ρ ν := by
 unfold mSA at h
 split at h
 ·simp only [Bool.and_eq_true] at h
  rw [← SA.same_eq h.1]
  exact SA.sc_den (σ.agr ρ ν) h.2
 ·rename_i hb
  have hb' : ¬ t.blk < σ.lob := by simpa using hb
  split at h
  ·rename_i o ho
   simp only [Bool.and_eq_true, beq_iff_eq] at h
   obtain ⟨⟨⟨⟨⟨⟨h1, h2⟩, h3⟩, h4⟩, h5⟩, h6⟩, h7⟩ := h
   split at h7
   ·rename_i x hx
    simp only [Bool.and_eq_true, beq_iff_eq] at h7
    obtain ⟨⟨⟨g1, g2⟩, g3⟩, g4⟩ := h7
    have e1 := mIE_ok (ρ := ρ) (ν := ν) h1
    have ha : σ.adr ρ ν t.blk = ν a.blk := by
     simp only [Sub.adr, if_neg hb', hx]
     simp [SA.den, SA.off, IE.isZ_ok g2, IE.isZ_ok g3, g4, g1, Addr.add_zero]
    simp only [SA.den, SA.off, ho, e1, ha, h2, h5, h6, IE.isZ_ok h3, IE.isZ_ok h4, Int.toNat_zero, Nat.zero_mul]
   ·cases h7
  simp only [Bool.and_eq_true] at h
  obtain ⟨h1, h2⟩ := h
  split at h1
  ·rename_i hl
   split at h2
   ·rename_i x hx
    simp only [SA.den, SA.lit?_ok hl, Addr.add_zero]
    simp only [Sub.adr, if_neg hb', hx, SA.same_eq h2]
    rfl
   ·cases h2
  ·cases h1
theorem mBk_ok {t b : Nat} (h : mBk σ t b = true) : σ.adr ρ ν t = ν b := by
 unfold mBk at h
 split at h
 ·rename_i hb
  simp only [beq_iff_eq] at h
  subst h
  simp only [Sub.adr, if_pos (show t < σ.lob by simpa using hb)]
 ·rename_i hb
  have hb' : ¬ t < σ.lob := by simpa using hb
  split at h
  ·rename_i x hx
   simp only [Sub.adr, if_neg hb', hx, SA.same_eq h]
   simp [SA.den, SA.off, IE.den, Addr.add_zero]
  ·cases h
theorem mBks_ok : ∀ {t b : List Nat}, mBks σ t b = true → (t.map fun k => Value.pointer (some (σ.adr ρ ν k))) = b.map fun k => Value.pointer (some (ν k))
 | [], [], _ => rfl
 | [], _ :: _, h => by simp [mBks] at h
 | _ :: _, [], h => by simp [mBks] at h
 | a :: r, b :: s, h => by
  simp only [mBks, Bool.and_eq_true] at h
  simp only [List.map_cons, mBk_ok (ρ := ρ) (ν := ν) h.1, mBks_ok h.2]
theorem mSC_ok : ∀ {t c : SC}, mSC σ t c = true → t.den (σ.env ρ ν) (σ.adr ρ ν) = c.den ρ ν := by
 intro t
 have dflt : ∀ {t c : SC}, (t.same c && t.sc σ.lo σ.lob) = true → t.den (σ.env ρ ν) (σ.adr ρ ν) = c.den ρ ν := by
  intro t c h
  simp only [Bool.and_eq_true] at h
  rw [← SC.same_eq h.1]
  exact SC.sc_den (σ.agr ρ ν) h.2
 induction t with
 | int k e =>
  intro c h
  cases c with
  | int l f =>
   simp only [mSC, Bool.and_eq_true] at h
   simp only [SC.den, mIE_ok (ν := ν) h.2, kindEq_eq h.1]
  | _ => exact dflt (by simpa [mSC] using h)
 | bool e =>
  intro c h
  cases c with
  | bool f =>
   simp only [mSC] at h
   simp only [SC.den, mBE_ok (ν := ν) h]
  | _ => exact dflt (by simpa [mSC] using h)
 | val i =>
  intro c h
  simp only [mSC] at h
  split at h
  ·rename_i hi
   rw [← SC.same_eq h]
   exact SC.sc_den (σ.agr ρ ν) (c := .val i) hi
  ·rename_i hi
   have hi' : ¬ i < σ.lo := by simpa using hi
   split at h
   ·rename_i x hx
    simp only [Bool.and_eq_true, Bool.not_eq_true'] at h
    simp only [SC.den, Sub.env, if_neg hi', hx, SC.same_eq h.1]
    exact one1_of (SC.oneCell c h.2)
   ·cases h
 | ptr a =>
  intro c h
  cases c with
  | ptr b =>
   simp only [mSC] at h
   simp only [SC.den, mSA_ok (ρ := ρ) (ν := ν) h]
  | _ => exact dflt (by simpa [mSC] using h)
 | sl a l k =>
  intro c h
  cases c with
  | sl b m d =>
   simp only [mSC, Bool.and_eq_true] at h
   simp only [SC.den, mSA_ok (ρ := ρ) (ν := ν) h.1.1, mIE_ok (ν := ν) h.1.2, mIE_ok (ν := ν) h.2]
  | _ => exact dflt (by simpa [mSC] using h)
 | sln k a l x =>
  intro c h
  cases c with
  | sl b m d =>
   simp only [mSC, Bool.and_eq_true] at h
   simp only [SC.den, mBE_ok (ν := ν) h.1.1.1, BE.den, mSA_ok (ρ := ρ) (ν := ν) h.1.1.2, mIE_ok (ν := ν) h.1.2, mIE_ok (ν := ν) h.2]
   rfl
  | sln k' b m d =>
   simp only [mSC, Bool.and_eq_true] at h
   simp only [SC.den, mBE_ok (ν := ν) h.1.1.1, mSA_ok (ρ := ρ) (ν := ν) h.1.1.2, mIE_ok (ν := ν) h.1.2, mIE_ok (ν := ν) h.2]
  | nilsl =>
   simp only [mSC] at h
   simp only [SC.den, mBE_ok (ν := ν) h, BE.den, if_true]
  | _ => exact dflt (by simpa [mSC] using h)
 | fn f a =>
  intro c h
  cases c with
  | fn g b =>
   simp only [mSC, Bool.and_eq_true, beq_iff_eq] at h
   simp only [SC.den, h.1, mBks_ok (ρ := ρ) (ν := ν) h.2]
  | _ => exact dflt (by simpa [mSC] using h)
 | iface t x ih =>
  intro c h
  cases c with
  | iface u d =>
   simp only [mSC, Bool.and_eq_true, beq_iff_eq] at h
   simp only [SC.den, h.1, ih h.2]
  | _ => exact dflt (by simpa [mSC] using h)
 | ifn k x ih =>
  intro c h
  cases c with
  | ifn k' d =>
   simp only [mSC, Bool.and_eq_true] at h
   simp only [SC.den, mBE_ok (ν := ν) h.1, ih h.2]
  | nilif =>
   simp only [mSC] at h
   simp only [SC.den, mBE_ok (ν := ν) h, BE.den, if_true]
  | iface u d =>
   simp only [mSC, Bool.and_eq_true] at h
   have h2 := ih h.2
   simp only [SC.den, mBE_ok (ν := ν) h.1, BE.den, Bool.false_eq_true, if_false] at h2 ⊢
   exact h2
  | _ => exact dflt (by simpa [mSC] using h)
 | mp a =>
  intro c h
  cases c with
  | mp b =>
   simp only [mSC] at h
   simp only [SC.den, mBk_ok (ρ := ρ) (ν := ν) h]
  | _ => exact dflt (by simpa [mSC] using h)
 | _ =>
  intro c h
  exact dflt (by simpa [mSC] using h)
theorem mSCs_ok : ∀ {t c : List SC}, mSCs σ t c = true → (t.map fun x => x.den (σ.env ρ ν) (σ.adr ρ ν)) = c.map fun x => x.den ρ ν
 | [], [], _ => rfl
 | [], _ :: _, h => by simp [mSCs] at h
 | _ :: _, [], h => by simp [mSCs] at h
 | a :: r, b :: s, h => by
  simp only [mSCs, Bool.and_eq_true] at h
  simp only [List.map_cons, mSC_ok h.1, mSCs_ok h.2]
theorem mSW_ok {t x : SW} (h : mSW σ t x = true) : t.den (σ.env ρ ν) (σ.adr ρ ν) = x.den ρ ν := by
 cases t <;> cases x <;> simp only [mSW] at h
 ·exact mSC_ok h
 ·cases h
 ·cases h
 ·simp only [SW.den, mSCs_ok (ρ := ρ) (ν := ν) h]
theorem mSWs_ok : ∀ {t c : List SW}, mSWs σ t c = true → (t.map fun x => x.den (σ.env ρ ν) (σ.adr ρ ν)) = c.map fun x => x.den ρ ν
 | [], [], _ => rfl
 | [], _ :: _, h => by simp [mSWs] at h
 | _ :: _, [], h => by simp [mSWs] at h
 | a :: r, b :: s, h => by
  simp only [mSWs, Bool.and_eq_true] at h
  simp only [List.map_cons, mSW_ok h.1, mSWs_ok h.2]
theorem mSV_ok {t x : SV} (h : mSV σ t x = true) : t.den (σ.env ρ ν) (σ.adr ρ ν) = x.den ρ ν := by
 cases t <;> cases x <;> simp only [mSV] at h <;> try cases h
 ·exact mSW_ok h
 ·simp only [SV.den, mSWs_ok (ρ := ρ) (ν := ν) h]
 ·simp only [Bool.and_eq_true] at h
  simp only [SV.den, mBE_ok (ν := ν) h.1, mSW_ok (ρ := ρ) (ν := ν) h.2]
end
end Go.Rex
