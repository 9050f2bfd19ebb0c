/- Rex, part 2: symbolic addresses, one-cell values, values, blocks; reading and writing a block. -/
import Derived.Test.YthomdlajobnmnaaDoorRex1
set_option linter.unusedSimpArgs false
set_option linter.unusedVariables false
namespace Go.Rex

/-! ### smart constructors -/
def IE.addS (a b : IE) : IE :=
 match a.lit?, b.lit? with
 | some x, some y => .lit (x + y)
 | some x, none => if x == 0 then b else .add a b
 | none, some y => if y == 0 then a else .add a b
 | _, _ => .add a b
theorem IE.addS_den (ρ : Env) (a b : IE) : (a.addS b).den ρ = a.den ρ + b.den ρ := by
 unfold IE.addS
 split
 ·rename_i h1 h2; simp [IE.lit?_ok h1, IE.lit?_ok h2, IE.den]
 ·rename_i x h1 _; split
  ·rename_i h; simp at h; simp [IE.lit?_ok h1, h]
  ·simp [IE.den]
 ·rename_i y _ h1; split
  ·rename_i h; simp at h; simp [IE.lit?_ok h1, h]
  ·simp [IE.den]
 ·simp [IE.den]

def BE.lit? : BE → Option Bool
 | .lit b => some b
 | _ => none
theorem BE.lit?_ok {ρ : Env} {a : BE} {b : Bool} (h : a.lit? = some b) : a.den ρ = b := by
 cases a <;> simp_all [BE.lit?, BE.den]
def BE.notS (a : BE) : BE := match a with | .lit b => .lit (!b) | .not b => b | c => .not c
theorem BE.notS_den (ρ : Env) (a : BE) : a.notS.den ρ = !a.den ρ := by
 unfold BE.notS; split <;> simp [BE.den]
def BE.andS (a b : BE) : BE :=
 match a.lit? with
 | some true => b
 | some false => .lit false
 | none => match b.lit? with
  | some true => a
  | some false => .lit false
  | none => .and a b
theorem BE.andS_den (ρ : Env) (a b : BE) : (a.andS b).den ρ = (a.den ρ && b.den ρ) := by
 unfold BE.andS
 split
 ·rename_i h; simp [BE.lit?_ok h]
 ·rename_i h; simp [BE.lit?_ok h, BE.den]
 ·split
  ·rename_i h; simp [BE.lit?_ok h]
  ·rename_i h; simp [BE.lit?_ok h, BE.den]
  ·simp [BE.den]
def BE.iteS (c a b : BE) : BE :=
 match c.lit? with
 | some true => a
 | some false => b
 | none =>
  match a.lit?, b.lit? with
  | some true, some false => c
  | some false, some true => .not c
  | some true, some true => .lit true
  | some false, some false => .lit false
  | some true, none => .or c b
  | some false, none => .and (.not c) b
  | none, some false => .and c a
  | none, some true => .or (.not c) a
  | none, none => .ite c a b
theorem BE.iteS_den (ρ : Env) (c a b : BE) : (c.iteS a b).den ρ = if c.den ρ then a.den ρ else b.den ρ := by
 unfold BE.iteS
 split
 ·rename_i h; simp [BE.lit?_ok h]
 ·rename_i h; simp [BE.lit?_ok h]
 ·split
  ·rename_i h1 h2; simp [BE.lit?_ok h1, BE.lit?_ok h2]
  ·rename_i h1 h2; simp [BE.lit?_ok h1, BE.lit?_ok h2, BE.den]
  ·rename_i h1 h2; simp [BE.lit?_ok h1, BE.lit?_ok h2, BE.den]
  ·rename_i h1 h2; simp [BE.lit?_ok h1, BE.lit?_ok h2, BE.den]
  ·rename_i h1 h2; rw [BE.lit?_ok h1]; simp only [BE.den]; cases c.den ρ <;> simp
  ·rename_i h1 h2; rw [BE.lit?_ok h1]; simp only [BE.den]; cases c.den ρ <;> simp
  ·rename_i h1 h2; rw [BE.lit?_ok h2]; simp only [BE.den]; cases c.den ρ <;> simp
  ·rename_i h1 h2; rw [BE.lit?_ok h2]; simp only [BE.den]; cases c.den ρ <;> simp
  ·simp [BE.den]

/-! ### addresses -/
structure SA where
 blk : Nat
 i1 : IE := .lit 0
 s1 : Nat := 0
 i2 : IE := .lit 0
 s2 : Nat := 0
 j : Nat := 0
 deriving Inhabited
def SA.off (ρ : Env) (a : SA) : Nat := (a.i1.den ρ).toNat * a.s1 + (a.i2.den ρ).toNat * a.s2 + a.j
theorem Addr.add_add (a : Addr) (m n : Nat) : (a.add m).add n = a.add (m + n) := by
 unfold Addr.add
 by_cases hm : m = 0 <;> by_cases hn : n = 0 <;> simp [hm, hn, Nat.add_assoc]
theorem Addr.add_zero (a : Addr) : a.add 0 = a := by
 simp [Addr.add]
def SA.den (ρ : Env) (ν : Nat → Addr) (a : SA) : Addr := (ν a.blk).add (a.off ρ)
def SA.same (a b : SA) : Bool := a.blk == b.blk && a.i1.same b.i1 && a.s1 == b.s1 && a.i2.same b.i2 && a.s2 == b.s2 && a.j == b.j
theorem SA.same_eq {a b : SA} (h : a.same b = true) : a = b := by
 obtain ⟨_, _, _, _, _, _⟩ := a
 obtain ⟨_, _, _, _, _, _⟩ := b
 simp [SA.same] at h
 obtain ⟨⟨⟨⟨⟨rfl, h1⟩, rfl⟩, h2⟩, rfl⟩, rfl⟩ := h
 rw [IE.same_eq h1, IE.same_eq h2]
theorem add_den (ρ : Env) (ν : Nat → Addr) (a : SA) (n : Nat) : (a.den ρ ν).add n = ({ a with j := a.j + n } : SA).den ρ ν := by
 unfold SA.den SA.off
 rw [Addr.add_add, Nat.add_assoc]

/-! ### one-cell values -/
inductive SC where
 | int (k : IntKind) (e : IE)
 | bool (b : BE)
 | str (l : List UInt8)
 | val (i : Nat)
 | vcell (r : Nat) (i1 i2 : IE) (j : Nat)
 | ptr (a : SA)
 | nilptr
 | sl (a : SA) (len cap : IE)
 | nilsl
 | sln (c : BE) (a : SA) (len cap : IE)
 | fn (f : FuncId) (caps : List Nat)
 | nilfn
 | iface (t : TypeId) (c : SC)
 | nilif
 | ifn (c : BE) (x : SC)
 | mp (b : Nat)
 | nilmp
 | hole
 | rt (t b o : Nat)
 deriving Inhabited
def one1 (v : Value) : Value := if v.oneCell' then v else .nilIface
theorem one1_one (v : Value) : (one1 v).oneCell' = true := by unfold one1; split <;> simp_all [Value.oneCell']
theorem one1_of {v : Value} (h : v.oneCell' = true) : one1 v = v := by unfold one1; rw [if_pos h]
def SC.den (ρ : Env) (ν : Nat → Addr) : SC → Value
 | .int k e => .int k (e.den ρ)
 | .bool b => .bool (b.den ρ)
 | .str l => .string ⟨l.toArray⟩
 | .val i => one1 (ρ.vv i)
 | .vcell r i1 i2 j => one1 (ρ.vc r (i1.den ρ).toNat (i2.den ρ).toNat j)
 | .ptr a => .pointer (some (a.den ρ ν))
 | .nilptr => .pointer none
 | .sl a len cap => .slice (some (a.den ρ ν)) (len.den ρ).toNat (cap.den ρ).toNat
 | .nilsl => .slice none 0 0
 | .sln c a len cap => if c.den ρ then .slice none 0 0 else .slice (some (a.den ρ ν)) (len.den ρ).toNat (cap.den ρ).toNat
 | .fn f caps => .func (.func f) #[] (caps.map fun b => Value.pointer (some (ν b))).toArray
 | .nilfn => .nilFunc
 | .iface t c => .iface t (c.den ρ ν)
 | .nilif => .nilIface
 | .ifn c x => if c.den ρ then .nilIface else x.den ρ ν
 | .mp b => .map (some (ν b).block)
 | .nilmp => .map none
 | .rt t b o => .iface t (.agg #[.pointer (some ⟨b, o, none⟩)])
 | .hole => undef
def SC.isHole : SC → Bool
 | .hole => true
 | .ifn _ x => x.isHole
 | _ => false

def SC.same : SC → SC → Bool
 | .int k e, .int l f => kindEq k l && e.same f
 | .bool a, .bool b => a.same b
 | .str a, .str b => a == b
 | .val i, .val j => i == j
 | .vcell r a b j, .vcell s c d k => r == s && a.same c && b.same d && j == k
 | .ptr a, .ptr b => a.same b
 | .nilptr, .nilptr => true
 | .sl a l c, .sl b m d => a.same b && l.same m && c.same d
 | .nilsl, .nilsl => true
 | .sln k a l c, .sln k' b m d => k.same k' && a.same b && l.same m && c.same d
 | .fn f a, .fn g b => f == g && a == b
 | .nilfn, .nilfn => true
 | .iface t c, .iface u d => t == u && c.same d
 | .nilif, .nilif => true
 | .ifn c x, .ifn d y => c.same d && x.same y
 | .mp a, .mp b => a == b
 | .nilmp, .nilmp => true
 | .rt t b o, .rt t' b' o' => t == t' && b == b' && o == o'
 | .hole, .hole => true
 | _, _ => false
theorem SC.same_eq : ∀ {a b : SC}, a.same b = true → a = b := by
 intro a
 induction a with
 | int k e => intro b h; cases b <;> simp [SC.same] at h; rw [kindEq_eq h.1, IE.same_eq h.2]
 | bool e => intro b h; cases b <;> simp [SC.same] at h; rw [BE.same_eq h]
 | str l => intro b h; cases b <;> simp [SC.same] at h; rw [h]
 | val l => intro b h; cases b <;> simp [SC.same] at h; rw [h]
 | vcell r i1 i2 j => intro b h; cases b <;> simp [SC.same] at h; rw [h.1.1.1, IE.same_eq h.1.1.2, IE.same_eq h.1.2, h.2]
 | ptr a => intro b h; cases b <;> simp [SC.same] at h; rw [SA.same_eq h]
 | nilptr => intro b h; cases b <;> simp [SC.same] at h; rfl
 | sl a l c => intro b h; cases b <;> simp [SC.same] at h; rw [SA.same_eq h.1.1, IE.same_eq h.1.2, IE.same_eq h.2]
 | nilsl => intro b h; cases b <;> simp [SC.same] at h; rfl
 | sln k a l c => intro b h; cases b <;> simp [SC.same] at h; rw [BE.same_eq h.1.1.1, SA.same_eq h.1.1.2, IE.same_eq h.1.2, IE.same_eq h.2]
 | fn f c => intro b h; cases b <;> simp [SC.same] at h; rw [h.1, h.2]
 | nilfn => intro b h; cases b <;> simp [SC.same] at h; rfl
 | iface t c ih => intro b h; cases b <;> simp [SC.same] at h; rw [h.1, ih h.2]
 | nilif => intro b h; cases b <;> simp [SC.same] at h; rfl
 | ifn c x ih => intro b h; cases b <;> simp [SC.same] at h; rw [BE.same_eq h.1, ih h.2]
 | mp a => intro b h; cases b <;> simp [SC.same] at h; rw [h]
 | nilmp => intro b h; cases b <;> simp [SC.same] at h; rfl
 | rt t b o => intro b' h; cases b' <;> simp [SC.same] at h; rw [h.1.1, h.1.2, h.2]
 | hole => intro b h; cases b <;> simp [SC.same] at h; rfl
def sameL : List SC → List SC → Bool
 | [], [] => true
 | a :: r, b :: s => a.same b && sameL r s
 | _, _ => false
theorem sameL_eq : ∀ {a b : List SC}, sameL a b = true → a = b
 | [], [], _ => rfl
 | [], _ :: _, h => by simp [sameL] at h
 | _ :: _, [], h => by simp [sameL] at h
 | a :: r, b :: s, h => by
  simp [sameL] at h
  rw [SC.same_eq h.1, sameL_eq h.2]

theorem SC.oneCell {ρ : Env} {ν : Nat → Addr} : ∀ (c : SC), c.isHole = false → (c.den ρ ν).oneCell' = true := by
 intro c
 induction c with
 | ifn k x ih =>
  intro h
  have := ih h
  simp only [SC.den]
  split
  ·rfl
  ·exact this
 | _ => intro h; simp_all [SC.den, SC.isHole, one1_one] <;> (try split) <;> simp [Value.oneCell']

/-! ### values of any number of cells -/
inductive SW where
 | one (c : SC)
 | agg (cs : List SC)
 deriving Inhabited
def SW.den (ρ : Env) (ν : Nat → Addr) : SW → Value
 | .one c => c.den ρ ν
 | .agg cs => .agg (cs.map (·.den ρ ν)).toArray
def SW.cells : SW → List SC
 | .one c => [c]
 | .agg cs => cs
def SW.same : SW → SW → Bool
 | .one a, .one b => a.same b
 | .agg a, .agg b => sameL a b
 | _, _ => false
theorem SW.same_eq {a b : SW} (h : a.same b = true) : a = b := by
 cases a <;> cases b <;> simp [SW.same] at h
 ·rw [SC.same_eq h]
 ·rw [sameL_eq h]
inductive SV where
 | w (x : SW)
 | tup (xs : List SW)
 | gd (c : BE) (x : SW)
 deriving Inhabited
def SV.den (ρ : Env) (ν : Nat → Addr) : SV → Value
 | .w x => x.den ρ ν
 | .tup xs => .tuple (xs.map (·.den ρ ν)).toArray
 | .gd c x => if c.den ρ then x.den ρ ν else undef

end Go.Rex
