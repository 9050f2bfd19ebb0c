/- Rex, part 4: what is known of the program's types; frames; memory; operands. -/
import Derived.Test.YthomdlajobnmnaaDoorRex3
set_option linter.unusedSimpArgs false
set_option linter.unusedVariables false
namespace Go.Rex

inductive TD where
 | int (k : IntKind) | bool | str | ptr (e : TypeId) | sl (e : TypeId) | struct (fs : List (Nat × TypeId)) | arr (n : Nat) (e : TypeId) | ifc | fn | map (k e : TypeId) | other
 deriving Inhabited
structure TI where
 d : TD
 size : Nat
 bytes : Nat
 zero : List SC
 eqs : Bool := false
 deriving Inhabited
structure FI where
 fn : Func
 deriving Inhabited
inductive FT where
 | leaf
 | node (k : FuncId) (f : Func) (l r : FT)
 deriving Inhabited
def FT.find (n : FuncId) : FT → Option Func
 | .leaf => none
 | .node k f l r => match Nat.beq k n with
  | true => some f
  | false => match Nat.blt n k with
   | true => l.find n
   | false => r.find n
def FT.flat : FT → List (FuncId × Func)
 | .leaf => []
 | .node k f l r => l.flat ++ (k, f) :: r.flat
theorem FT.find_mem {n : FuncId} {g : Func} : ∀ {t : FT}, t.find n = some g → (n, g) ∈ t.flat
 | .leaf, h => by simp [FT.find] at h
 | .node k f l r, h => by
  unfold FT.find at h
  unfold FT.flat
  split at h
  ·rename_i hk
   have hk := Nat.eq_of_beq_eq_true hk
   cases h
   simp [hk]
  ·split at h
   ·exact List.mem_append_left _ (FT.find_mem h)
   ·exact List.mem_append_right _ (List.mem_cons_of_mem _ (FT.find_mem h))
structure Tab where
 tys : List (TypeId × TI)
 fns : List (FuncId × Func)
 wraps : List FuncId := []
 wr : Bool := false
 ft : FT := .leaf
 deriving Inhabited
def assoc {α : Type} (n : Nat) : List (Nat × α) → Option α
 | [] => none
 | (k, a) :: r => if k == n then some a else assoc n r
theorem assoc_mem {α : Type} {n : Nat} {a : α} : ∀ {l : List (Nat × α)}, assoc n l = some a → (n, a) ∈ l
 | [], h => by simp [assoc] at h
 | (k, b) :: r, h => by
  unfold assoc at h
  split at h
  ·rename_i hk; simp at hk h; subst hk h; simp
  ·exact List.mem_cons_of_mem _ (assoc_mem h)
def assocK {α : Type} (n : Nat) : List (Nat × α) → Option α
 | [] => none
 | (k, a) :: r => match Nat.beq k n with | true => some a | false => assocK n r
theorem assocK_eq {α : Type} {n : Nat} : ∀ {l : List (Nat × α)}, assocK n l = assoc n l
 | [] => rfl
 | (k, a) :: r => by
  unfold assocK assoc
  by_cases h : k = n
  ·subst h
   simp
  ·have h1 : Nat.beq k n = false := by
    cases hb : Nat.beq k n with
    | true => exact absurd (Nat.eq_of_beq_eq_true hb) h
    | false => rfl
   rw [h1, if_neg (by simpa using h)]
   exact assocK_eq
theorem assocK_mem {α : Type} {n : Nat} {a : α} {l : List (Nat × α)} (h : assocK n l = some a) : (n, a) ∈ l := assoc_mem (by rw [← assocK_eq]; exact h)
def Tab.ty (T : Tab) (t : TypeId) : Option TI := assocK t T.tys
def Tab.f (T : Tab) (f : FuncId) : Option Func := match T.ft.find f with | some g => some g | none => assocK f T.fns

def isMapT (t : TypeId) : Bool := Nat.ble 1000000 t
/-! ### the table against the program -/
def tdChk : TD → TypeDesc → Bool
 | .int k, .int l => kindEq k l
 | .bool, .bool => true
 | .str, .string => true
 | .ptr e, .pointer f => e == f
 | .sl e, .slice f => e == f
 | .struct fs, .struct gs => fs == gs.toList.map fun g => (g.offset, g.type)
 | .arr n e, .array m f => n == m && e == f
 | .ifc, .interface _ => true
 | .fn, .func _ _ _ => true
 | .map k e, .map k' e' => k == k' && e == e'
 | .other, .int _ | .other, .bool | .other, .string | .other, .pointer _ | .other, .slice _ | .other, .struct _ | .other, .array _ _ | .other, .interface _ | .other, .func _ _ _ => false
 | .other, _ => true
 | _, _ => false
def scChk : Value → SC → Bool
 | .int k n, .int l (.lit m) => kindEq k l && n == m
 | .bool b, .bool (.lit c) => b == c
 | .string s, .str l => s.data.toList == l
 | .pointer none, .nilptr => true
 | .slice none 0 0, .nilsl => true
 | .nilFunc, .nilfn => true
 | .nilIface, .nilif => true
 | .map none, .nilmp => true
 | _, _ => false
theorem scChk_ok {ρ : Env} {ν : Nat → Addr} {v : Value} {c : SC} (h : scChk v c = true) : v = c.den ρ ν := by
 unfold scChk at h
 split at h <;> simp at h
 ·simp [SC.den, IE.den, kindEq_eq h.1, h.2]
 ·simp [SC.den, BE.den, h]
 ·simp only [SC.den, ← h]
 ·rfl
 ·rfl
 ·rfl
 ·rfl
 ·rfl
def scsChk : List Value → List SC → Bool
 | [], [] => true
 | v :: r, c :: s => scChk v c && scsChk r s
 | _, _ => false
theorem scsChk_ok {ρ : Env} {ν : Nat → Addr} : ∀ {vs : List Value} {cs : List SC}, scsChk vs cs = true → vs = cs.map (·.den ρ ν)
 | [], [], _ => rfl
 | [], _ :: _, h => by simp [scsChk] at h
 | _ :: _, [], h => by simp [scsChk] at h
 | v :: r, c :: s, h => by
  simp [scsChk] at h
  rw [List.map_cons, ← scChk_ok h.1, ← scsChk_ok h.2]
def isAggDesc : TypeDesc → Bool
 | .struct _ | .array _ _ => true
 | _ => false
def TD.isAgg : TD → Bool
 | .struct _ | .arr _ _ => true
 | _ => false
def isAggV : Value → Bool
 | .agg _ => true
 | _ => false
def tyChk (P : Program) (t : TypeId) (ti : TI) : Bool :=
 match P.underlying t, P.info? t with
 | some d, some i =>
  !isMapT t && tdChk ti.d d && (i.size == ti.size && i.bytes == ti.bytes) &&
  (match i.zero with
   | some z => scsChk z.cells.toList ti.zero && isAggV z == ti.d.isAgg && ti.zero.length == ti.size
   | none => false) &&
  (!ti.eqs || (!P.stoodInHeld t && !P.eqGuardType P.depth t && (match d with | .struct fs => fs.toList.all (fun f => f.name != "_") | .array _ _ => true | _ => false)))
 | _, _ => false
def tysChk (P : Program) : List (TypeId × TI) → Bool
 | [] => true
 | (t, i) :: r => tyChk P t i && tysChk P r
structure TyOK (P : Program) (t : TypeId) (ti : TI) : Prop where
 lt : isMapT t = false
 und : ∃ d, P.underlying t = some d ∧ tdChk ti.d d = true ∧ (ti.eqs = true → P.stoodInHeld t = false ∧ P.eqGuardType P.depth t = false ∧ ∀ fs, d = .struct fs → ∀ f ∈ fs.toList, f.name ≠ "_")
 info : ∃ i z, P.info? t = some i ∧ i.size = ti.size ∧ i.zero = some z ∧ scsChk z.cells.toList ti.zero = true ∧ isAggV z = ti.d.isAgg ∧ ti.zero.length = ti.size ∧ i.bytes = ti.bytes
theorem tyChk_ok {P : Program} {t : TypeId} {ti : TI} (h : tyChk P t ti = true) : TyOK P t ti := by
 unfold tyChk at h
 split at h
 ·rename_i d i hd hi
  simp only [Bool.and_eq_true] at h
  obtain ⟨⟨⟨⟨h0, h1⟩, h2⟩, h3⟩, h4⟩ := h
  split at h3
  ·rename_i z hz
   simp only [Bool.and_eq_true, beq_iff_eq] at h2 h3
   refine ⟨by simpa using h0, ⟨d, hd, h1, fun he => ?_⟩, i, z, hi, h2.1, hz, h3.1.1, h3.1.2, h3.2, h2.2⟩
   rw [he] at h4
   simp only [Bool.not_true, Bool.false_or, Bool.and_eq_true, Bool.not_eq_true'] at h4
   obtain ⟨⟨a, b⟩, c⟩ := h4
   split at c
   ·rename_i fs
    exact ⟨a, b, fun fs' he' f hf => (by cases he'; simpa using List.all_eq_true.1 c f hf)⟩
   ·exact ⟨a, b, fun fs' he' => (by cases he')⟩
   ·cases c
  ·cases h3
 ·cases h
structure TabOK (P : Program) (T : Tab) : Prop where
 tys : tysChk P T.tys = true
 fns : ∀ f fn, (f, fn) ∈ T.fns → P.funcs[f]? = some fn
 mixed : P.follows .mixedOrders = true
 ft : T.ft.flat = [] ∨ T.ft.flat = T.fns := by first | exact .inl rfl | exact .inr rfl
theorem TabOK.f_mem {P : Program} {T : Tab} (h : TabOK P T) {f : FuncId} {fn : Func} (hf : T.f f = some fn) : (f, fn) ∈ T.fns := by
 unfold Tab.f at hf
 split at hf
 ·rename_i g hg
  cases hf
  have := FT.find_mem hg
  rcases h.ft with e | e
  ·rw [e] at this; cases this
  ·rwa [e] at this
 ·exact assocK_mem hf
def Tab.sw (T : Tab) (f : FuncId) : Tab := { T with wr := T.wraps.contains f }
theorem TabOK.sw {P : Program} {T : Tab} (h : TabOK P T) (f : FuncId) : TabOK P (T.sw f) := ⟨h.tys, h.fns, h.mixed, h.ft⟩
theorem TabOK.ty {P : Program} {T : Tab} (h : TabOK P T) {t : TypeId} {ti : TI} (ht : T.ty t = some ti) : TyOK P t ti := by
 have hm := assocK_mem ht
 have := h.tys
 clear ht h
 generalize T.tys = l at *
 induction l with
 | nil => cases hm
 | cons x r ih =>
  obtain ⟨u, i⟩ := x
  simp [tysChk] at this
  rcases List.mem_cons.1 hm with e | e
  ·simp at e
   obtain ⟨rfl, rfl⟩ := e
   exact tyChk_ok this.1
  ·exact ih e this.2

section
variable {P : Program} {T : Tab} (hT : TabOK P T) {w : World} {t : TypeId} {ti : TI}
theorem TyOK.size (h : TyOK P t ti) : (sizeOf t).run P w = .ok ti.size w := by
 obtain ⟨i, z, hi, hs, _⟩ := h.info
 simp [sizeOf, typeInfo, hi, hs]
theorem TyOK.isAgg (h : TyOK P t ti) : (isAgg t).run P w = .ok ti.d.isAgg w := by
 obtain ⟨d, hd, hc, _⟩ := h.und
 unfold Go.isAgg
 simp only [Sem.run_bind, run_underlying hd, Result.andThen_ok]
 cases hd' : ti.d <;> cases d <;> simp_all [tdChk, TD.isAgg] <;> rfl
theorem TyOK.zeroV (ρ : Env) (ν : Nat → Addr) (h : TyOK P t ti) : ∃ z, (zeroValue t).run P w = .ok z w ∧ z.cells.toList = ti.zero.map (·.den ρ ν) ∧ isAggV z = ti.d.isAgg := by
 obtain ⟨i, z, hi, hs, hz, hc, ha, -⟩ := h.info
 refine ⟨z, ?_, scsChk_ok hc, ha⟩
 simp [zeroValue, typeInfo, hi, hz]
end

/-! ### frames and memory -/
abbrev Fr := List (Nat × SV)
def FrOK (ρ : Env) (ν : Nat → Addr) (fr : Fr) (a : Act) : Prop := ∀ t v, assoc t fr = some v → a.tmps.getD t undef = v.den ρ ν
def SB.dead (ρ : Env) (sb : SB) : Bool := sb.gone || sb.nl.den ρ
def SB.nlOb (sb : SB) : List BE := match sb.nl with | .lit false => [] | c => [c.notS]
theorem SB.live_of {ρ : Env} {sb : SB} (hg : sb.gone = false) (ho : ∀ o ∈ sb.nlOb, o.den ρ = true) : sb.dead ρ = false := by
 unfold SB.dead
 rw [hg, Bool.false_or]
 unfold SB.nlOb at ho
 split at ho
 ·rename_i h; rw [h]; rfl
 ·have := ho _ (List.mem_singleton.2 rfl)
  rw [BE.notS_den] at this
  simpa using this
theorem SB.live_gone {ρ : Env} {sb : SB} (h : sb.dead ρ = false) : sb.gone = false := by
 unfold SB.dead at h
 simp at h
 exact h.1
def SB.isMap (sb : SB) : Bool := isMapT sb.t
def mlook : List MapEntry → Int → Option Int
 | [], _ => none
 | ⟨.int .i64 n, .int .i64 v, _⟩ :: r, k => if n = k then some v else mlook r k
 | _ :: _, _ => none
structure MapWf (es : List MapEntry) : Prop where
 all : ∀ e ∈ es, ∃ n v b, e = ⟨.int .i64 n, .int .i64 v, b⟩ ∧ -9223372036854775808 ≤ n ∧ n ≤ 9223372036854775807
 nodup : (es.map (·.key)).Nodup
def virtAt (es : List MapEntry) (p : Nat) : Value :=
 match mlook es (((p / 2 : Nat) : Int) - 9223372036854775808) with
 | some v => if p % 2 = 0 then .bool true else .int .i64 v
 | none => if p % 2 = 0 then .bool false else .int .i64 0
def virt (es : List MapEntry) : Array Value := Array.ofFn fun p : Fin 36893488147419103232 => virtAt es p
theorem virt_get (es : List MapEntry) {p : Nat} (h : p < 36893488147419103232) : (virt es)[p]? = some (virtAt es p) := by
 unfold virt
 rw [Array.getElem?_ofFn, dif_pos h]
theorem virt_none (es : List MapEntry) {p : Nat} (h : ¬ p < 36893488147419103232) : (virt es)[p]? = none := by
 unfold virt
 rw [Array.getElem?_ofFn, dif_neg h]
def IsObj (o : Option Obj) (t : TypeId) (cs : Array Value) : Prop :=
 if isMapT t then ∃ es clock, o = some (.map es clock) ∧ MapWf es.toList ∧ cs = virt es.toList else o = some (.cells cs t (0, 0))
theorem IsObj.cells {o : Option Obj} {sb : SB} {cs : Array Value} (h : IsObj o sb.t cs) (hm : sb.isMap = false) : o = some (.cells cs sb.t (0, 0)) := by
 unfold IsObj at h
 unfold SB.isMap at hm
 rwa [if_neg (by simp [hm])] at h
theorem IsObj.of_cells {t : TypeId} {cs : Array Value} (hm : isMapT t = false) : IsObj (some (.cells cs t (0, 0))) t cs := by
 unfold IsObj
 rw [if_neg (by simp [hm])]
theorem IsObj.map {o : Option Obj} {sb : SB} {cs : Array Value} (h : IsObj o sb.t cs) (hm : sb.isMap = true) : ∃ es clock, o = Option.some (.map es clock) ∧ MapWf es.toList ∧ cs = virt es.toList := by
 unfold IsObj at h
 unfold SB.isMap at hm
 rwa [if_pos hm] at h
theorem IsObj.of_map {t : TypeId} {es : Array MapEntry} {clock : Nat} (hm : isMapT t = true) (h : MapWf es.toList) : IsObj (Option.some (.map es clock)) t (virt es.toList) := by
 unfold IsObj
 rw [if_pos hm]
 exact ⟨es, clock, rfl, h, rfl⟩
theorem IsObj.some {o : Option Obj} {t : TypeId} {cs : Array Value} (h : IsObj o t cs) : ∃ x, o = Option.some x := by
 unfold IsObj at h
 split at h
 ·obtain ⟨es, c, h, -⟩ := h
  exact ⟨_, h⟩
 ·exact ⟨_, h⟩
def Lies (sb : SB) (w : World) (b : Nat) : Prop := b < w.heap.size ∧ (sb.segs = [] → Nat.ble 500000 sb.t = true → ∃ c t, w.heap[b]? = some (.cells c t (0, 0)))
structure HpOK (ρ : Env) (ν : Nat → Addr) (hp : List SB) (w : World) : Prop where
 inj : ∀ (i j : Nat) (a b : SB), hp[i]? = some a → hp[j]? = some b → a.dead ρ = false → b.dead ρ = false → a.ro = false → (ν i).block = (ν j).block → i = j
 blk : ∀ (k : Nat) (sb : SB), hp[k]? = some sb → sb.dead ρ = false → sb.ro = false → ν k = ⟨(ν k).block, 0, none⟩ ∧ ∃ cs, IsObj w.heap[(ν k).block]? sb.t cs ∧ sb.has ρ ν cs
 rd : ∀ (k : Nat) (sb : SB), hp[k]? = some sb → sb.dead ρ = false → sb.ro = true → Lies sb w (ν k).block ∧ ∃ cs : Array Value, sb.has ρ ν cs ∧ ∀ p v, cs[p]? = some v → w.cell? ((ν k).add p) = some v
theorem HpOK.drew {ρ : Env} {ν : Nat → Addr} {hp : List SB} {w : World} (h : HpOK ρ ν hp w) (n : Nat) : HpOK ρ ν hp { w with drawn := n } := ⟨h.inj, h.blk, h.rd⟩
theorem HpOK.lt {ρ : Env} {ν : Nat → Addr} {hp : List SB} {w : World} (h : HpOK ρ ν hp w) {k : Nat} {sb : SB} (hk : hp[k]? = some sb) (hg : sb.dead ρ = false) : (ν k).block < w.heap.size := by
 cases hr : sb.ro with
 | true => exact (h.rd k sb hk hg hr).1.1
 | false =>
  obtain ⟨_, cs, h1, _⟩ := h.blk k sb hk hg hr
  obtain ⟨x, h1⟩ := h1.some
  exact (Array.getElem?_eq_some_iff.1 h1).1
theorem HpOK.cells {ρ : Env} {ν : Nat → Addr} {hp : List SB} {w : World} (h : HpOK ρ ν hp w) {k : Nat} {sb : SB} (hk : hp[k]? = some sb) (hg : sb.dead ρ = false) (hm : sb.ro = false → sb.isMap = false) :
  ∃ cs : Array Value, sb.has ρ ν cs ∧ ∀ p v, cs[p]? = some v → w.cell? ((ν k).add p) = some v := by
 cases hr : sb.ro with
 | true => obtain ⟨-, cs, h1, h2⟩ := h.rd k sb hk hg hr; exact ⟨cs, h1, h2⟩
 | false =>
  obtain ⟨he, cs, h1, h2⟩ := h.blk k sb hk hg hr
  replace h1 := h1.cells (hm hr)
  refine ⟨cs, h2, fun p v hp => ?_⟩
  have e2 : (ν k).add p = ⟨(ν k).block, p, none⟩ := by
   have h0 : (ν k).off = 0 := congrArg Addr.off he
   unfold Addr.add
   split
   ·rename_i hp0
    subst hp0
    exact he
   ·simp
  rw [e2, cell_of_row w (ν k).block p cs sb.t (0, 0) h1]
  exact hp
theorem HpOK.lies {ρ : Env} {ν : Nat → Addr} {hp : List SB} {w : World} (h : HpOK ρ ν hp w) {k : Nat} {sb : SB} (hk : hp[k]? = some sb) (hg : sb.dead ρ = false) (hm : sb.ro = false → sb.isMap = false) : Lies sb w (ν k).block := by
 cases hr : sb.ro with
 | true => exact (h.rd k sb hk hg hr).1
 | false =>
  refine ⟨h.lt hk hg, fun _ _ => ?_⟩
  obtain ⟨_, cs, h1, _⟩ := h.blk k sb hk hg hr
  exact ⟨cs, sb.t, h1.cells (hm hr)⟩
theorem Lies.of {a b : SB} {w w' : World} {k : Nat} (h : Lies b w k) (hs : a.segs = [] → b.segs = []) (ht : a.t = b.t) (hz : w.heap.size ≤ w'.heap.size) (hk : w'.heap[k]? = w.heap[k]?) : Lies a w' k :=
 ⟨Nat.lt_of_lt_of_le h.1 hz, fun h1 h2 => by rw [hk]; exact h.2 (hs h1) (ht ▸ h2)⟩
def ofValue : Value → Option SW
 | .int k n => some (.one (.int k (.lit n)))
 | .bool b => some (.one (.bool (.lit b)))
 | .string s => some (.one (.str s.data.toList))
 | .pointer none => some (.one .nilptr)
 | .slice none 0 0 => some (.one .nilsl)
 | .nilFunc => some (.one .nilfn)
 | .nilIface => some (.one .nilif)
 | .map none => some (.one .nilmp)
 | _ => none
theorem ofValue_ok {ρ : Env} {ν : Nat → Addr} {v : Value} {x : SW} (h : ofValue v = some x) : v = x.den ρ ν := by
 unfold ofValue at h
 split at h <;> simp at h <;> subst h <;> simp [SW.den, SC.den, IE.den, BE.den]
structure GlOK (ν : Nat → Addr) (gl : List (Nat × Nat)) : Prop where
 at_ : ∀ g k, Nat.blt g 1000000 = true → assoc g gl = some k → ν k = ⟨g, 0, none⟩
 ne : ∀ g g' k k', Nat.blt g 1000000 = false → Nat.blt g' 1000000 = false → assoc g gl = some k → assoc g' gl = some k' → g ≠ g' → ν k ≠ ν k'
def knLit (e : IE) : Kn → Option Int
 | [] => none
 | (.ieq a (.lit n), true) :: r => if a.same e then some n else knLit e r
 | _ :: r => knLit e r
theorem knLit_ok {ρ : Env} {e : IE} {n : Int} : ∀ {kn : Kn}, Kn.ok ρ kn → knLit e kn = some n → e.den ρ = n
 | [], _, h => by simp [knLit] at h
 | (b, t) :: r, hk, h => by
  unfold knLit at h
  split at h
  ·cases ‹_›
  ·rename_i a m r' heq
   cases heq
   split at h
   ·rename_i hs
    cases h
    have h1 : (BE.ieq a (.lit n)).den ρ = true := hk _ (List.mem_cons_self ..)
    rw [← IE.same_eq hs]
    simpa [BE.den, IE.den] using h1
   ·exact knLit_ok (fun p hp => hk p (List.mem_cons_of_mem _ hp)) h
  ·rename_i heq
   cases heq
   exact knLit_ok (fun p hp => hk p (List.mem_cons_of_mem _ hp)) h
def SV.dec (kn : Kn) : SV → SV
 | .w (.one (.int k (.mod a b))) => match knLit (.mod a b) kn with
  | some n => .w (.one (.int k (.lit n)))
  | none => .w (.one (.int k (.mod a b)))
 | .w (.one (.ifn c x)) => match c.decide kn with
  | some true => .w (.one .nilif)
  | some false => .w (.one x)
  | none => .w (.one (.ifn c x))
 | v => v
theorem SV.dec_ok {ρ : Env} {ν : Nat → Addr} {kn : Kn} (hk : Kn.ok ρ kn) (v : SV) : (v.dec kn).den ρ ν = v.den ρ ν := by
 unfold SV.dec
 split
 ·rename_i k a b
  split
  ·rename_i n hn
   simp only [SV.den, SW.den, SC.den]
   rw [knLit_ok hk hn]
   rfl
  ·rfl
 ·rename_i c x
  split
  ·rename_i hd
   simp [SV.den, SW.den, SC.den, BE.decide_ok hk hd]
  ·rename_i hd
   simp [SV.den, SW.den, SC.den, BE.decide_ok hk hd]
  ·rfl
 ·rfl
def opd (gl : List (Nat × Nat)) (kn : Kn) (fr : Fr) : Operand → Option SV
 | .tmp t => match assocK t fr with
  | some (.gd c x) => match c.decide kn with
   | some true => some (.w x)
   | some false => none
   | none => some (.gd c x)
  | some v => some (v.dec kn)
  | none => none
 | .const v => (ofValue v).map .w
 | .global g => if Nat.blt g 1000000 then (assoc g gl).map fun k => .w (.one (.ptr { blk := k })) else none
 | .func f => some (.w (.one (.fn f [])))
theorem opd_ok {ρ : Env} {ν : Nat → Addr} {gl : List (Nat × Nat)} {kn : Kn} {fr : Fr} {a : Act} (hg : GlOK ν gl) (hk : Kn.ok ρ kn) (hf : FrOK ρ ν fr a)
  {x : Operand} {v : SV} (h : opd gl kn fr x = some v) : a.eval x = v.den ρ ν := by
 cases x with
 | tmp t =>
  simp only [opd, assocK_eq] at h
  simp only [Act.eval]
  split at h
  ·rename_i c y hc
   have h0 := hf t _ hc
   split at h
   ·rename_i hd
    have := BE.decide_ok hk hd
    simp at h
    subst h
    rw [h0]
    simp [SV.den, this]
   ·cases h
   ·simp at h
    subst h
    exact h0
  ·rename_i u _ hu
   simp at h
   subst h
   rw [SV.dec_ok hk]
   exact hf t u hu
  ·cases h
 | const u =>
  simp only [opd, Option.map_eq_some_iff] at h
  obtain ⟨y, hy, rfl⟩ := h
  exact ofValue_ok hy
 | global g =>
  simp only [opd] at h
  split at h
  ·rename_i hlt
   simp only [Option.map_eq_some_iff] at h
   obtain ⟨k, hk', rfl⟩ := h
   simp [Act.eval, SV.den, SW.den, SC.den, SA.den, SA.off, IE.den, Addr.add_zero, hg.at_ g k hlt hk']
  ·cases h
 | func f =>
  simp [opd] at h
  subst h
  simp [Act.eval, SV.den, SW.den, SC.den]

end Go.Rex
