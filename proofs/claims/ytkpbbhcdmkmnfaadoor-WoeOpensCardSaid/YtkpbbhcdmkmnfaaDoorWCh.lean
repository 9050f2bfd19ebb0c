/- chains of *woe.Woe: what errors.Is answers of one -/
import Derived.Test.YtkpbbhcdmkmnfaaDoorIs
import Derived.Tactics
import Derived.Tactics2
import Derived.Deep.LoopGhost
set_option linter.unusedSimpArgs false
set_option linter.unusedVariables false
set_option linter.unusedSimpArgs false
set_option linter.unusedVariables false
namespace Go.Proofs.YtkpbbhcdmkmnfaaDoor
open Go.RowKit Go.Extern.Stop Go.Stop Go.Extern
/-- an error that is wrapped at places, the outermost first -/
def IsCh (w : World) (base : Value) : List Int → Value → Prop
  | [], v => v = base
  | n :: ps, v => ∃ (b : Nat) (u : Value), v = .iface 41 (.pointer (some ⟨b, 0, none⟩)) ∧ w.cell? ⟨b, 0, none⟩ = some (.int .i64 n) ∧ w.cell? ⟨b, 1, none⟩ = some u ∧ IsCh w base ps u
/-- a sentinel: a block of its own -/
def IsSen (w : World) (b : Addr) : Prop := ∃ c t, w.heap[b.block]? = some (.cells c t (0, 0))
theorem noIsS (v : Value) (xT : TypeId) (w : World) : (Instr.typeAssert (.iface 56 v) xT 76 true).run Tryd.prog w = .ok (.tuple #[.nilIface, .bool false]) w := run_typeAssert_lacksB Tryd.underlying76 (by kernel_rfl) (by kernel_rfl) v xT w
theorem noUnS (v : Value) (xT : TypeId) (w : World) : (Instr.typeAssert (.iface 56 v) xT 79 true).run Tryd.prog w = .ok (.tuple #[.nilIface, .bool false]) w := run_typeAssert_lacksB Tryd.underlying79 (by kernel_rfl) (by kernel_rfl) v xT w
theorem noUnsS (v : Value) (xT : TypeId) (w : World) : (Instr.typeAssert (.iface 56 v) xT 80 true).run Tryd.prog w = .ok (.tuple #[.nilIface, .bool false]) w := run_typeAssert_lacksB Tryd.underlying80 (by kernel_rfl) (by kernel_rfl) v xT w
theorem IsCh.if {w : World} {T : TypeId} {x : Value} {ps : List Int} {v : Value} (h : IsCh w (.iface T x) ps v) : ∃ T y, v = .iface T y := by
  cases ps with
  | nil => exact ⟨_, _, h⟩
  | cons n ps =>
    obtain ⟨b, u, h, -⟩ := h
    exact ⟨_, _, h⟩
/-- errors.Is of a chain over a sentinel -/
theorem is_ch (ps : List Int) (v : Value) (x t : Addr) (w : World) (hv : IsCh w (.iface 56 (.pointer (some x))) ps v) (hx : IsSen w x) (ht : IsSen w t) :
    Calls Tryd.prog 16 #[v, .iface 56 (.pointer (some t))] w fun e w' => e = .returned (.bool (decide (x = t))) ∧ w' = w := by
  obtain ⟨i, hi, hcmp⟩ := Option.map_eq_some_iff.1 isComp
  obtain ⟨j, hj, hjs⟩ := Option.map_eq_some_iff.1 isSize
  have h8 := @run_callFunc_extern Tryd.prog 26 _ Extern.ReflectliteType.typeOf Tryd.func26 (by kernel_rfl) (by kernel_rfl) (by kernel_rfl) (by kernel_rfl)
  have h32 := @run_callFunc_extern Tryd.prog 61 _ cmpM Tryd.func61 (by kernel_rfl) (by kernel_rfl) (by kernel_rfl) (by kernel_rfl)
  have tT := isTypeOf
  have cT := isComparable
  have mR := isMethodComparable
  have nW := noIsW
  have uW := hasUnwrapW
  have mU := methodUnwrap
  have nS := noIsS
  have uS := noUnS
  have usS := noUnsS
  have hsame := run_eql_iface_ptr_same (P := Tryd.prog) w t Tryd.underlying25 Tryd.underlying56 hi hcmp hj
  have hty : ∀ a : Addr, (binOp .eql 25 (.iface 41 (.pointer (some a))) (.iface 56 (.pointer (some t)))).run Tryd.prog w = .ok (.bool false) w := fun a => run_eql_iface_types (P := Tryd.prog) 41 56 (.pointer (some a)) (.pointer (some t)) Tryd.underlying25 (by decide) w
  have hoth : x ≠ t → (binOp .eql 25 (.iface 56 (.pointer (some x))) (.iface 56 (.pointer (some t)))).run Tryd.prog w = .ok (.bool false) w := fun hne => by
    obtain ⟨cx, tx, h1⟩ := hx
    obtain ⟨ct, tt, h2⟩ := ht
    exact run_eql_iface_ptr_other (P := Tryd.prog) w Tryd.underlying25 Tryd.underlying56 hi hcmp hj (by rw [hjs]; decide) hne h1 h2
  obtain ⟨T, y, rfl⟩ := hv.if
  clear hx ht
  go_enter Tryd.func16, Tryd.ntmps16
  go_wp2
  go_loopg [0] ps.length (fun k v wr => w = wr ∧ ∃ qs, qs.length = k ∧ IsCh w (.iface 56 (.pointer (some x))) qs v)
  case atStart => exact ⟨rfl, ps, rfl, hv⟩
  case round =>
    obtain ⟨rfl, qs, hk, hq⟩ := hrel
    clear hv
    cases qs with
    | nil =>
      have hq : _ = _ := hq
      subst hq
      by_cases hxt : x = t
      · subst hxt
        go_wp2
        go_ret
        simp
      · have ho := hoth hxt
        go_wp2
        go_ret
        simp [hxt]
    | cons n qs =>
      obtain ⟨b, u, rfl, h1, h2, h3⟩ := hq
      obtain ⟨T, y, rfl⟩ := h3.if
      clear hoth hsame
      have A : Aside ((n :: qs).length = gk ∧ IsCh w (.iface 56 (.pointer (some x))) qs (.iface T y)) := ⟨hk, h3⟩
      clear hk h3
      go_wp2
      obtain ⟨hk, h3⟩ := A.out
      go_roundg qs.length
      case measure => simp at hk; omega
      case rel => exact ⟨rfl, qs, rfl, h3⟩
end Go.Proofs.YtkpbbhcdmkmnfaaDoor
