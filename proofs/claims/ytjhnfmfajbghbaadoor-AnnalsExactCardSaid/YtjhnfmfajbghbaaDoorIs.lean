/- errors.Is over a sentinel, and over one that is wrapped once by woe.At -/
import Derived.Test.YtjhnfmfajbghbaaDoorChecked
import Derived.WalkKit
import Derived.LaidEql
import Derived.Stop.Asserts
import Derived.RowKitTokens
namespace Go.Proofs.YtjhnfmfajbghbaaDoor
open Go.RowKit Go.Extern.Stop Go.Stop Go.Extern
theorem isTypeOf (v : Value) (w : World) : (Extern.ReflectliteType.typeOf #[.iface 85 v]).run Tryd.prog w = .ok (.iface 75 (.agg #[.pointer (some ⟨11, 85, none⟩)])) w := by kernel_rfl
def cmpM : Array Value → Sem Value := Extern.ReflectliteType.method fun t => do Extern.Rtype.noPackHeld "Comparable" t; pure (.bool (← typeInfo t).comparable)
theorem isComparable (w : World) : (cmpM #[.agg #[.pointer (some ⟨11, 85, none⟩)]]).run Tryd.prog w = .ok (.bool true) w := by kernel_rfl
theorem isMethodComparable (v : Value) (w : World) : (Go.method 223 75 v "Comparable").run Tryd.prog w = .ok (53, v) w := by kernel_rfl
theorem isComp : (Tryd.prog.info? 85).map (·.comparable) = some true := by kernel_rfl
theorem isSize : (Tryd.prog.info? 111).map (·.size) = some 1 := by kernel_rfl
theorem noIsW (v : Value) (xT : TypeId) (w : World) : (Instr.typeAssert (.iface 71 v) xT 77 true).run Tryd.prog w = .ok (.tuple #[.nilIface, .bool false]) w := run_typeAssert_lacksB Tryd.underlying77 (by kernel_rfl) (by kernel_rfl) v xT w
theorem hasUnwrapW (v : Value) (xT : TypeId) (w : World) : (Instr.typeAssert (.iface 71 v) xT 80 true).run Tryd.prog w = .ok (.tuple #[.iface 71 v, .bool true]) w := run_typeAssert_hasB Tryd.underlying80 (by kernel_rfl) v xT w
theorem methodUnwrap (v : Value) (w : World) : (Go.method 223 71 v "Unwrap").run Tryd.prog w = .ok (49, v) w := by kernel_rfl
/-- errors.Is(e, x), e a *woe.Woe that wraps x itself: one Unwrap, then equal. -/
theorem is_wrap_same (a : Addr) (b : Addr) (w : World) (h1 : w.cell? ⟨a.block, a.off + 1, none⟩ = some (.iface 85 (.pointer (some b)))) :
    Calls Tryd.prog 21 #[.iface 71 (.pointer (some a)), .iface 85 (.pointer (some b))] w fun e w' => e = .returned (.bool true) ∧ w' = w := by
  obtain ⟨i, hi, hcmp⟩ := Option.map_eq_some_iff.1 isComp
  obtain ⟨j, hj, hjs⟩ := Option.map_eq_some_iff.1 isSize
  have h8 := @run_callFunc_extern Tryd.prog 30 _ Extern.ReflectliteType.typeOf Tryd.func30 (by kernel_rfl) (by kernel_rfl) (by kernel_rfl) (by kernel_rfl)
  have h32 := @run_callFunc_extern Tryd.prog 53 _ cmpM Tryd.func53 (by kernel_rfl) (by kernel_rfl) (by kernel_rfl) (by kernel_rfl)
  have tT := isTypeOf
  have cT := isComparable
  have mR := isMethodComparable
  have nW := noIsW
  have uW := hasUnwrapW
  have mU := methodUnwrap
  have heq := run_eql_iface_ptr_same (P := Tryd.prog) w b Tryd.underlying26 Tryd.underlying85 hi hcmp hj
  have hty := run_eql_iface_types (P := Tryd.prog) 71 85 (.pointer (some a)) (.pointer (some b)) Tryd.underlying26 (by decide) w
  go_enter Tryd.func21, Tryd.ntmps21
  go_wp2
  refine wp_loop_rounds 2 ?_
  rw [rounds_succ]
  go_wp2
  rw [rounds_succ]
  go_wp2
  go_ret
  exact ⟨rfl, rfl⟩
end Go.Proofs.YtjhnfmfajbghbaaDoor
