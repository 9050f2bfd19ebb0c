/- errors.As of a sentinel: none; woe.find, woe.Place over chains -/
import Derived.Test.YtkpbbhcdmkmnfaaDoorWCode
set_option linter.unusedSimpArgs false
set_option linter.unusedVariables false
namespace Go.Proofs.YtkpbbhcdmkmnfaaDoor
open Go.RowKit Go.Extern.Stop Go.Stop Go.Extern Go.Rex
theorem rfx_typeOf56 (v : Value) (w : World) : (ReflectliteType.typeOf #[.iface 56 v]).run Tryd.prog w = .ok (.iface 74 (.agg #[.pointer (some ⟨12, 56, none⟩)])) w := by kernel_rfl
theorem rfx_assignable56 (w : World) : (ReflectliteType.relation "AssignableTo" ReflectliteType.assignableTo #[.agg #[.pointer (some ⟨12, 56, none⟩)], .iface 74 (.agg #[.pointer (some ⟨12, 41, none⟩)])]).run Tryd.prog w = .ok (.bool false) w := by kernel_rfl
theorem noAsS (v : Value) (xT : TypeId) (w : World) : (Instr.typeAssert (.iface 56 v) xT 84 true).run Tryd.prog w = .ok (.tuple #[.nilIface, .bool false]) w := run_typeAssert_lacksB Tryd.underlying84 (by kernel_rfl) (by kernel_rfl) v xT w
set_option maxHeartbeats 4000000 in
theorem as_miss (e t : Addr) (old : Value) (w : World) (hg : w.cell? ⟨11, 0, none⟩ = some (.iface 74 (.agg #[.pointer (some ⟨12, 25, none⟩)]))) (ht0 : w.cell? t = some old) :
    Calls Tryd.prog 20 #[.iface 56 (.pointer (some e)), .iface 43 (.pointer (some t))] w fun ev w' => ev = .returned (.bool false) ∧ Nw w w' := by
  have h6 := @run_callFunc_extern Tryd.prog 28 _ (fun args => ReflectliteValue.unpack (args.getD 0 (.tuple #[]))) Tryd.func28 (by kernel_rfl) (by kernel_rfl) (by kernel_rfl) (by kernel_rfl)
  have h7 := @run_callFunc_extern Tryd.prog 29 _ (ReflectliteValue.methodAny (ReflectliteValue.valueError "reflectlite.Value.Type" 0) (fun t _ _ _ => ReflectliteType.toType t)) Tryd.func29 (by kernel_rfl) (by kernel_rfl) (by kernel_rfl) (by kernel_rfl)
  have h8 := @run_callFunc_extern Tryd.prog 30 _ (ReflectliteValue.method (ReflectliteValue.valueError "reflectlite.Value.IsNil" 0) ReflectliteValue.isNil) Tryd.func30 (by kernel_rfl) (by kernel_rfl) (by kernel_rfl) (by kernel_rfl)
  have h27 := @run_callFunc_extern Tryd.prog 50 _ (ReflectliteType.abiMethod fun t => do pure (.int .u8 (← Rtype.kind t))) Tryd.func50 (by kernel_rfl) (by kernel_rfl) (by kernel_rfl) (by kernel_rfl)
  have h37 := @run_callFunc_extern Tryd.prog 62 _ (ReflectliteType.method ReflectliteType.elem) Tryd.func62 (by kernel_rfl) (by kernel_rfl) (by kernel_rfl) (by kernel_rfl)
  have h38 := @run_callFunc_extern Tryd.prog 63 _ (ReflectliteType.relation "Implements" ReflectliteType.implements_) Tryd.func63 (by kernel_rfl) (by kernel_rfl) (by kernel_rfl) (by kernel_rfl)
  have h10 := @run_callFunc_extern Tryd.prog 26 _ ReflectliteType.typeOf Tryd.func26 (by kernel_rfl) (by kernel_rfl) (by kernel_rfl) (by kernel_rfl)
  have h35 := @run_callFunc_extern Tryd.prog 60 _ (ReflectliteType.relation "AssignableTo" ReflectliteType.assignableTo) Tryd.func60 (by kernel_rfl) (by kernel_rfl) (by kernel_rfl) (by kernel_rfl)
  have h11 := @run_callFunc_extern Tryd.prog 34 _ (ReflectliteValue.method (ReflectliteValue.valueError "reflectlite.Value.Elem" 0) ReflectliteValue.elem) Tryd.func34 (by kernel_rfl) (by kernel_rfl) (by kernel_rfl) (by kernel_rfl)
  have h12 := @run_callFunc_extern Tryd.prog 35 _ ReflectliteValue.set Tryd.func35 (by kernel_rfl) (by kernel_rfl) (by kernel_rfl) (by kernel_rfl)
  have tO := rfx_typeOf56
  have mA := rfx_methodAssignableTo
  have a25 := rfx_assignable56
  have f6 := rfx_valueOf27
  have f7 := rfx_type27
  have mK := rfx_methodKind
  have mE := rfx_methodElem
  have mI := rfx_methodImplements
  have k27 := rfx_kind27
  have k25 := rfx_kind25
  have e27 := rfx_elem27
  have i25 := rfx_implements25
  have n8 := rfx_isNil27 ⟨w.heap.size, 0, none⟩ t ((w.alloc (.cells #[.pointer (some t)] 43)).alloc (.cells #[.pointer (some ⟨12, 43, none⟩), .pointer (some ⟨w.heap.size, 0, none⟩), .int .u64 150] 62)) (by simp)
  have hlt : 11 < w.heap.size := by
    rcases Nat.lt_or_ge 11 w.heap.size with h | h
    · exact h
    · simp [World.cell?, Array.getElem?_eq_none h] at hg
  have hg2 : ((w.alloc (.cells #[.pointer (some t)] 43)).alloc (.cells #[.pointer (some ⟨12, 43, none⟩), .pointer (some ⟨w.heap.size, 0, none⟩), .int .u64 150] 62)).cell? ⟨11, 0, none⟩ = some (.iface 74 (.agg #[.pointer (some ⟨12, 25, none⟩)])) := by
    rw [World.cell?_alloc_lt _ _ ⟨11, 0, none⟩ (by simp; omega), World.cell?_alloc_lt _ _ ⟨11, 0, none⟩ hlt]; exact hg
  have htl : t.block < w.heap.size := by
    rcases Nat.lt_or_ge t.block w.heap.size with h | h
    · exact h
    · simp [World.cell?, Array.getElem?_eq_none h] at ht0
  have nA := noAsS
  have uS := noUnS
  have usS := noUnsS
  go_enter Tryd.func20, Tryd.ntmps20
  go_wp2
  refine wp_loop_rounds 1 ?_
  rw [rounds_succ]
  go_wp2
  go_ret
  exact ⟨rfl, (((Wrt.refl w _).alloc _).alloc _).alloc _⟩
end Go.Proofs.YtkpbbhcdmkmnfaaDoor
