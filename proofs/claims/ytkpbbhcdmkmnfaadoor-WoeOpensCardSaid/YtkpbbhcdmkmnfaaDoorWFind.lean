/- woe.find, woe.Place over chains -/
import Derived.Test.YtkpbbhcdmkmnfaaDoorWMiss
import Derived.Defers
import Derived.Recover
set_option linter.unusedSimpArgs false
set_option linter.unusedVariables false
set_option linter.unusedSimpArgs false
set_option linter.unusedVariables false
namespace Go.Proofs.YtkpbbhcdmkmnfaaDoor
open Go.RowKit Go.Extern.Stop Go.Stop Go.Extern Go.Rex
/-- errors' own handle of the type error -/
def Hnd (w : World) : Prop := w.cell? ⟨11, 0, none⟩ = some (.iface 74 (.agg #[.pointer (some ⟨12, 25, none⟩)]))
theorem Hnd.nw {w w' : World} (h : Hnd w) (hn : Nw w w') : Hnd w' := hn.cell h
set_option maxHeartbeats 4000000 in
theorem find_miss (e : Addr) (w : World) (hg : Hnd w) : Calls Tryd.prog 24 #[.iface 56 (.pointer (some e))] w fun ev w' => ev = .returned (.pointer none) ∧ Nw w w' := by
  have hmf : ∀ (fn : Fn) (first cap : Array Value) (w : World), (Instr.makeFunc fn first cap).run Tryd.prog w = .ok (.func fn first cap) w := fun _ _ _ _ => rfl
  have hn : Nw w (w.alloc (.cells #[.pointer none] 41)) := (Wrt.refl w _).alloc _
  have htA : (w.alloc (.cells #[.pointer none] 41)).cell? ⟨w.heap.size, 0, none⟩ = some (.pointer none) := by simp
  have hfA : (w.alloc (.cells #[.pointer none] 41)).frozen? ⟨w.heap.size, 0, none⟩ = false := by simp
  have has := as_miss e ⟨w.heap.size, 0, none⟩ (.pointer none) _ (hg.nw hn) htA
  clear hg
  go_enter_defers Tryd.func24, Tryd.ntmps24
  go_wp2_with (go_at_call 20; refine has.mono ?_; rintro ev w' ⟨rfl, hw⟩; have hc := hw.cell htA; have hz : w'.frozen? ⟨w.heap.size, 0, none⟩ = false := (by rw [← hfA]; unfold World.frozen?; rw [hw.block _ (by simp) id]))
  refine leaves_cons (f := 32) (args := #[.pointer (some ⟨w.heap.size, 0, none⟩)]) (by simp) (by simp [go_sem]) ?_
  refine (find_idle ⟨w.heap.size, 0, none⟩ _).mono ?_
  rintro e' u' w'' ⟨rfl, rfl, rfl⟩
  simp [Leaves, settle, results, Tryd.results24, go_sem, hc]
  exact (hn.trans hw).set (Nat.le_refl _)
set_option maxHeartbeats 4000000 in
theorem find_nil (w : World) : Calls Tryd.prog 24 #[.nilIface] w fun ev w' => ev = .returned (.pointer none) ∧ Nw w w' := by
  have hmf : ∀ (fn : Fn) (first cap : Array Value) (w : World), (Instr.makeFunc fn first cap).run Tryd.prog w = .ok (.func fn first cap) w := fun _ _ _ _ => rfl
  have hn : Nw w (w.alloc (.cells #[.pointer none] 41)) := (Wrt.refl w _).alloc _
  have htA : (w.alloc (.cells #[.pointer none] 41)).cell? ⟨w.heap.size, 0, none⟩ = some (.pointer none) := by simp
  have hfA : (w.alloc (.cells #[.pointer none] 41)).frozen? ⟨w.heap.size, 0, none⟩ = false := by simp
  have has := as_nil (.iface 43 (.pointer (some ⟨w.heap.size, 0, none⟩))) (w.alloc (.cells #[.pointer none] 41))
  go_enter_defers Tryd.func24, Tryd.ntmps24
  go_wp2_with (go_at_call 20; refine has.mono ?_; rintro ev w' ⟨rfl, rfl⟩)
  refine leaves_cons (f := 32) (args := #[.pointer (some ⟨w.heap.size, 0, none⟩)]) (by simp) (by simp [go_sem]) ?_
  refine (find_idle ⟨w.heap.size, 0, none⟩ _).mono ?_
  rintro e' u' w'' ⟨rfl, rfl, rfl⟩
  simp [Leaves, settle, results, Tryd.results24, go_sem, htA]
  exact (Wrt.refl w _).alloc _
/-- the pointer to the outermost one -/
def chPtr (v : Value) : Value := match v with | .iface 41 p => p | _ => .pointer none
end Go.Proofs.YtkpbbhcdmkmnfaaDoor
