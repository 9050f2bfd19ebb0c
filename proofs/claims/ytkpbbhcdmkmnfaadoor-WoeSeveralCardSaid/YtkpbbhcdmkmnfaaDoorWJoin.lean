/- errors.Join of two -/
import Derived.Test.YtkpbbhcdmkmnfaaDoorWSev
set_option linter.unusedSimpArgs false
set_option linter.unusedVariables false
namespace Go.Proofs.YtkpbbhcdmkmnfaaDoor
open Go.RowKit Go.Extern.Stop Go.Stop Go.Extern Go.Rex
set_option maxHeartbeats 1000000 in
theorem join_walk (T1 T2 : TypeId) (x1 x2 : Value) (g0 : Nat) (w : World) (h1 : w.cell? ⟨g0, 0, none⟩ = some (.iface T1 x1)) (h2 : w.cell? ⟨g0, 1, none⟩ = some (.iface T2 x2)) :
    Calls Tryd.prog 23 #[.slice (some ⟨g0, 0, none⟩) 2 2] w fun e w' => ∃ b, e = .returned (.iface 70 (.pointer (some ⟨b, 0, none⟩))) ∧ Aside (IsJ w' (.iface T1 x1) (.iface T2 x2) (.iface 70 (.pointer (some ⟨b, 0, none⟩))) ∧ Nw w w') := by
  have hmk : ∀ w : World, (Instr.makeSlice 69 (.int .i64 0) (.int .i64 2)).run Tryd.prog w = .ok (.slice (some ⟨w.heap.size, 0, none⟩) 0 2) (w.alloc (.cells #[.nilIface, .nilIface] 25)) := fun _ => by kernel_rfl
  go_enter Tryd.func23, Tryd.ntmps23
  go_wp2
  refine wp_loop_rounds 3 ?_
  rw [rounds_succ]
  go_wp2
  rw [rounds_succ]
  go_wp2
  rw [rounds_succ]
  go_wp2
  have hlt : g0 < w.heap.size := cell_lt h1
  have h1a : ((w.alloc (.cells #[.nilIface, .nilIface] 25)).alloc (.cells #[.slice (some ⟨w.heap.size, 0, none⟩) 0 2] 72)).cell? ⟨g0, 0, none⟩ = some (.iface T1 x1) := by
    rw [World.cell?_alloc_lt _ _ ⟨g0, 0, none⟩ (by simp; omega), World.cell?_alloc_lt _ _ ⟨g0, 0, none⟩ hlt, h1]
  refine wp_loop_rounds 3 ?_
  rw [rounds_succ]
  go_wp2
  have h2a : (((w.alloc (.cells #[.iface T1 x1, .nilIface] 25)).alloc (.cells #[.slice (some ⟨w.heap.size, 0, none⟩) 1 2] 72)).alloc (.cells #[.iface T1 x1] 25)).cell? ⟨g0, 1, none⟩ = some (.iface T2 x2) := by
    rw [World.cell?_alloc_lt _ _ ⟨g0, 1, none⟩ (by simp; omega), World.cell?_alloc_lt _ _ ⟨g0, 1, none⟩ (by simp; omega), World.cell?_alloc_lt _ _ ⟨g0, 1, none⟩ hlt, h2]
  rw [rounds_succ]
  go_wp2
  rw [rounds_succ]
  go_wp2
  go_ret
  refine ⟨w.heap.size + 1, rfl, ⟨w.heap.size + 1, w.heap.size, 2, rfl, ?_, ?_, ?_⟩, ?_⟩
  · rw [World.cell?_alloc_lt _ _ ⟨w.heap.size + 1, 0, none⟩ (by simp <;> omega), World.cell?_alloc_lt _ _ ⟨w.heap.size + 1, 0, none⟩ (by simp <;> omega)]
    simp
  · rw [World.cell?_alloc_lt _ _ ⟨w.heap.size, 0, none⟩ (by simp <;> omega), World.cell?_alloc_lt _ _ ⟨w.heap.size, 0, none⟩ (by simp <;> omega), World.cell?_alloc_lt _ _ ⟨w.heap.size, 0, none⟩ (by simp <;> omega)]
    simp
  · rw [World.cell?_alloc_lt _ _ ⟨w.heap.size, 1, none⟩ (by simp <;> omega), World.cell?_alloc_lt _ _ ⟨w.heap.size, 1, none⟩ (by simp <;> omega), World.cell?_alloc_lt _ _ ⟨w.heap.size, 1, none⟩ (by simp <;> omega)]
    simp
  · exact (((Wrt.refl w _).alloc _).alloc _ |>.alloc _).alloc _
end Go.Proofs.YtkpbbhcdmkmnfaaDoor
