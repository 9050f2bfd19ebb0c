/- woe.find and woe.Place at a *woe.Woe -/
import Derived.Test.YtkpbbhcdmkmnfaaDoorAs
import Derived.Test.YtkpbbhcdmkmnfaaDoorFit
import Derived.Tactics
import Derived.Tactics2
import Derived.Defers
import Derived.Recover
import Derived.Laws.Pointers
set_option linter.unusedSimpArgs false
set_option linter.unusedVariables false
namespace Go.Proofs.YtkpbbhcdmkmnfaaDoor
open Go.RowKit Go.Extern.Stop Go.Stop Go.Extern Go.Rex
theorem find_idle (p : Addr) (w : World) : CallsD Tryd.prog 32 #[.pointer (some p)] .returning w fun e u' w' => e = .returned (.tuple #[]) ∧ u' = .returning ∧ w' = w := by
  refine callsD_of_wpS Tryd.func32 rfl fun c₀ cs hu => ?_
  apply wpS_seq
  apply wpS_region
  simp [wpOpsS, go_sem, recoverD, hu, Tryd.ntmps32, Exit.thenS]
  refine wpS_cond (t := false) (by simp [Act.eval, Array.replicate]) ?_
  simp only [Bool.false_eq_true, if_false]
  refine wpS_of_wp (wp_skip ?_)
  cases c₀
  simp_all [bodyPostS, results, Tryd.results32]
/-- the world behind errors.As -/
def asW (w : World) (e t : Addr) : World := ((((w.alloc (.cells #[.pointer (some t)] 43)).alloc (.cells #[.pointer (some ⟨12, 43, none⟩), .pointer (some ⟨w.heap.size, 0, none⟩), .int .u64 150] 62)).alloc (.cells #[.pointer (some ⟨12, 43, none⟩), .pointer (some ⟨w.heap.size, 0, none⟩), .int .u64 150] 62)).alloc (.cells #[.pointer (some e)] 41)).setCell t (.pointer (some e))
theorem asW_at (w : World) (e t : Addr) {old : Value} (h : w.cell? t = some old) (ht : t.block < w.heap.size) : (asW w e t).cell? t = some (.pointer (some e)) := by
  unfold asW
  refine World.cell?_setCell_same _ _ _ (u := old) ?_
  rw [World.cell?_alloc_lt _ _ t (by simp; omega), World.cell?_alloc_lt _ _ t (by simp; omega), World.cell?_alloc_lt _ _ t (by simp; omega), World.cell?_alloc_lt _ _ t ht, h]
theorem asW_wrt {w0 w : World} (h : Wrt w0 (fun _ => False) w) (e : Addr) {t : Addr} (ht : w0.heap.size ≤ t.block) : Wrt w0 (fun _ => False) (asW w e t) :=
  ((((h.alloc _).alloc _).alloc _).alloc _).set ht
theorem asW_frozen (w : World) (e t : Addr) (ht : t.block < w.heap.size) (hf : w.frozen? t = false) : (asW w e t).frozen? t = false := by
  unfold asW
  rw [World.frozen?_setCell]
  rw [World.frozen?_alloc_old _ _ t (by simp; omega), World.frozen?_alloc_old _ _ t (by simp; omega), World.frozen?_alloc_old _ _ t (by simp; omega), World.frozen?_alloc_old _ _ t (Nat.ne_of_lt ht), hf]
set_option maxHeartbeats 4000000 in
theorem find_hit (e : Addr) (w : World) (hg : w.cell? ⟨11, 0, none⟩ = some (.iface 74 (.agg #[.pointer (some ⟨12, 25, none⟩)]))) :
    Calls Tryd.prog 24 #[.iface 41 (.pointer (some e))] w fun ev w' => ev = .returned (.pointer (some e)) ∧ Wrt w (fun _ => False) w' := by
  have hmf : ∀ (fn : Fn) (first cap : Array Value) (w : World), (Instr.makeFunc fn first cap).run Tryd.prog w = .ok (.func fn first cap) w := fun _ _ _ _ => rfl
  have hlt : 11 < w.heap.size := by
    rcases Nat.lt_or_ge 11 w.heap.size with h | h
    · exact h
    · simp [World.cell?, Array.getElem?_eq_none h] at hg
  have hgA : (w.alloc (.cells #[.pointer none] 41)).cell? ⟨11, 0, none⟩ = some (.iface 74 (.agg #[.pointer (some ⟨12, 25, none⟩)])) := by
    rw [World.cell?_alloc_lt _ _ ⟨11, 0, none⟩ hlt]; exact hg
  have htA : (w.alloc (.cells #[.pointer none] 41)).cell? ⟨w.heap.size, 0, none⟩ = some (.pointer none) := by simp
  have hfA : (w.alloc (.cells #[.pointer none] 41)).frozen? ⟨w.heap.size, 0, none⟩ = false := by simp
  have hsz : (⟨w.heap.size, 0, none⟩ : Addr).block < (w.alloc (.cells #[.pointer none] 41)).heap.size := by simp
  have hc := asW_at (w.alloc (.cells #[.pointer none] 41)) e ⟨w.heap.size, 0, none⟩ htA hsz
  have hz := asW_frozen (w.alloc (.cells #[.pointer none] 41)) e ⟨w.heap.size, 0, none⟩ hsz hfA
  have hw := asW_wrt ((Wrt.refl w (fun _ => False)).alloc (.cells #[.pointer none] 41)) e (t := ⟨w.heap.size, 0, none⟩) (Nat.le_refl _)
  have has : Calls Tryd.prog 20 #[.iface 41 (.pointer (some e)), .iface 43 (.pointer (some ⟨w.heap.size, 0, none⟩))] (w.alloc (.cells #[.pointer none] 41)) fun ev w' => ev = .returned (.bool true) ∧ w' = asW (w.alloc (.cells #[.pointer none] 41)) e ⟨w.heap.size, 0, none⟩ := as_hit e ⟨w.heap.size, 0, none⟩ (.pointer none) _ hgA htA hfA
  generalize asW (w.alloc (.cells #[.pointer none] 41)) e ⟨w.heap.size, 0, none⟩ = wa at *
  go_enter_defers Tryd.func24, Tryd.ntmps24
  go_wp2_with (go_at_call 20; refine has.mono ?_; rintro ev w' ⟨rfl, rfl⟩)
  refine leaves_cons (f := 32) (args := #[.pointer (some ⟨w.heap.size, 0, none⟩)]) (by simp) (by simp [go_sem]) ?_
  refine (find_idle ⟨w.heap.size, 0, none⟩ _).mono ?_
  rintro e' u' w'' ⟨rfl, rfl, rfl⟩
  simp [Leaves, settle, results, Tryd.results24, go_sem, hc]
  exact hw.set (Nat.le_refl _)
theorem place_hit (e : Addr) (n : Int) (w : World) (hg : w.cell? ⟨11, 0, none⟩ = some (.iface 74 (.agg #[.pointer (some ⟨12, 25, none⟩)]))) (hn : w.cell? e = some (.int .i64 n)) :
    Calls Tryd.prog 11 #[.iface 41 (.pointer (some e))] w fun ev w' => ev = .returned (.tuple #[.int .i64 n, .bool true]) ∧ Wrt w (fun _ => False) w' := by
  have hf := find_hit e w hg
  have hlt : e.block < w.heap.size := by
    rcases Nat.lt_or_ge e.block w.heap.size with h | h
    · exact h
    · simp [World.cell?, Array.getElem?_eq_none h] at hn
  go_enter Tryd.func11, Tryd.ntmps11
  go_wp2_with (go_at_call 24; refine hf.mono ?_; rintro ev w' ⟨rfl, hw⟩; have hn' : w'.cell? e = some (.int .i64 n) := (by rw [← hn]; unfold World.cell?; rw [hw.block _ hlt id]))
  go_ret2
  exact ⟨rfl, hw⟩
end Go.Proofs.YtkpbbhcdmkmnfaaDoor
