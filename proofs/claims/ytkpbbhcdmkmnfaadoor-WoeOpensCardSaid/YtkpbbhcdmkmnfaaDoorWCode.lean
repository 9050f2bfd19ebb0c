/- chains of *woe.Woe: woe.is, woe.Code -/
import Derived.Test.YtkpbbhcdmkmnfaaDoorWCh2
import Derived.Defers
import Derived.Recover
set_option linter.unusedSimpArgs false
set_option linter.unusedVariables false
set_option linter.unusedSimpArgs false
set_option linter.unusedVariables false
namespace Go.Proofs.YtkpbbhcdmkmnfaaDoor
open Go.RowKit Go.Extern.Stop Go.Stop Go.Extern Go.Rex
theorem is_idle (p : Addr) (w : World) : CallsD Tryd.prog 33 #[.pointer (some p)] .returning w fun e u' w' => e = .returned (.tuple #[]) ∧ u' = .returning ∧ w' = w := by
  refine callsD_of_wpS Tryd.func33 rfl fun c₀ cs hu => ?_
  apply wpS_seq
  apply wpS_region
  simp [wpOpsS, go_sem, recoverD, hu, Tryd.ntmps33, Exit.thenS]
  refine wpS_cond (t := false) (by simp [Act.eval, Array.replicate]) ?_
  simp only [Bool.false_eq_true, if_false]
  refine wpS_of_wp (wp_skip ?_)
  cases c₀
  simp_all [bodyPostS, results, Tryd.results33]
set_option maxHeartbeats 4000000 in
theorem wis_walk (ps : List Int) (v : Value) (x t : Addr) (w : World) (hv : IsCh w (.iface 56 (.pointer (some x))) ps v) (hx : IsSen w x) (ht : IsSen w t) :
    Calls Tryd.prog 25 #[v, .iface 56 (.pointer (some t))] w fun e w' => e = .returned (.bool (decide (x = t))) ∧ Nw w w' := by
  have hmf : ∀ (fn : Fn) (first cap : Array Value) (w : World), (Instr.makeFunc fn first cap).run Tryd.prog w = .ok (.func fn first cap) w := fun _ _ _ _ => rfl
  have hn : Nw w (w.alloc (.cells #[.bool false] 4)) := (Wrt.refl w _).alloc _
  have htA : (w.alloc (.cells #[.bool false] 4)).cell? ⟨w.heap.size, 0, none⟩ = some (.bool false) := by simp
  have hfA : (w.alloc (.cells #[.bool false] 4)).frozen? ⟨w.heap.size, 0, none⟩ = false := by simp
  have has := is_ch ps v x t _ (hn.ch hv) (hn.sen hx) (hn.sen ht)
  obtain ⟨T, y, rfl⟩ := hv.if
  have hset : ∀ c : Bool, Nw w ((w.alloc (.cells #[.bool false] 4)).setCell ⟨w.heap.size, 0, none⟩ (.bool c)) := fun c => hn.set (Nat.le_refl _)
  have hcell : ∀ c : Bool, ((w.alloc (.cells #[.bool false] 4)).setCell ⟨w.heap.size, 0, none⟩ (.bool c)).cell? ⟨w.heap.size, 0, none⟩ = some (.bool c) := fun c => World.cell?_setCell_same _ _ _ htA
  clear hv hx ht
  go_enter_defers Tryd.func25, Tryd.ntmps25
  go_wp2_with (go_at_call 16; refine has.mono ?_; rintro ev w' ⟨rfl, rfl⟩)
  refine leaves_cons (f := 33) (args := #[.pointer (some ⟨w.heap.size, 0, none⟩)]) (by simp) (by simp [go_sem]) ?_
  refine (is_idle ⟨w.heap.size, 0, none⟩ _).mono ?_
  rintro e' u' w'' ⟨rfl, rfl, rfl⟩
  simp [Leaves, settle, results, Tryd.results25, go_sem, hcell]
  exact (Wrt.refl w _).alloc _
theorem code_nil (w : World) : Calls Tryd.prog 12 #[.nilIface] w fun e w' => e = .returned (.int .i64 0) ∧ w' = w := by
  go_enter Tryd.func12, Tryd.ntmps12
  go_wp2
  go_ret
  exact ⟨rfl, rfl⟩
theorem ofV_at (S : Nat → Addr) {n : Nat} (h : 1 ≤ n ∧ n ≤ 11) : ofV S (n : Int) = .iface 56 (.pointer (some (S (n - 1)))) := by
  unfold ofV
  rw [if_pos (by omega), show ((n : Int) - 1).toNat = n - 1 by omega]
/-- the least number of a named error; none: -1 -/
def isCode (S : Nat → Addr) (x : Addr) (c : Int) : Prop := (∃ k, k < 11 ∧ x = S k ∧ c = (k : Int) + 1) ∨ ((∀ k, k < 11 → x ≠ S k) ∧ c = -1)
set_option maxHeartbeats 4000000 in
theorem code_walk (ps : List Int) (v : Value) (x : Addr) (S : Nat → Addr) (w : World) (hS : Sen w S) (hv : IsCh w (.iface 56 (.pointer (some x))) ps v) (hx : IsSen w x) :
    Calls Tryd.prog 12 #[v] w fun e w' => (∃ c, isCode S x c ∧ e = .returned (.int .i64 c)) ∧ Nw w w' := by
  obtain ⟨T, y, rfl⟩ := hv.if
  go_enter Tryd.func12, Tryd.ntmps12
  go_wp2
  go_loopg [3] 11 (fun k v wr => ∃ n : Nat, v = .int .i64 n ∧ (1 ≤ n ∧ n + k = 12) ∧ Nw w wr ∧ ∀ j, j + 1 < n → x ≠ S j)
  case atStart => exact ⟨1, rfl, ⟨by decide, by decide⟩, Wrt.refl w _, fun j hj => by omega⟩
  case round =>
    obtain ⟨n, rfl, ⟨hn1, hnk⟩, hnw, hno⟩ := hrel
    rcases Nat.lt_or_ge n 12 with hlt | hge
    · have hle : (n : Int) ≤ 11 := by omega
      have hof := of_walk n S wr (hS.nw hnw)
      rw [ofV_at S ⟨hn1, by omega⟩] at hof
      have hwis := wis_walk ps _ x (S (n - 1)) wr (hnw.ch hv) (hnw.sen hx) (hnw.sen (hS.sen (n - 1) (by omega)))
      have A : Aside ((1 ≤ n ∧ n + gk = 12 ∧ n < 12) ∧ Nw w wr ∧ (∀ j, j + 1 < n → x ≠ S j)) := ⟨⟨hn1, hnk, hlt⟩, hnw, hno⟩
      clear hn1 hnk hlt hnw hno hv hx hS
      go_wp2_with first
        | (go_at_call 17; refine hof.mono ?_; rintro ev w' ⟨rfl, rfl⟩)
        | (go_at_call 25; refine hwis.mono ?_; rintro ev w'' ⟨rfl, hw⟩)
      · have hq : x = S (n - 1) := by assumption
        obtain ⟨⟨q1, q2, q3⟩, q4, q5⟩ := A.out
        go_ret
        exact ⟨⟨n, .inl ⟨n - 1, by omega, hq, by omega⟩, rfl⟩, q4.trans hw⟩
      · have hq : ¬ x = S (n - 1) := by assumption
        obtain ⟨⟨q1, q2, q3⟩, q4, q5⟩ := A.out
        go_roundg (gk - 1)
        case measure => omega
        case rel =>
          refine ⟨n + 1, rfl, ⟨by omega, by omega⟩, q4.trans hw, fun j hj => ?_⟩
          rcases Nat.lt_or_ge (j + 1) n with h | h
          · exact q5 j h
          · rw [show j = n - 1 by omega]
            exact hq
    · have hle : ¬ (n : Int) ≤ 11 := by omega
      have A : Aside ((1 ≤ n ∧ n + gk = 12) ∧ Nw w wr ∧ (∀ j, j + 1 < n → x ≠ S j)) := ⟨⟨hn1, hnk⟩, hnw, hno⟩
      clear hn1 hnk hnw hno hv hx hS
      go_wp2
      obtain ⟨⟨q1, q2⟩, q4, q5⟩ := A.out
      go_ret
      exact ⟨⟨-1, .inr ⟨fun j hj => q5 j (by omega), rfl⟩, rfl⟩, q4⟩
end Go.Proofs.YtkpbbhcdmkmnfaaDoor
