/- Is, is and Code of a value of which errors.is is known -/
import Derived.Test.YtkpbbhcdmkmnfaaDoorWSev
set_option linter.unusedSimpArgs false
set_option linter.unusedVariables false
namespace Go.Proofs.YtkpbbhcdmkmnfaaDoor
open Go.RowKit Go.Extern.Stop Go.Stop Go.Extern Go.Rex
theorem is16_of (T : TypeId) (y : Value) (t : Addr) (L : Addr → Bool) (w : World) (hv : Is27 w L (.iface T y)) (ht : IsSen w t) :
    Calls Tryd.prog 16 #[.iface T y, .iface 56 (.pointer (some t))] w fun e w' => e = .returned (.bool (L t)) ∧ w' = w := by
  have h8 := @run_callFunc_extern Tryd.prog 26 _ Extern.ReflectliteType.typeOf Tryd.func26 (by kernel_rfl) (by kernel_rfl) (by kernel_rfl) (by kernel_rfl)
  have h32 := @run_callFunc_extern Tryd.prog 61 _ cmpM Tryd.func61 (by kernel_rfl) (by kernel_rfl) (by kernel_rfl) (by kernel_rfl)
  have tT := isTypeOf
  have cT := isComparable
  have mR := isMethodComparable
  have h1 := hv w (Wrt.refl w _) t ht
  clear hv ht
  generalize L t = l at *
  go_enter Tryd.func16, Tryd.ntmps16
  go_wp2_with (go_at_call 27; (with_reducible refine h1.mono ?_); rintro ev w' ⟨rfl, rfl⟩)
  go_ret
  exact ⟨rfl, rfl⟩
set_option maxHeartbeats 4000000 in
theorem wis_of (T : TypeId) (y : Value) (t : Addr) (L : Addr → Bool) (w : World) (hv : Is27 w L (.iface T y)) (ht : IsSen w t) :
    Calls Tryd.prog 25 #[.iface T y, .iface 56 (.pointer (some t))] w fun e w' => e = .returned (.bool (L t)) ∧ Nw w w' := by
  have hmf : ∀ (fn : Fn) (first cap : Array Value) (w : World), (Instr.makeFunc fn first cap).run Tryd.prog w = .ok (.func fn first cap) w := fun _ _ _ _ => rfl
  have hn : Nw w (w.alloc (.cells #[.bool false] 4)) := (Wrt.refl w _).alloc _
  have htA : (w.alloc (.cells #[.bool false] 4)).cell? ⟨w.heap.size, 0, none⟩ = some (.bool false) := by simp
  have hfA : (w.alloc (.cells #[.bool false] 4)).frozen? ⟨w.heap.size, 0, none⟩ = false := by simp
  have has := is16_of T y t L _ (hv.nw hn) (hn.sen ht)
  have hset : ∀ c : Bool, Nw w ((w.alloc (.cells #[.bool false] 4)).setCell ⟨w.heap.size, 0, none⟩ (.bool c)) := fun c => hn.set (Nat.le_refl _)
  have hcell : ∀ c : Bool, ((w.alloc (.cells #[.bool false] 4)).setCell ⟨w.heap.size, 0, none⟩ (.bool c)).cell? ⟨w.heap.size, 0, none⟩ = some (.bool c) := fun c => World.cell?_setCell_same _ _ _ htA
  clear hv ht
  generalize L t = l at *
  go_enter_defers Tryd.func25, Tryd.ntmps25
  go_wp2_with (go_at_call 16; refine has.mono ?_; rintro ev w' ⟨rfl, rfl⟩)
  refine leaves_cons (f := 33) (args := #[.pointer (some ⟨w.heap.size, 0, none⟩)]) (by simp) (by simp [go_sem]) ?_
  refine (is_idle ⟨w.heap.size, 0, none⟩ _).mono ?_
  rintro e' u' w'' ⟨rfl, rfl, rfl⟩
  simp [Leaves, settle, results, Tryd.results25, go_sem, hcell]
  exact (Wrt.refl w _).alloc _
/-- the least number of a named error that is told; none: -1 -/
def isCodeL (S : Nat → Addr) (L : Addr → Bool) (c : Int) : Prop := (∃ k, k < 11 ∧ L (S k) = true ∧ (∀ j, j < k → L (S j) = false) ∧ c = (k : Int) + 1) ∨ ((∀ k, k < 11 → L (S k) = false) ∧ c = -1)
set_option maxHeartbeats 4000000 in
theorem code_of (T : TypeId) (y : Value) (L : Addr → Bool) (S : Nat → Addr) (w : World) (hS : Sen w S) (hv : Is27 w L (.iface T y)) :
    Calls Tryd.prog 12 #[.iface T y] w fun e w' => (∃ c, isCodeL S L c ∧ e = .returned (.int .i64 c)) ∧ Nw w w' := by
  go_enter Tryd.func12, Tryd.ntmps12
  go_wp2
  go_loopg [3] 11 (fun k v wr => ∃ n : Nat, v = .int .i64 n ∧ (1 ≤ n ∧ n + k = 12) ∧ Nw w wr ∧ ∀ j, j + 1 < n → L (S j) = false)
  case atStart => exact ⟨1, rfl, ⟨by decide, by decide⟩, Wrt.refl w _, fun j hj => by omega⟩
  case round =>
    obtain ⟨n, rfl, ⟨hn1, hnk⟩, hnw, hno⟩ := hrel
    rcases Nat.lt_or_ge n 12 with hlt | hge
    · have hle : (n : Int) ≤ 11 := by omega
      have hof := of_walk n S wr (hS.nw hnw)
      rw [ofV_at S ⟨hn1, by omega⟩] at hof
      have hwis := wis_of T y (S (n - 1)) L wr (hv.nw hnw) (hnw.sen (hS.sen (n - 1) (by omega)))
      have A : Aside ((1 ≤ n ∧ n + gk = 12 ∧ n < 12) ∧ Nw w wr ∧ (∀ j, j + 1 < n → L (S j) = false)) := ⟨⟨hn1, hnk, hlt⟩, hnw, hno⟩
      obtain ⟨l, hl⟩ : ∃ l, l = L (S (n - 1)) := ⟨_, rfl⟩
      rw [← hl] at hwis
      have AL : Aside (l = L (S (n - 1))) := hl
      clear hn1 hnk hlt hnw hno hv hS hl
      cases l
      · go_wp2_with first
          | (go_at_call 17; refine hof.mono ?_; rintro ev w' ⟨rfl, rfl⟩)
          | (go_at_call 25; refine hwis.mono ?_; rintro ev w'' ⟨rfl, hw⟩)
        obtain ⟨⟨q1, q2, q3⟩, q4, q5⟩ := A.out
        go_roundg (gk - 1)
        case measure => omega
        case rel =>
          refine ⟨n + 1, rfl, ⟨by omega, by omega⟩, q4.trans hw, fun j hj => ?_⟩
          rcases Nat.lt_or_ge (j + 1) n with h | h
          · exact q5 j h
          · rw [show j = n - 1 by omega]
            exact AL.out.symm
      · go_wp2_with first
          | (go_at_call 17; refine hof.mono ?_; rintro ev w' ⟨rfl, rfl⟩)
          | (go_at_call 25; refine hwis.mono ?_; rintro ev w'' ⟨rfl, hw⟩)
        obtain ⟨⟨q1, q2, q3⟩, q4, q5⟩ := A.out
        go_ret
        exact ⟨⟨n, .inl ⟨n - 1, by omega, AL.out.symm, fun j hj => q5 j (by omega), by omega⟩, rfl⟩, q4.trans hw⟩
    · have hle : ¬ (n : Int) ≤ 11 := by omega
      have A : Aside ((1 ≤ n ∧ n + gk = 12) ∧ Nw w wr ∧ (∀ j, j + 1 < n → L (S j) = false)) := ⟨⟨hn1, hnk⟩, hnw, hno⟩
      clear hn1 hnk hnw hno hv hS
      go_wp2
      obtain ⟨⟨q1, q2⟩, q4, q5⟩ := A.out
      go_ret
      exact ⟨⟨-1, .inr ⟨fun j hj => q5 j (by omega), rfl⟩, rfl⟩, q4⟩
end Go.Proofs.YtkpbbhcdmkmnfaaDoor
