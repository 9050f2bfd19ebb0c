/- awake -/
import Derived.Test.YtkpbbhcdmkmnfaaDoorWPath
set_option linter.unusedSimpArgs false
set_option linter.unusedVariables false
namespace Go.Proofs.YtkpbbhcdmkmnfaaDoor
open Go.RowKit Go.Extern.Stop Go.Stop Go.Extern Go.Rex
theorem code_at (ps : List Int) (v : Value) (k : Nat) (S : Nat → Addr) (w : World) (hk : k < 11) (hS : Sen w S) (hv : IsCh w (.iface 56 (.pointer (some (S k)))) ps v) :
    Calls Tryd.prog 12 #[v] w fun e w' => e = .returned (.int .i64 ((k : Int) + 1)) ∧ Nw w w' := by
  refine (code_walk ps v (S k) S w hS hv (hS.sen k hk)).mono ?_
  rintro e w' ⟨⟨c, hc, rfl⟩, hw⟩
  rcases hc with ⟨j, hj, he, rfl⟩ | ⟨h, -⟩
  · rw [hS.one k j hk hj he]
    exact ⟨rfl, hw⟩
  · exact absurd rfl (h k hk)
theorem Rd.lit2 (w : World) (a b : Int) : Rd (w.alloc (.cells #[.int .i64 a, .int .i64 b] 3)) (.slice (some ⟨w.heap.size, 0, none⟩) 2 2) [a, b] := by
  refine ⟨some ⟨w.heap.size, 0, none⟩, 2, rfl, Nat.le_refl _, by unfold maxLen; omega, fun _ => ⟨_, rfl, fun j x hj => ?_⟩⟩
  rcases j with _ | _ | j
  · simp at hj; subst hj; simp [Addr.add]
  · simp at hj; subst hj; simp [Addr.add]
  · simp at hj
theorem at_ch (p : Int) (ps : List Int) (T : TypeId) (x v : Value) (w : World) (hv : IsCh w (.iface T x) ps v) :
    Calls Tryd.prog 18 #[.int .i64 p, v] w fun e w' => (∃ b, e = .returned (.iface 41 (.pointer (some ⟨b, 0, none⟩))) ∧ Aside (IsCh w' (.iface T x) (p :: ps) (.iface 41 (.pointer (some ⟨b, 0, none⟩))) ∧ Nw w w')) := by
  obtain ⟨T', y, rfl⟩ := hv.if
  refine (at_walk p T' y w).mono ?_
  rintro e w' ⟨rfl, rfl⟩
  have hn : Nw w (w.alloc (.cells #[.int .i64 p, .iface T' y] 45)) := (Wrt.refl w _).alloc _
  exact ⟨w.heap.size, rfl, ⟨w.heap.size, .iface T' y, rfl, by simp, by simp, hn.ch hv⟩, hn⟩
set_option maxHeartbeats 400000 in
theorem awake_walk (S : Nat → Addr) (w : World) (hS : Sen w S) (hg : Hnd w) : Calls Tryd.prog 9 #[] w fun e w' => e = .returned (.bool true) ∧ Nw w w' := by
  have h2 := hS.cell 2 (by decide)
  have A0 : Aside (Sen w S ∧ Hnd w) := ⟨hS, hg⟩
  clear hS hg
  have ha1 := at_ch 7 [] 56 (.pointer (some (S 2))) (.iface 56 (.pointer (some (S 2)))) w (by unfold IsCh; rfl)
  go_enter Tryd.func9, Tryd.ntmps9
  go_wp2_with (go_at_call 18; (with_reducible refine ha1.mono ?_); rintro ev w1 ⟨b1, rfl, hb1⟩)
  have ha2 := at_ch 3 [7] 56 (.pointer (some (S 2))) _ w1 hb1.out.1
  have A1 : Aside (Nw w w1) := hb1.out.2
  clear ha1 hb1 h2
  go_wp2_with (go_at_call 18; (with_reducible refine ha2.mono ?_); rintro ev w2 ⟨b2, rfl, hb2⟩)
  obtain ⟨hS, hg⟩ := A0.out
  obtain ⟨hb2, hw2⟩ := hb2.out
  have hn2 : Nw w w2 := A1.out.trans hw2
  have hpl := place_walk [3, 7] _ (S 2) w2 (hg.nw hn2) hb2
  have A2 : Aside (IsCh w2 (.iface 56 (.pointer (some (S 2)))) [3, 7] (.iface 41 (.pointer (some ⟨b2, 0, none⟩))) ∧ Nw w w2) := ⟨hb2, hn2⟩
  clear A1 ha2 hb2 hw2 hn2 hS hg
  go_wp2_with (go_at_call 11; (with_reducible refine hpl.mono ?_); rintro ev w3 ⟨rfl, hw3⟩)
  obtain ⟨hS, hg⟩ := A0.out
  have hch3 := hw3.ch A2.out.1
  have hn3 : Nw w w3 := A2.out.2.trans hw3
  have hco : Calls Tryd.prog 12 #[.iface 41 (.pointer (some ⟨b2, 0, none⟩))] w3 fun e w' => e = .returned (.int .i64 3) ∧ Nw w3 w' := code_at [3, 7] _ 2 S w3 (by decide) (hS.nw hn3) hch3
  have A3 : Aside (IsCh w3 (.iface 56 (.pointer (some (S 2)))) [3, 7] (.iface 41 (.pointer (some ⟨b2, 0, none⟩))) ∧ Nw w w3) := ⟨hch3, hn3⟩
  clear A2 hpl hw3 hch3 hn3 hS hg
  go_wp2_with (go_at_call 12; (with_reducible refine hco.mono ?_); rintro ev w4 ⟨rfl, hw4⟩)
  obtain ⟨hS, hg⟩ := A0.out
  have hch4 := hw4.ch A3.out.1
  have hn4 : Nw w w4 := A3.out.2.trans hw4
  have hpa := path_walk [3, 7] _ (S 2) w4 (by decide) (hg.nw hn4) hch4
  have A4 : Aside (IsCh w4 (.iface 56 (.pointer (some (S 2)))) [3, 7] (.iface 41 (.pointer (some ⟨b2, 0, none⟩))) ∧ Nw w w4) := ⟨hch4, hn4⟩
  clear A3 hco hw4 hch4 hn4 hS hg
  go_wp2_with (go_at_call 13; (with_reducible refine hpa.mono ?_); intro ev w5 hp5; obtain ⟨v5, rfl, hr5, hw5⟩ := hp5)
  have hwA : Nw w5 (w5.alloc (.cells #[.int .i64 3, .int .i64 7] 3)) := (Wrt.refl w5 _).alloc _
  have hin : Calls Tryd.prog 14 #[v5, .slice (some ⟨w5.heap.size, 0, none⟩) 2 2] (w5.alloc (.cells #[.int .i64 3, .int .i64 7] 3)) fun e w' => e = .returned (.bool true) ∧ Nw (w5.alloc (.cells #[.int .i64 3, .int .i64 7] 3)) w' := ints_walk [3, 7] [3, 7] v5 _ _ (hr5.nw hwA) (Rd.lit2 w5 3 7)
  have hch5 := (hw5.trans hwA).ch A4.out.1
  have hn5 : Nw w (w5.alloc (.cells #[.int .i64 3, .int .i64 7] 3)) := A4.out.2.trans (hw5.trans hwA)
  have A5 : Aside (IsCh (w5.alloc (.cells #[.int .i64 3, .int .i64 7] 3)) (.iface 56 (.pointer (some (S 2)))) [3, 7] (.iface 41 (.pointer (some ⟨b2, 0, none⟩))) ∧ Nw w (w5.alloc (.cells #[.int .i64 3, .int .i64 7] 3))) := ⟨hch5, hn5⟩
  clear A4 hpa hr5 hw5 hwA hch5 hn5
  go_wp2_with (go_at_call 14; (with_reducible refine hin.mono ?_); rintro ev w6 ⟨rfl, hw6⟩; have hg2 := (A0.out.1.nw (A5.out.2.trans hw6)).cell 2 (by decide))
  have hch6 := hw6.ch A5.out.1
  have hn6 : Nw w w6 := A5.out.2.trans hw6
  have hS6 := A0.out.1.nw hn6
  have hi1 : Calls Tryd.prog 16 #[.iface 41 (.pointer (some ⟨b2, 0, none⟩)), .iface 56 (.pointer (some (S 2)))] w6 fun e w' => e = .returned (.bool true) ∧ w' = w6 :=
    (is_ch [3, 7] _ (S 2) (S 2) w6 hch6 (hS6.sen 2 (by decide)) (hS6.sen 2 (by decide))).mono fun e w' h => ⟨h.1.trans (by simp), h.2⟩
  have hne : ¬ S 2 = S 0 := fun h => absurd (A0.out.1.one 2 0 (by decide) (by decide) h) (by decide)
  have hi2 : Calls Tryd.prog 16 #[.iface 41 (.pointer (some ⟨b2, 0, none⟩)), .iface 56 (.pointer (some (S 0)))] w6 fun e w' => e = .returned (.bool false) ∧ w' = w6 :=
    (is_ch [3, 7] _ (S 2) (S 0) w6 hch6 (hS6.sen 2 (by decide)) (hS6.sen 0 (by decide))).mono fun e w' h => ⟨h.1.trans (by simp [hne]), h.2⟩
  have hg0 := hS6.cell 0 (by decide)
  have hat := at_nil 1 w6
  have A6 : Aside (Nw w w6) := hn6
  clear A5 hin hw6 hch6 hn6 hS6 hne hb2
  go_wp2_with (first
    | (go_at_call 16; (with_reducible refine hi1.mono ?_); rintro ev w7 ⟨rfl, rfl⟩)
    | (go_at_call 16; (with_reducible refine hi2.mono ?_); rintro ev w7 ⟨rfl, rfl⟩)
    | (go_at_call 18; (with_reducible refine hat.mono ?_); rintro ev w7 ⟨rfl, rfl⟩))
  go_ret
  exact ⟨rfl, A6.out⟩
end Go.Proofs.YtkpbbhcdmkmnfaaDoor
