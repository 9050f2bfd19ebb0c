/- WoeNames -/
import Derived.Test.YtkpbbhcdmkmnfaaDoorWAwake
import Derived.Deep.QuietTactic
import Derived.BigQuiet
set_option linter.unusedSimpArgs false
set_option linter.unusedVariables false
namespace Go.Proofs.YtkpbbhcdmkmnfaaDoor
open Go.RowKit Go.Extern.Stop Go.Stop Go.Extern Go.Rex
theorem names_long (l : List Int) (v : Value) (S : Nat → Addr) (w : World) (hS : Sen w S) (hg : Hnd w) (hl : ¬ l.length ≤ 40) (hv : Rd w v l) :
    Calls Tryd.prog 4 #[v] w fun e w' => e = .returned (.bool true) ∧ Nw w w' := by
  have haw := awake_walk S w hS hg
  have hle : (40 : Int) < (l.length : Int) := by omega
  obtain ⟨A, c, rfl, -, -, -⟩ := hv.at_
  clear hS hg hv hl
  go_enter Tryd.func4, Tryd.ntmps4
  go_wp2_with (go_at_call 9; (with_reducible refine haw.mono ?_); rintro ev w1 ⟨rfl, hw1⟩)
  go_ret
  exact ⟨rfl, hw1⟩
/-- the array of the named ones -/
def Named (S : Nat → Addr) (w : World) (b : Nat) : Prop := ∀ k, 1 ≤ k → k < 12 → w.cell? ⟨b, k, none⟩ = some (.iface 56 (.pointer (some (S (k - 1)))))
theorem Named.nw {S : Nat → Addr} {w w' : World} {b : Nat} (h : Named S w b) (hn : Nw w w') : Named S w' b := fun k h1 h2 => hn.cell (h k h1 h2)
set_option maxHeartbeats 1000000 in
theorem names_short (l : List Int) (v : Value) (S : Nat → Addr) (w : World) (hS : Sen w S) (hg : Hnd w) (hl : l.length ≤ 40) (hv : Rd w v l) :
    Calls Tryd.prog 4 #[v] w fun e w' => e = .returned (.bool true) ∧ Nw w w' := by
  have haw := awake_walk S w hS hg
  have A0 : Aside (Sen w S ∧ Hnd w ∧ Rd w v l ∧ l.length ≤ 40) := ⟨hS, hg, hv, hl⟩
  have hle : ¬ (40 : Int) < (l.length : Int) := by omega
  obtain ⟨A, c, rfl, hlc, hcm, hA⟩ := hv.at_
  clear hS hg hv hl hcm hA
  go_enter Tryd.func4, Tryd.ntmps4
  go_wp2_with (go_at_call 9; (with_reducible refine haw.mono ?_); rintro ev w1 ⟨rfl, hw1⟩; have h0 := (A0.out.1.nw hw1).cell 0 (by decide); have h1 := (A0.out.1.nw hw1).cell 1 (by decide); have h2 := (A0.out.1.nw hw1).cell 2 (by decide); have h3 := (A0.out.1.nw hw1).cell 3 (by decide); have h4 := (A0.out.1.nw hw1).cell 4 (by decide); have h5 := (A0.out.1.nw hw1).cell 5 (by decide); have h6 := (A0.out.1.nw hw1).cell 6 (by decide); have h7 := (A0.out.1.nw hw1).cell 7 (by decide); have h8 := (A0.out.1.nw hw1).cell 8 (by decide); have h9 := (A0.out.1.nw hw1).cell 9 (by decide); have h10 := (A0.out.1.nw hw1).cell 10 (by decide))
  have AN : Aside (Named S (w1.alloc (.cells #[.nilIface, .iface 56 (.pointer (some (S 0))), .iface 56 (.pointer (some (S 1))), .iface 56 (.pointer (some (S 2))), .iface 56 (.pointer (some (S 3))), .iface 56 (.pointer (some (S 4))), .iface 56 (.pointer (some (S 5))), .iface 56 (.pointer (some (S 6))), .iface 56 (.pointer (some (S 7))), .iface 56 (.pointer (some (S 8))), .iface 56 (.pointer (some (S 9))), .iface 56 (.pointer (some (S 10)))] 34)) w1.heap.size) := fun k h1 h2 => by
    match k, h1, h2 with
    | 1, _, _ => simp
    | 2, _, _ => simp
    | 3, _, _ => simp
    | 4, _, _ => simp
    | 5, _, _ => simp
    | 6, _, _ => simp
    | 7, _, _ => simp
    | 8, _, _ => simp
    | 9, _, _ => simp
    | 10, _, _ => simp
    | 11, _, _ => simp
  have hn1 : Nw w1 (w1.alloc (.cells #[.nilIface, .iface 56 (.pointer (some (S 0))), .iface 56 (.pointer (some (S 1))), .iface 56 (.pointer (some (S 2))), .iface 56 (.pointer (some (S 3))), .iface 56 (.pointer (some (S 4))), .iface 56 (.pointer (some (S 5))), .iface 56 (.pointer (some (S 6))), .iface 56 (.pointer (some (S 7))), .iface 56 (.pointer (some (S 8))), .iface 56 (.pointer (some (S 9))), .iface 56 (.pointer (some (S 10)))] 34)) := (Wrt.refl w1 _).alloc _
  have AW : Aside (Nw w (w1.alloc (.cells #[.nilIface, .iface 56 (.pointer (some (S 0))), .iface 56 (.pointer (some (S 1))), .iface 56 (.pointer (some (S 2))), .iface 56 (.pointer (some (S 3))), .iface 56 (.pointer (some (S 4))), .iface 56 (.pointer (some (S 5))), .iface 56 (.pointer (some (S 6))), .iface 56 (.pointer (some (S 7))), .iface 56 (.pointer (some (S 8))), .iface 56 (.pointer (some (S 9))), .iface 56 (.pointer (some (S 10)))] 34))) := hw1.trans hn1
  obtain ⟨B, hB⟩ : ∃ B, B = w1.heap.size := ⟨_, rfl⟩
  rw [← hB] at AN ⊢
  clear h0 h1 h2 h3 h4 h5 h6 h7 h8 h9 h10 hn1 hw1 haw hB
  generalize w1.alloc (.cells #[.nilIface, .iface 56 (.pointer (some (S 0))), .iface 56 (.pointer (some (S 1))), .iface 56 (.pointer (some (S 2))), .iface 56 (.pointer (some (S 3))), .iface 56 (.pointer (some (S 4))), .iface 56 (.pointer (some (S 5))), .iface 56 (.pointer (some (S 6))), .iface 56 (.pointer (some (S 7))), .iface 56 (.pointer (some (S 8))), .iface 56 (.pointer (some (S 9))), .iface 56 (.pointer (some (S 10)))] 34) = wn at *
  go_loopg [4] 11 (fun k i wr => ∃ n : Nat, i = .int .i64 n ∧ (1 ≤ n ∧ n + k = 12) ∧ Nw wn wr)
  case atStart => exact ⟨1, rfl, ⟨by decide, by decide⟩, Wrt.refl wn _⟩
  case round =>
    obtain ⟨n, rfl, ⟨hn1, hn2⟩, hnw⟩ := hrel
    rcases Nat.lt_or_ge n 12 with hlt | hge
    · have h1 : (n : Int) < 12 := by omega
      have hwr := wrapped_walk n l _ S wr (A0.out.1.nw (AW.out.trans hnw)) (by have := A0.out.2.2.2; omega) (A0.out.2.2.1.nw (AW.out.trans hnw))
      have A1 : Aside ((1 ≤ n ∧ n + gk = 12) ∧ Nw wn wr) := ⟨⟨hn1, hn2⟩, hnw⟩
      clear hn1 hn2 hnw
      go_wp2_with (go_at_call 10; (with_reducible refine hwr.mono ?_); intro ev w2 hp2; obtain ⟨v2, rfl, hv2, -, hw2⟩ := hp2; have q := A1.out.1; replace hv2 := hv2 (by omega); obtain ⟨T, y, rfl⟩ := hv2.if; have A2 : Aside (IsCh w2 (.iface 56 (.pointer (some (S ((n : Int) - 1).toNat)))) l.reverse (.iface T y)) := hv2; clear hv2 q)
      have A3 : Aside (Nw wn w2) := A1.out.2.trans hw2
      clear hwr hw2
      go_loopg [6] 11 (fun k j wr2 => ∃ m : Nat, j = .int .i64 m ∧ (1 ≤ m ∧ m + k = 12) ∧ Nw w2 wr2)
      case atStart => exact ⟨1, rfl, ⟨by decide, by decide⟩, Wrt.refl w2 _⟩
      case round =>
        obtain ⟨m, rfl, ⟨hm1, hm2⟩, hmw⟩ := hrel
        rcases Nat.lt_or_ge m 12 with hltm | hgem
        · have h2 : (m : Int) < 12 := by omega
          have hcm := (AN.out.nw (A3.out.trans hmw)) m hm1 hltm
          have hS := A0.out.1.nw (AW.out.trans (A3.out.trans hmw))
          have hx : ((n : Int) - 1).toNat = n - 1 := by omega
          obtain ⟨qn1, qn2⟩ := A1.out.1
          have hsn := hS.sen (n - 1) (by omega)
          have hsm := hS.sen (m - 1) (by omega)
          have hch := hmw.ch A2.out
          rw [hx] at hch
          have hof : ∀ q, Calls Tryd.prog 17 #[.int .i64 (n : Int)] (wr.drewN q) fun e w' => e = .returned (.iface 56 (.pointer (some (S (n - 1))))) ∧ w' = wr.drewN q := fun q => by
            have := of_walk n S (wr.drewN q) (hS.nw (Nw.drewN (Wrt.refl wr _) q))
            rwa [ofV_at S ⟨qn1, by omega⟩] at this
          have hi1 : ∀ q, Calls Tryd.prog 16 #[.iface T y, .iface 56 (.pointer (some (S (m - 1))))] (wr.drewN q) fun e w' => e = .returned (.bool (decide (S (n - 1) = S (m - 1)))) ∧ w' = wr.drewN q := fun q =>
            have hq : Nw wr (wr.drewN q) := Nw.drewN (Wrt.refl wr _) q
            is_ch l.reverse _ (S (n - 1)) (S (m - 1)) (wr.drewN q) (hq.ch hch) (hq.sen hsn) (hq.sen hsm)
          have hi2 : ∀ q, Calls Tryd.prog 16 #[.iface 56 (.pointer (some (S (n - 1)))), .iface 56 (.pointer (some (S (m - 1))))] (wr.drewN q) fun e w' => e = .returned (.bool (decide (S (n - 1) = S (m - 1)))) ∧ w' = wr.drewN q := fun q =>
            have hq : Nw wr (wr.drewN q) := Nw.drewN (Wrt.refl wr _) q
            is_ch [] _ (S (n - 1)) (S (m - 1)) (wr.drewN q) rfl (hq.sen hsn) (hq.sen hsm)
          have A4 : Aside ((1 ≤ m ∧ m + gk = 12) ∧ Nw w2 wr) := ⟨⟨hm1, hm2⟩, hmw⟩
          generalize hX : S (m - 1) = X at hcm hi1 hi2
          generalize hY : S (n - 1) = Y at hof hi1 hi2
          by_cases hnm : n = m
          · subst hnm
            have hb : decide (Y = X) = true := by rw [← hX, ← hY]; simp
            simp only [hb] at hi1 hi2
            clear hsn hsm hch hS hx hX hY hb hm1 hm2 hmw hltm qn1 qn2
            go_wp2
            go_quiet (first | (go_at_call 16; (with_reducible exact Calls.quiet_of_same (hi1 _))) | (go_at_call 16; (with_reducible exact Calls.quiet_of_same (hi2 _))) | (go_at_call 17; (with_reducible exact Calls.quiet_of_same (hof _))))
            go_wp2
            obtain ⟨⟨q1, q2⟩, q3⟩ := A4.out
            go_roundg (11 - n)
            case measure => omega
            case rel => exact ⟨n + 1, by go_num, ⟨by omega, by omega⟩, q3.drewN _⟩
          · have hb : decide (Y = X) = false := by
              rw [← hX, ← hY]
              have : ¬ S (n - 1) = S (m - 1) := fun h => hnm (by have := A0.out.1.one (n - 1) (m - 1) (by omega) (by omega) h; omega)
              simp [this]
            simp only [hb] at hi1 hi2
            have hq : ((n : Int) == (m : Int)) = false := by
              have : ¬ (n : Int) = (m : Int) := by omega
              simpa using this
            clear hsn hsm hch hS hx hX hY hb hm1 hm2 hmw hltm qn1 qn2 hnm
            go_wp2
            go_quiet (first | (go_at_call 16; (with_reducible exact Calls.quiet_of_same (hi1 _))) | (go_at_call 16; (with_reducible exact Calls.quiet_of_same (hi2 _))) | (go_at_call 17; (with_reducible exact Calls.quiet_of_same (hof _))))
            go_wp2
            obtain ⟨⟨q1, q2⟩, q3⟩ := A4.out
            go_roundg (11 - m)
            case measure => omega
            case rel => exact ⟨m + 1, by go_num, ⟨by omega, by omega⟩, q3.drewN _⟩
        · have h2 : ¬ (m : Int) < 12 := by omega
          have A4 : Aside (Nw w2 wr) := hmw
          clear hm1 hm2 hmw hgem
          go_wp2
          obtain ⟨⟨q1, q2⟩, q3⟩ := A1.out
          go_roundg (11 - n)
          case measure => omega
          case rel => exact ⟨n + 1, by go_num, ⟨by omega, by omega⟩, A3.out.trans A4.out⟩
    · have h1 : ¬ (n : Int) < 12 := by omega
      have A4 : Aside (Nw wn wr) := hnw
      clear hn1 hn2 hnw hge
      go_wp2
      go_ret
      exact ⟨rfl, AW.out.trans A4.out⟩
theorem names_walk (l : List Int) (v : Value) (S : Nat → Addr) (w : World) (hS : Sen w S) (hg : Hnd w) (hv : Rd w v l) :
    Calls Tryd.prog 4 #[v] w fun e w' => e = .returned (.bool true) ∧ Nw w w' := by
  by_cases hl : l.length ≤ 40
  · exact names_short l v S w hS hg hl hv
  · exact names_long l v S w hS hg hl hv
end Go.Proofs.YtkpbbhcdmkmnfaaDoor
