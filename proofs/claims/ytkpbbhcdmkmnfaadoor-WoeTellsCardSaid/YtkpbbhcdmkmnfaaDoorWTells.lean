/- WoeTells -/
import Derived.Test.YtkpbbhcdmkmnfaaDoorWAwake
set_option linter.unusedSimpArgs false
set_option linter.unusedVariables false
namespace Go.Proofs.YtkpbbhcdmkmnfaaDoor
open Go.RowKit Go.Extern.Stop Go.Stop Go.Extern Go.Rex
set_option maxHeartbeats 1000000 in
theorem tells_low (n : Int) (l : List Int) (v : Value) (S : Nat → Addr) (w : World) (hS : Sen w S) (hg : Hnd w) (hl : l.length ≤ 40) (hv : Rd w v l) (hn : n < 1) :
    Calls Tryd.prog 3 #[.int .i64 n, v] w fun e w' => e = .returned (.bool true) ∧ Nw w w' := by
  have haw := awake_walk S w hS hg
  have A0 : Aside (Sen w S ∧ Hnd w ∧ Rd w v l ∧ ¬ (1 ≤ n ∧ n ≤ 11) ∧ l.length ≤ 40) := ⟨hS, hg, hv, by omega, hl⟩
  have hle : ¬ (40 : Int) < (l.length : Int) := by omega
  obtain ⟨A, c, rfl, -, -, -⟩ := hv.at_
  clear hS hg hv hl
  go_enter Tryd.func3, Tryd.ntmps3
  go_wp2_with (go_at_call 9; (with_reducible refine haw.mono ?_); rintro ev w1 ⟨rfl, hw1⟩)
  have hwr := wrapped_walk n l _ S w1 (A0.out.1.nw hw1) (by have := A0.out.2.2.2.2; omega) (A0.out.2.2.1.nw hw1)
  have A1 : Aside (Nw w w1) := hw1
  clear haw hw1
  go_wp2_with (go_at_call 10; (with_reducible refine hwr.mono ?_); intro ev w2 hp2; obtain ⟨v2, rfl, -, hv2, hw2⟩ := hp2; obtain rfl := hv2 A0.out.2.2.2.1; clear hv2)
  have hpl := place_nil w2
  have A2 : Aside (Nw w w2) := A1.out.trans hw2
  clear hwr hw2 A1
  go_wp2_with (go_at_call 11; (with_reducible refine hpl.mono ?_); rintro ev w3 ⟨rfl, hw3⟩)
  have hco := code_nil w3
  have hpa := path_nil w3
  have A3 : Aside (Nw w w3) := A2.out.trans hw3
  clear A2 hpl hw3
  go_wp2_with (first
    | (go_at_call 12; (with_reducible refine hco.mono ?_); rintro ev w4 ⟨rfl, rfl⟩)
    | (go_at_call 13; (with_reducible refine hpa.mono ?_); intro ev w5 hp5; obtain ⟨v5, rfl, hr5, hw5⟩ := hp5; obtain ⟨A5, c5, rfl, -, -, -⟩ := hr5.at_; clear hr5))
  go_ret
  exact ⟨rfl, A3.out.trans hw5⟩
set_option maxHeartbeats 1000000 in
theorem tells_high (n : Int) (l : List Int) (v : Value) (S : Nat → Addr) (w : World) (hS : Sen w S) (hg : Hnd w) (hl : l.length ≤ 40) (hv : Rd w v l) (hn1 : 1 ≤ n) (hn2 : 11 < n) :
    Calls Tryd.prog 3 #[.int .i64 n, v] w fun e w' => e = .returned (.bool true) ∧ Nw w w' := by
  have haw := awake_walk S w hS hg
  have A0 : Aside (Sen w S ∧ Hnd w ∧ Rd w v l ∧ ¬ (1 ≤ n ∧ n ≤ 11) ∧ l.length ≤ 40) := ⟨hS, hg, hv, by omega, hl⟩
  have hle : ¬ (40 : Int) < (l.length : Int) := by omega
  obtain ⟨A, c, rfl, -, -, -⟩ := hv.at_
  clear hS hg hv hl
  go_enter Tryd.func3, Tryd.ntmps3
  go_wp2_with (go_at_call 9; (with_reducible refine haw.mono ?_); rintro ev w1 ⟨rfl, hw1⟩)
  have hwr := wrapped_walk n l _ S w1 (A0.out.1.nw hw1) (by have := A0.out.2.2.2.2; omega) (A0.out.2.2.1.nw hw1)
  have A1 : Aside (Nw w w1) := hw1
  clear haw hw1
  go_wp2_with (go_at_call 10; (with_reducible refine hwr.mono ?_); intro ev w2 hp2; obtain ⟨v2, rfl, -, hv2, hw2⟩ := hp2; obtain rfl := hv2 A0.out.2.2.2.1; clear hv2)
  have hpl := place_nil w2
  have A2 : Aside (Nw w w2) := A1.out.trans hw2
  clear hwr hw2 A1
  go_wp2_with (go_at_call 11; (with_reducible refine hpl.mono ?_); rintro ev w3 ⟨rfl, hw3⟩)
  have hco := code_nil w3
  have hpa := path_nil w3
  have A3 : Aside (Nw w w3) := A2.out.trans hw3
  clear A2 hpl hw3
  go_wp2_with (first
    | (go_at_call 12; (with_reducible refine hco.mono ?_); rintro ev w4 ⟨rfl, rfl⟩)
    | (go_at_call 13; (with_reducible refine hpa.mono ?_); intro ev w5 hp5; obtain ⟨v5, rfl, hr5, hw5⟩ := hp5; obtain ⟨A5, c5, rfl, -, -, -⟩ := hr5.at_; clear hr5))
  go_ret
  exact ⟨rfl, A3.out.trans hw5⟩
set_option maxHeartbeats 1000000 in
theorem tells_empty (n : Int) (l : List Int) (v : Value) (S : Nat → Addr) (w : World) (hS : Sen w S) (hg : Hnd w) (hl : l.length ≤ 40) (hv : Rd w v l) (hn1 : 1 ≤ n) (hn2 : n ≤ 11) (hz : l = []) :
    Calls Tryd.prog 3 #[.int .i64 n, v] w fun e w' => e = .returned (.bool true) ∧ Nw w w' := by
  have haw := awake_walk S w hS hg
  have A0 : Aside (Sen w S ∧ Hnd w ∧ Rd w v l ∧ (1 ≤ n ∧ n ≤ 11) ∧ l.length ≤ 40) := ⟨hS, hg, hv, ⟨hn1, hn2⟩, hl⟩
  have hle : ¬ (40 : Int) < (l.length : Int) := by omega
  obtain ⟨A, c, rfl, hlc, hcm, hA⟩ := hv.at_
  have AH : Aside (l.reverse.headD 0 = 0 ∧ (!l.reverse.isEmpty) = false) := by rw [hz]; exact ⟨rfl, rfl⟩
  have hz0 : ¬ (0 : Int) < (l.length : Int) := by rw [hz]; simp
  clear hz
  clear hS hg hv hl hcm hA
  go_enter Tryd.func3, Tryd.ntmps3
  go_wp2_with (go_at_call 9; (with_reducible refine haw.mono ?_); rintro ev w1 ⟨rfl, hw1⟩)
  have hwr := wrapped_walk n l _ S w1 (A0.out.1.nw hw1) (by have := A0.out.2.2.2.2; omega) (A0.out.2.2.1.nw hw1)
  have A1 : Aside (Nw w w1) := hw1
  clear haw hw1
  go_wp2_with (go_at_call 10; (with_reducible refine hwr.mono ?_); intro ev w2 hp2; obtain ⟨v2, rfl, hv2, -, hw2⟩ := hp2; replace hv2 := hv2 A0.out.2.2.2.1; obtain ⟨T, y, rfl⟩ := hv2.if; have A2 : Aside (IsCh w2 (.iface 56 (.pointer (some (S (n - 1).toNat)))) l.reverse (.iface T y)) := hv2; clear hv2)
  have hpl := place_walk l.reverse _ (S (n - 1).toNat) w2 (A0.out.2.1.nw (A1.out.trans hw2)) A2.out
  rw [AH.out.1, AH.out.2] at hpl
  have A3 : Aside (Nw w w2) := A1.out.trans hw2
  clear hwr hw2 A1
  go_wp2_with (go_at_call 11; (with_reducible refine hpl.mono ?_); rintro ev w3 ⟨rfl, hw3⟩)
  have hco : Calls Tryd.prog 12 #[.iface T y] w3 fun e w' => e = .returned (.int .i64 n) ∧ Nw w3 w' := by
    have hq := A0.out.2.2.2.1
    have := code_at l.reverse (.iface T y) (n - 1).toNat S w3 (by omega) (A0.out.1.nw (A3.out.trans hw3)) (hw3.ch A2.out)
    rwa [show ((n - 1).toNat : Int) + 1 = n by omega] at this
  have A4 : Aside (Nw w w3 ∧ IsCh w3 (.iface 56 (.pointer (some (S (n - 1).toNat)))) l.reverse (.iface T y)) := ⟨A3.out.trans hw3, hw3.ch A2.out⟩
  clear A3 A2 hpl hw3
  go_wp2_with (go_at_call 12; (with_reducible refine hco.mono ?_); rintro ev w4 ⟨rfl, hw4⟩)
  have hpa := path_walk l.reverse (.iface T y) (S (n - 1).toNat) w4 (by have := A0.out.2.2.2.2; simp; omega) (A0.out.2.1.nw (A4.out.1.trans hw4)) (hw4.ch A4.out.2)
  have A5 : Aside (Nw w w4) := A4.out.1.trans hw4
  clear A4 hco hw4
  go_wp2_with (go_at_call 13; (with_reducible refine hpa.mono ?_); intro ev w5 hp5; obtain ⟨v5, rfl, hr5, hw5⟩ := hp5)
  have hba := back_walk l _ w5 (by have := A0.out.2.2.2.2; omega) (A0.out.2.2.1.nw (A5.out.trans hw5))
  have A6 : Aside (Nw w w5 ∧ Rd w5 v5 l.reverse) := ⟨A5.out.trans hw5, hr5⟩
  clear A5 hpa hr5 hw5
  go_wp2_with (go_at_call 15; (with_reducible refine hba.mono ?_); intro ev w6 hp6; obtain ⟨v6, rfl, hr6, hw6⟩ := hp6.out; clear hp6)
  have hin : Calls Tryd.prog 14 #[v5, v6] w6 fun e w' => e = .returned (.bool true) ∧ Nw w6 w' := (ints_walk l.reverse l.reverse v5 v6 w6 (A6.out.2.nw hw6) hr6).mono fun e w' h => ⟨h.1.trans (by simp), h.2⟩
  have A7 : Aside (Nw w w6) := A6.out.1.trans hw6
  clear A6 hba hr6 hw6
  go_wp2_with (go_at_call 14; (with_reducible refine hin.mono ?_); rintro ev w7 ⟨rfl, hw7⟩)
  go_ret
  exact ⟨by simp, A7.out.trans hw7⟩
set_option maxHeartbeats 1000000 in
theorem tells_some (n : Int) (l : List Int) (v : Value) (S : Nat → Addr) (w : World) (hS : Sen w S) (hg : Hnd w) (hl : l.length ≤ 40) (hv : Rd w v l) (hn1 : 1 ≤ n) (hn2 : n ≤ 11) (hz : 0 < l.length) :
    Calls Tryd.prog 3 #[.int .i64 n, v] w fun e w' => e = .returned (.bool true) ∧ Nw w w' := by
  have haw := awake_walk S w hS hg
  have A0 : Aside (Sen w S ∧ Hnd w ∧ Rd w v l ∧ (1 ≤ n ∧ n ≤ 11) ∧ l.length ≤ 40) := ⟨hS, hg, hv, ⟨hn1, hn2⟩, hl⟩
  have hle : ¬ (40 : Int) < (l.length : Int) := by omega
  obtain ⟨A, c, rfl, hlc, hcm, hA⟩ := hv.at_
  have hh : l.reverse.headD 0 = l.getD (l.length - 1) 0 := by
    have : l ≠ [] := fun h => by simp [h] at hz
    simp [List.getLast?_eq_getElem?]
  have he : (!l.reverse.isEmpty) = true := by
    have : l ≠ [] := fun h => by simp [h] at hz
    simp [this]
  obtain ⟨ad, rfl, hc1⟩ := hA (l.length - 1) (by omega)
  obtain ⟨m, hm⟩ : ∃ m, m = l.length - 1 := ⟨_, rfl⟩
  obtain ⟨x, hx⟩ : ∃ x, x = l.getD (l.length - 1) 0 := ⟨_, rfl⟩
  have AX : Aside (w.cell? (ad.add m) = some (.int .i64 x)) := by rw [hm, hx]; exact hc1
  have hz1 : 1 ≤ l.length := hz
  have hz2 : (0 : Int) < (l.length : Int) := by omega
  have hz3 : decide (0 < l.length) = true := by simp [hz]
  have hsub : (l.length : Int) - 1 = (m : Int) := by omega
  have hml : (m : Int) < (l.length : Int) := by omega
  rw [← hx] at hh
  have AH : Aside (l.reverse.headD 0 = x ∧ (!l.reverse.isEmpty) = true) := ⟨hh, he⟩
  clear hc1 hh he hm hx hz
  clear hS hg hv hl hcm hA
  go_enter Tryd.func3, Tryd.ntmps3
  go_wp2_with (go_at_call 9; (with_reducible refine haw.mono ?_); rintro ev w1 ⟨rfl, hw1⟩)
  have hwr := wrapped_walk n l _ S w1 (A0.out.1.nw hw1) (by have := A0.out.2.2.2.2; omega) (A0.out.2.2.1.nw hw1)
  have A1 : Aside (Nw w w1) := hw1
  clear haw hw1
  go_wp2_with (go_at_call 10; (with_reducible refine hwr.mono ?_); intro ev w2 hp2; obtain ⟨v2, rfl, hv2, -, hw2⟩ := hp2; replace hv2 := hv2 A0.out.2.2.2.1; obtain ⟨T, y, rfl⟩ := hv2.if; have A2 : Aside (IsCh w2 (.iface 56 (.pointer (some (S (n - 1).toNat)))) l.reverse (.iface T y)) := hv2; clear hv2)
  have hpl := place_walk l.reverse _ (S (n - 1).toNat) w2 (A0.out.2.1.nw (A1.out.trans hw2)) A2.out
  rw [AH.out.1, AH.out.2] at hpl
  have A3 : Aside (Nw w w2) := A1.out.trans hw2
  clear hwr hw2 A1
  go_wp2_with (go_at_call 11; (with_reducible refine hpl.mono ?_); rintro ev w3 ⟨rfl, hw3⟩)
  have hco : Calls Tryd.prog 12 #[.iface T y] w3 fun e w' => e = .returned (.int .i64 n) ∧ Nw w3 w' := by
    have hq := A0.out.2.2.2.1
    have := code_at l.reverse (.iface T y) (n - 1).toNat S w3 (by omega) (A0.out.1.nw (A3.out.trans hw3)) (hw3.ch A2.out)
    rwa [show ((n - 1).toNat : Int) + 1 = n by omega] at this
  have A4 : Aside (Nw w w3 ∧ IsCh w3 (.iface 56 (.pointer (some (S (n - 1).toNat)))) l.reverse (.iface T y)) := ⟨A3.out.trans hw3, hw3.ch A2.out⟩
  clear A3 A2 hpl hw3
  go_wp2_with (go_at_call 12; (with_reducible refine hco.mono ?_); rintro ev w4 ⟨rfl, hw4⟩)
  have hpa := path_walk l.reverse (.iface T y) (S (n - 1).toNat) w4 (by have := A0.out.2.2.2.2; simp; omega) (A0.out.2.1.nw (A4.out.1.trans hw4)) (hw4.ch A4.out.2)
  have A5 : Aside (Nw w w4) := A4.out.1.trans hw4
  clear A4 hco hw4
  go_wp2_with (go_at_call 13; (with_reducible refine hpa.mono ?_); intro ev w5 hp5; obtain ⟨v5, rfl, hr5, hw5⟩ := hp5)
  have hba := back_walk l _ w5 (by have := A0.out.2.2.2.2; omega) (A0.out.2.2.1.nw (A5.out.trans hw5))
  have A6 : Aside (Nw w w5 ∧ Rd w5 v5 l.reverse) := ⟨A5.out.trans hw5, hr5⟩
  clear A5 hpa hr5 hw5
  go_wp2_with (go_at_call 15; (with_reducible refine hba.mono ?_); intro ev w6 hp6; obtain ⟨v6, rfl, hr6, hw6⟩ := hp6.out; clear hp6)
  have hin : Calls Tryd.prog 14 #[v5, v6] w6 fun e w' => e = .returned (.bool true) ∧ Nw w6 w' := (ints_walk l.reverse l.reverse v5 v6 w6 (A6.out.2.nw hw6) hr6).mono fun e w' h => ⟨h.1.trans (by simp), h.2⟩
  have A7 : Aside (Nw w w6) := A6.out.1.trans hw6
  clear A6 hba hr6 hw6
  go_wp2_with (go_at_call 14; (with_reducible refine hin.mono ?_); rintro ev w7 ⟨rfl, hw7⟩; have hcx := (A7.out.trans hw7).cellA AX.out)
  go_ret
  exact ⟨by simp, A7.out.trans hw7⟩
theorem tells_long (n : Int) (l : List Int) (v : Value) (S : Nat → Addr) (w : World) (hS : Sen w S) (hg : Hnd w) (hl : ¬ l.length ≤ 40) (hv : Rd w v l) :
    Calls Tryd.prog 3 #[.int .i64 n, v] w fun e w' => e = .returned (.bool true) ∧ Nw w w' := by
  have haw := awake_walk S w hS hg
  have hle : (40 : Int) < (l.length : Int) := by omega
  obtain ⟨A, c, rfl, -, -, -⟩ := hv.at_
  clear hS hg hv hl
  go_enter Tryd.func3, Tryd.ntmps3
  go_wp2_with (go_at_call 9; (with_reducible refine haw.mono ?_); rintro ev w1 ⟨rfl, hw1⟩)
  go_ret
  exact ⟨rfl, hw1⟩
theorem tells_walk (n : Int) (l : List Int) (v : Value) (S : Nat → Addr) (w : World) (hS : Sen w S) (hg : Hnd w) (hv : Rd w v l) :
    Calls Tryd.prog 3 #[.int .i64 n, v] w fun e w' => e = .returned (.bool true) ∧ Nw w w' := by
  by_cases hl : l.length ≤ 40
  · by_cases h1 : 1 ≤ n
    · by_cases h2 : n ≤ 11
      · cases l with
        | nil => exact tells_empty n [] v S w hS hg hl hv h1 h2 rfl
        | cons a l => exact tells_some n (a :: l) v S w hS hg hl hv h1 h2 (by simp)
      · exact tells_high n l v S w hS hg hl hv h1 (by omega)
    · exact tells_low n l v S w hS hg hl hv (by omega)
  · exact tells_long n l v S w hS hg hl hv
end Go.Proofs.YtkpbbhcdmkmnfaaDoor
