/- WoeOpens -/
import Derived.Test.YtkpbbhcdmkmnfaaDoorWStrange
import Derived.Deep.RegionHeld3
import Derived.Deep.RegionWith
set_option linter.unusedSimpArgs false
set_option linter.unusedVariables false
namespace Go.Proofs.YtkpbbhcdmkmnfaaDoor
open Go.RowKit Go.Extern.Stop Go.Stop Go.Extern Go.Rex
theorem error_walk (v : Value) (w : World) : Calls Tryd.prog 21 #[v] w fun e w' => e = .returned (.string { data := #[119, 111, 101] }) ∧ w' = w := by
  go_enter Tryd.func21, Tryd.ntmps21
  go_wp2
  go_ret
  exact ⟨rfl, rfl⟩
theorem unwrap_nil (w : World) : Calls Tryd.prog 22 #[.pointer none] w fun e w' => e = .returned .nilIface ∧ w' = w := by
  go_enter Tryd.func22, Tryd.ntmps22
  go_wp2
  go_ret
  exact ⟨rfl, rfl⟩
theorem unwrap_walk (b : Nat) (u : Value) (w : World) (h : w.cell? ⟨b, 1, none⟩ = some u) : Calls Tryd.prog 22 #[.pointer (some ⟨b, 0, none⟩)] w fun e w' => e = .returned u ∧ w' = w := by
  go_enter Tryd.func22, Tryd.ntmps22
  go_wp2
  go_ret
  exact ⟨rfl, rfl⟩
/-- what errors.As leaves -/
structure AsPost (w : World) (e t : Addr) (w' : World) : Prop where
  cell : w'.cell? t = some (.pointer (some e))
  frozen : w'.frozen? t = false
  nw : ∀ w0, Nw w0 w → w0.heap.size ≤ t.block → Nw w0 w'
theorem as_ch (e t : Addr) (old : Value) (w : World) (hg : Hnd w) (ht0 : w.cell? t = some old) (hf0 : w.frozen? t = false) :
    Calls Tryd.prog 20 #[.iface 41 (.pointer (some e)), .iface 43 (.pointer (some t))] w fun ev w' => ev = .returned (.bool true) ∧ AsPost w e t w' := by
  have hlt : t.block < w.heap.size := World.block_lt_of_cell? _ _ ht0
  refine (as_hit e t old w hg ht0 hf0).mono ?_
  rintro ev w' ⟨rfl, rfl⟩
  exact ⟨rfl, asW_at w e t ht0 hlt, asW_frozen w e t hlt hf0, fun w0 h0 hs => asW_wrt h0 e hs⟩
theorem opens_long (n : Int) (l : List Int) (v : Value) (S : Nat → Addr) (w : World) (hS : Sen w S) (hg : Hnd w) (hl : ¬ l.length ≤ 40) (hv : Rd w v l) :
    Calls Tryd.prog 7 #[.int .i64 n, v] w fun e w' => e = .returned (.bool true) ∧ Nw w w' := by
  have haw := awake_walk S w hS hg
  have hle : (40 : Int) < (l.length : Int) := by omega
  obtain ⟨A, c, rfl, -, -, -⟩ := hv.at_
  clear hS hg hv hl
  go_enter Tryd.func7, Tryd.ntmps7
  go_wp2_with (go_at_call 9; (with_reducible refine haw.mono ?_); rintro ev w1 ⟨rfl, hw1⟩)
  go_ret
  exact ⟨rfl, hw1⟩
theorem opens_low (n : Int) (l : List Int) (v : Value) (S : Nat → Addr) (w : World) (hS : Sen w S) (hg : Hnd w) (hl : l.length ≤ 40) (hv : Rd w v l) (hn1 : n < 1) :
    Calls Tryd.prog 7 #[.int .i64 n, v] w fun e w' => e = .returned (.bool true) ∧ Nw w w' := by
  have haw := awake_walk S w hS hg
  have A0 : Aside (Sen w S ∧ Rd w v l ∧ l.length ≤ 40 ∧ ¬ (1 ≤ n ∧ n ≤ 11)) := ⟨hS, hv, hl, fun h => by omega⟩
  have hle : ¬ (40 : Int) < (l.length : Int) := by omega
  obtain ⟨A, c, rfl, -, -, -⟩ := hv.at_
  clear hS hg hv hl
  go_enter Tryd.func7, Tryd.ntmps7
  go_wp2_with (go_at_call 9; (with_reducible refine haw.mono ?_); rintro ev w1 ⟨rfl, hw1⟩)
  have hwr := wrapped_walk n l _ S w1 (A0.out.1.nw hw1) (by have := A0.out.2.2.1; omega) (A0.out.2.1.nw hw1)
  have A1 : Aside (Nw w w1) := hw1
  clear haw hw1
  go_wp2_with (go_at_call 10; (with_reducible refine hwr.mono ?_); intro ev w2 hp2; obtain ⟨v0, rfl, -, hv0, hw2⟩ := hp2; obtain rfl := hv0 A0.out.2.2.2; clear hv0)
  have AW : Aside (Nw w w2) := A1.out.trans hw2
  clear hwr hw2 A1
  have has := as_nil (.iface 43 (.pointer (some ⟨w2.heap.size, 0, none⟩))) (w2.alloc (.cells #[.pointer none] 41))
  have her := error_walk (.pointer none) (w2.alloc (.cells #[.pointer none] 41))
  have hun := unwrap_nil (w2.alloc (.cells #[.pointer none] 41))
  refine wp_loop_rounds 1 ?_
  rw [rounds_succ]
  go_wp2_with (first
    | (go_at_call 20; (with_reducible refine has.mono ?_); rintro ev w' ⟨rfl, rfl⟩)
    | (go_at_call 21; (with_reducible refine her.mono ?_); rintro ev w' ⟨rfl, rfl⟩)
    | (go_at_call 22; (with_reducible refine hun.mono ?_); rintro ev w' ⟨rfl, rfl⟩))
  all_goals go_ret
  all_goals exact ⟨by simp, AW.out.trans ((Wrt.refl w2 _).alloc _)⟩
theorem opens_high (n : Int) (l : List Int) (v : Value) (S : Nat → Addr) (w : World) (hS : Sen w S) (hg : Hnd w) (hl : l.length ≤ 40) (hv : Rd w v l) (hn1 : ¬ n < 1) (hn2 : 11 < n) :
    Calls Tryd.prog 7 #[.int .i64 n, v] w fun e w' => e = .returned (.bool true) ∧ Nw w w' := by
  have haw := awake_walk S w hS hg
  have A0 : Aside (Sen w S ∧ Rd w v l ∧ l.length ≤ 40 ∧ ¬ (1 ≤ n ∧ n ≤ 11)) := ⟨hS, hv, hl, fun h => by omega⟩
  have hle : ¬ (40 : Int) < (l.length : Int) := by omega
  obtain ⟨A, c, rfl, -, -, -⟩ := hv.at_
  clear hS hg hv hl
  go_enter Tryd.func7, Tryd.ntmps7
  go_wp2_with (go_at_call 9; (with_reducible refine haw.mono ?_); rintro ev w1 ⟨rfl, hw1⟩)
  have hwr := wrapped_walk n l _ S w1 (A0.out.1.nw hw1) (by have := A0.out.2.2.1; omega) (A0.out.2.1.nw hw1)
  have A1 : Aside (Nw w w1) := hw1
  clear haw hw1
  go_wp2_with (go_at_call 10; (with_reducible refine hwr.mono ?_); intro ev w2 hp2; obtain ⟨v0, rfl, -, hv0, hw2⟩ := hp2; obtain rfl := hv0 A0.out.2.2.2; clear hv0)
  have AW : Aside (Nw w w2) := A1.out.trans hw2
  clear hwr hw2 A1
  have has := as_nil (.iface 43 (.pointer (some ⟨w2.heap.size, 0, none⟩))) (w2.alloc (.cells #[.pointer none] 41))
  have her := error_walk (.pointer none) (w2.alloc (.cells #[.pointer none] 41))
  have hun := unwrap_nil (w2.alloc (.cells #[.pointer none] 41))
  refine wp_loop_rounds 1 ?_
  rw [rounds_succ]
  go_wp2_with (first
    | (go_at_call 20; (with_reducible refine has.mono ?_); rintro ev w' ⟨rfl, rfl⟩)
    | (go_at_call 21; (with_reducible refine her.mono ?_); rintro ev w' ⟨rfl, rfl⟩)
    | (go_at_call 22; (with_reducible refine hun.mono ?_); rintro ev w' ⟨rfl, rfl⟩))
  all_goals go_ret
  all_goals exact ⟨by simp, AW.out.trans ((Wrt.refl w2 _).alloc _)⟩
set_option maxHeartbeats 2000000 in
theorem opens_in (n : Int) (l : List Int) (v : Value) (S : Nat → Addr) (w : World) (hS : Sen w S) (hg : Hnd w) (hl : l.length ≤ 40) (hv : Rd w v l) (hn1 : ¬ n < 1) (hn2 : ¬ 11 < n) :
    Calls Tryd.prog 7 #[.int .i64 n, v] w fun e w' => e = .returned (.bool true) ∧ Nw w w' := by
  have haw := awake_walk S w hS hg
  have A0 : Aside (Sen w S ∧ Hnd w ∧ Rd w v l ∧ l.length ≤ 40 ∧ (1 ≤ n ∧ n ≤ 11)) := ⟨hS, hg, hv, hl, by omega⟩
  have hle : ¬ (40 : Int) < (l.length : Int) := by omega
  obtain ⟨A, c, rfl, -, hcm, hA⟩ := hv.at_
  have AA : Aside (∀ k, k < l.length → ∃ ad, A = some ad ∧ w.cell? (ad.add k) = some (.int .i64 (l.getD k 0))) := hA
  clear hS hg hv hl hA hcm
  go_enter Tryd.func7, Tryd.ntmps7
  go_wp2_with (go_at_call 9; (with_reducible refine haw.mono ?_); rintro ev w1 ⟨rfl, hw1⟩)
  have hwr := wrapped_walk n l _ S w1 (A0.out.1.nw hw1) (by have := A0.out.2.2.2.1; omega) (A0.out.2.2.1.nw hw1)
  have A1 : Aside (Nw w w1) := hw1
  clear haw hw1
  go_wp2_with (go_at_call 10; (with_reducible refine hwr.mono ?_); intro ev w2 hp2; obtain ⟨v0, rfl, hv0, -, hw2⟩ := hp2; replace hv0 := hv0 A0.out.2.2.2.2; obtain ⟨T, y, rfl⟩ := hv0.if; have AE : Aside (IsCh w2 (.iface 56 (.pointer (some (S (n - 1).toNat)))) l.reverse (.iface T y)) := hv0; clear hv0)
  have AW : Aside (Nw w w2) := A1.out.trans hw2
  clear hwr hw2 A1
  generalize hx : S (n - 1).toNat = x at AE
  clear hx
  go_loopg [5, 6, 7] l.length (fun k f i p wr => ∃ (m : Nat) (j : Int), m = k ∧ i = .int .i64 j ∧ j = (m : Int) - 1 ∧ m ≤ l.length ∧ Aside (IsCh wr (.iface 56 (.pointer (some x))) (l.take m).reverse f ∧ Nw w wr))
  case atStart => exact ⟨l.length, _, rfl, rfl, rfl, Nat.le_refl _, by rw [List.take_length]; exact AE.out, AW.out⟩
  case round =>
    obtain ⟨m, j, rfl, rfl, hj, hml, hst⟩ := hrel
    cases m with
    | zero =>
      have hj' : j = -1 := by omega
      subst hj'
      have hf : _ = _ := hst.out.1
      subst hf
      have hnw : Nw wr (wr.alloc (.cells #[.pointer none] 41)) := (Wrt.refl _ _).alloc _
      have hct : (wr.alloc (.cells #[.pointer none] 41)).cell? ⟨wr.heap.size, 0, none⟩ = some (.pointer none) := by simp
      have has := as_miss x ⟨wr.heap.size, 0, none⟩ (.pointer none) (wr.alloc (.cells #[.pointer none] 41)) (A0.out.2.1.nw (hst.out.2.trans hnw)) hct
      have AN : Aside (Nw w (wr.alloc (.cells #[.pointer none] 41))) := hst.out.2.trans hnw
      have hn1 : 1 ≤ n := A0.out.2.2.2.2.1
      have hn2 : n ≤ 11 := A0.out.2.2.2.2.2
      clear hst hml hj hnw
      go_wp2_with (first
        | (go_at_call 20; (with_reducible refine has.mono ?_); rintro ev w3 ⟨rfl, hw3⟩; have hc3 := hw3.cell hct; have AN3 : Aside (Nw w w3) := AN.out.trans hw3; have her := error_walk (.pointer none) w3; have hun := unwrap_nil w3; clear hw3)
        | (go_at_call 21; (with_reducible refine her.mono ?_); rintro ev w' ⟨rfl, rfl⟩)
        | (go_at_call 22; (with_reducible refine hun.mono ?_); rintro ev w' ⟨rfl, rfl⟩))
      all_goals go_ret
      all_goals exact ⟨by simp; exact ⟨hn1, hn2⟩, AN3.out⟩
    | succ m =>
      have hlt : m < l.length := by omega
      obtain ⟨ad, rfl, hc1⟩ := AA.out m hlt
      replace hc1 := hst.out.2.cellA hc1
      obtain ⟨p, hp⟩ : ∃ p, p = l.getD m 0 := ⟨_, rfl⟩
      rw [← hp] at hc1
      have hq := hst.out.1
      rw [List.take_succ_eq_append_getElem hlt, List.reverse_append, show l[m] = p by rw [hp]; simp [hlt]] at hq
      obtain ⟨b', u', rfl, hb1, hb2, hq⟩ := hq
      obtain ⟨T', y', rfl⟩ := hq.if
      have hj' : j = (m : Int) := by omega
      subst hj'
      have hnw : Nw wr ((wr.alloc (.cells #[.pointer none] 41)).drew) := Nw.drewN ((Wrt.refl _ _).alloc _) 1
      have hct : ((wr.alloc (.cells #[.pointer none] 41)).drew).cell? ⟨wr.heap.size, 0, none⟩ = some (.pointer none) := by simp
      have hft : ((wr.alloc (.cells #[.pointer none] 41)).drew).frozen? ⟨wr.heap.size, 0, none⟩ = false := by simp
      have has := as_ch ⟨b', 0, none⟩ ⟨wr.heap.size, 0, none⟩ (.pointer none) ((wr.alloc (.cells #[.pointer none] 41)).drew) (A0.out.2.1.nw (hst.out.2.trans hnw)) hct hft
      have AN : Aside (Nw w wr ∧ IsCh wr (.iface 56 (.pointer (some x))) (l.take m).reverse (.iface T' y')) := ⟨hst.out.2, hq⟩
      have hml2 : (m : Int) < (l.length : Int) := by omega
      have hm0 : (0 : Int) ≤ (m : Int) := by omega
      have AH : Aside (Nw wr ((wr.alloc (.cells #[.pointer none] 41)).drew) ∧ wr.cell? ⟨b', 0, none⟩ = some (.int .i64 p) ∧ wr.cell? ⟨b', 1, none⟩ = some (.iface T' y') ∧ wr.cell? (ad.add m) = some (.int .i64 p)) := ⟨hnw, hb1, hb2, hc1⟩
      have hmk : m ≤ l.length := by omega
      clear hst hj hq hp hnw hb1 hb2 hc1 hct hft hlt hml
      go_wp2_with fail
      go_region_with (first
        | (go_at_call 20; (with_reducible refine has.mono ?_); rintro ev w3 ⟨rfl, hw3⟩; have hn3 : Nw wr w3 := hw3.nw wr AH.out.1 (Nat.le_refl _); have hc3 := hw3.cell; have hb3 := hn3.cell AH.out.2.1; have hp3 := hn3.cellA AH.out.2.2.2; have hu3 := hn3.cell AH.out.2.2.1; have her := fun w' => error_walk (.pointer (some ⟨b', 0, none⟩)) w'; have AN3 : Aside (Nw wr w3) := hn3; clear hw3 hn3)
        | (go_at_call 21; (with_reducible refine (her _).mono ?_); rintro ev w' ⟨rfl, rfl⟩))
      all_goals (
        go_wp2_with (go_at_call 22; (with_reducible refine (unwrap_walk _ _ _ hu3).mono ?_); rintro ev w5 ⟨rfl, rfl⟩)
        go_roundg m
        case measure => omega
        case rel => exact ⟨m, _, rfl, rfl, by omega, hmk, AN3.out.ch AN.out.2, AN.out.1.trans AN3.out⟩)
theorem opens_walk (n : Int) (l : List Int) (v : Value) (S : Nat → Addr) (w : World) (hS : Sen w S) (hg : Hnd w) (hv : Rd w v l) :
    Calls Tryd.prog 7 #[.int .i64 n, v] w fun e w' => e = .returned (.bool true) ∧ Nw w w' := by
  by_cases hl : l.length ≤ 40
  · by_cases h1 : n < 1
    · exact opens_low n l v S w hS hg hl hv h1
    · by_cases h2 : 11 < n
      · exact opens_high n l v S w hS hg hl hv h1 h2
      · exact opens_in n l v S w hS hg hl hv h1 h2
  · exact opens_long n l v S w hS hg hl hv
end Go.Proofs.YtkpbbhcdmkmnfaaDoor
