/- WoeStrange -/
import Derived.Test.YtkpbbhcdmkmnfaaDoorWAwake
set_option linter.unusedSimpArgs false
set_option linter.unusedVariables false
namespace Go.Proofs.YtkpbbhcdmkmnfaaDoor
open Go.RowKit Go.Extern.Stop Go.Stop Go.Extern Go.Rex
theorem new_walk (s : ByteArray) (w : World) : Calls Tryd.prog 19 #[.string s] w fun e w' => e = .returned (.iface 56 (.pointer (some ⟨w.heap.size, 0, none⟩))) ∧ w' = w.alloc (.cells #[.string s] 58) := by
  go_enter Tryd.func19, Tryd.ntmps19
  go_wp2
  go_ret
  exact ⟨rfl, rfl⟩
theorem code_none (ps : List Int) (v : Value) (x : Addr) (S : Nat → Addr) (w : World) (hx : IsSen w x) (hne : ∀ k, k < 11 → x ≠ S k) (hS : Sen w S) (hv : IsCh w (.iface 56 (.pointer (some x))) ps v) :
    Calls Tryd.prog 12 #[v] w fun e w' => e = .returned (.int .i64 (-1)) ∧ Nw w w' := by
  refine (code_walk ps v x S w hS hv hx).mono ?_
  rintro e w' ⟨⟨c, hc, rfl⟩, hw⟩
  rcases hc with ⟨j, hj, he, rfl⟩ | ⟨h, rfl⟩
  · exact absurd he (hne j hj)
  · exact ⟨rfl, hw⟩
theorem strange_long (l : List Int) (v : Value) (S : Nat → Addr) (w : World) (hS : Sen w S) (hg : Hnd w) (hl : ¬ l.length ≤ 40) (hv : Rd w v l) :
    Calls Tryd.prog 6 #[v] w fun e w' => e = .returned (.bool true) ∧ Nw w w' := by
  have haw := awake_walk S w hS hg
  have hle : (40 : Int) < (l.length : Int) := by omega
  obtain ⟨A, c, rfl, -, -, -⟩ := hv.at_
  clear hS hg hv hl
  go_enter Tryd.func6, Tryd.ntmps6
  go_wp2_with (go_at_call 9; (with_reducible refine haw.mono ?_); rintro ev w1 ⟨rfl, hw1⟩)
  go_ret
  exact ⟨rfl, hw1⟩
/-- what the end of WoeStrange wants -/
structure Stg (S : Nat → Addr) (w : World) (x : Addr) (l : List Int) (f : Value) (wr : World) : Prop where
  nw : Nw w wr
  sen : IsSen wr x
  ne : ∀ k, k < 11 → x ≠ S k
  ch : IsCh wr (.iface 56 (.pointer (some x))) l f
theorem Stg.nw' {S : Nat → Addr} {w : World} {x : Addr} {l : List Int} {f : Value} {w1 w2 : World} (h : Stg S w x l f w1) (hn : Nw w1 w2) : Stg S w x l f w2 := ⟨h.nw.trans hn, hn.sen h.sen, h.ne, hn.ch h.ch⟩
set_option maxHeartbeats 1000000 in
theorem strange_short (l : List Int) (v : Value) (S : Nat → Addr) (w : World) (hS : Sen w S) (hg : Hnd w) (hl : l.length ≤ 40) (hv : Rd w v l) :
    Calls Tryd.prog 6 #[v] w fun e w' => e = .returned (.bool true) ∧ Nw w w' := by
  have haw := awake_walk S w hS hg
  have A0 : Aside (Sen w S ∧ Hnd w ∧ Rd w v l ∧ l.length ≤ 40) := ⟨hS, hg, hv, hl⟩
  have hle : ¬ (40 : Int) < (l.length : Int) := by omega
  obtain ⟨A, c, rfl, hlc, hcm, hA⟩ := hv.at_
  clear hS hg hv hl hcm
  have AA : Aside (∀ k, k < l.length → ∃ ad, A = some ad ∧ w.cell? (ad.add k) = some (.int .i64 (l.getD k 0))) := hA
  clear hA
  go_enter Tryd.func6, Tryd.ntmps6
  go_wp2_with (go_at_call 9; (with_reducible refine haw.mono ?_); rintro ev w1 ⟨rfl, hw1⟩)
  have A1 : Aside (Nw w w1) := hw1
  clear haw hw1
  go_wp2_with (go_at_call 19; refine (new_walk _ w1).mono ?_; rintro ev w2 ⟨rfl, hw2⟩; obtain ⟨x, hx⟩ : ∃ x : Addr, x = ⟨w1.heap.size, 0, none⟩ := ⟨_, rfl⟩; rw [← hx]; have A2 : Aside (∃ s, w2 = w1.alloc (.cells #[.string s] 58) ∧ x = ⟨w1.heap.size, 0, none⟩) := ⟨_, hw2, hx⟩; clear hw2 hx)
  have AG : Aside (Stg S w x [] (.iface 56 (.pointer (some x))) w2) := by
    obtain ⟨s, rfl, rfl⟩ := A2.out
    refine ⟨A1.out.trans ((Wrt.refl w1 _).alloc _), ⟨_, _, heap_alloc_new w1 _⟩, fun k hk he => ?_, rfl⟩
    obtain ⟨c, t, hb⟩ := (A0.out.1.nw A1.out).sen k hk
    rw [← he] at hb
    simp at hb
  clear A2 A1
  go_loopg [4, 5] l.length (fun k f i wr => ∃ m : Nat, i = .int .i64 m ∧ m + k = l.length ∧ Aside (Stg S w x (l.take m).reverse f wr ∧ Nw w2 wr))
  case atStart => exact ⟨0, rfl, by omega, AG.out, Wrt.refl w2 _⟩
  case round =>
    obtain ⟨m, rfl, hm, hst⟩ := hrel
    rcases Nat.lt_or_ge m l.length with hlt | hge
    · obtain ⟨ad, rfl, hc1⟩ := AA.out m hlt
      replace hc1 := hst.out.1.nw.cellA hc1
      obtain ⟨T, y, rfl⟩ := hst.out.1.ch.if
      obtain ⟨p, hp⟩ : ∃ p, p = l.getD m 0 := ⟨_, rfl⟩
      rw [← hp] at hc1
      have h1 : (m : Int) < (l.length : Int) := by omega
      have hat := at_walk p T y wr
      have A2 : Aside (m + gk = l.length ∧ p = l.getD m 0) := ⟨hm, hp⟩
      clear hm hp
      go_wp2_with (go_at_call 18; (with_reducible refine hat.mono ?_); rintro ev w3 ⟨rfl, rfl⟩)
      obtain ⟨q1, q2⟩ := A2.out
      go_roundg (gk - 1)
      case measure => omega
      case rel =>
        refine ⟨m + 1, by go_num, by omega, ?_⟩
        have hn : Nw wr (wr.alloc (.cells #[.int .i64 p, .iface T y] 45)) := (Wrt.refl wr _).alloc _
        have q3 := hst.out.1.nw' hn
        refine ⟨⟨q3.nw, q3.sen, q3.ne, ?_⟩, hst.out.2.trans hn⟩
        rw [List.take_succ_eq_append_getElem hlt, List.reverse_append]
        have e : l[m] = p := by rw [q2]; simp [hlt]
        rw [e]
        exact ⟨wr.heap.size, .iface T y, rfl, by simp, by simp, q3.ch⟩
    · have h1 : ¬ (m : Int) < (l.length : Int) := by omega
      obtain ⟨T, y, rfl⟩ := hst.out.1.ch.if
      have hfull : (l.take m).reverse = l.reverse := by rw [List.take_of_length_le hge]
      rw [hfull] at hst
      have hm' : Aside (m + gk = l.length) := hm
      have hc0 := code_none [] (.iface 56 (.pointer (some x))) x S wr hst.out.1.sen hst.out.1.ne (A0.out.1.nw hst.out.1.nw) rfl
      clear hm hfull
      go_wp2_with (go_at_call 12; (with_reducible refine hc0.mono ?_); rintro ev w3 ⟨rfl, hw3⟩)
      have hs3 : Aside (Stg S w x l.reverse (.iface T y) w3) := hst.out.1.nw' hw3
      have hc1 := code_none l.reverse (.iface T y) x S w3 hs3.out.sen hs3.out.ne (A0.out.1.nw hs3.out.nw) hs3.out.ch
      clear hst hc0 hw3
      go_wp2_with (go_at_call 12; (with_reducible refine hc1.mono ?_); rintro ev w4 ⟨rfl, hw4⟩)
      have hs4 : Aside (Stg S w x l.reverse (.iface T y) w4) := hs3.out.nw' hw4
      have hi1 : Calls Tryd.prog 16 #[.iface T y, .iface 56 (.pointer (some x))] w4 fun e w' => e = .returned (.bool true) ∧ w' = w4 :=
        (is_ch l.reverse _ x x w4 hs4.out.ch hs4.out.sen hs4.out.sen).mono fun e w' h => ⟨h.1.trans (by simp), h.2⟩
      have hne : ¬ x = S 0 := hs4.out.ne 0 (by decide)
      have hi2 : Calls Tryd.prog 16 #[.iface T y, .iface 56 (.pointer (some (S 0)))] w4 fun e w' => e = .returned (.bool false) ∧ w' = w4 :=
        (is_ch l.reverse _ x (S 0) w4 hs4.out.ch hs4.out.sen ((A0.out.1.nw hs4.out.nw).sen 0 (by decide))).mono fun e w' h => ⟨h.1.trans (by simp [hne]), h.2⟩
      have hg0 := (A0.out.1.nw hs4.out.nw).cell 0 (by decide)
      have hpa := path_walk l.reverse (.iface T y) x w4 (by have := A0.out.2.2.2; simp; omega) (A0.out.2.1.nw hs4.out.nw) hs4.out.ch
      clear hs3 hc1 hw4 hne
      go_wp2_with (first
        | (go_at_call 16; (with_reducible refine hi1.mono ?_); rintro ev w7 ⟨rfl, rfl⟩)
        | (go_at_call 16; (with_reducible refine hi2.mono ?_); rintro ev w7 ⟨rfl, rfl⟩)
        | (go_at_call 13; (with_reducible refine hpa.mono ?_); intro ev w5 hp5; obtain ⟨v5, rfl, hr5, hw5⟩ := hp5))
      have hba := back_walk l _ w5 (by have := A0.out.2.2.2; omega) (A0.out.2.2.1.nw (hs4.out.nw.trans hw5))
      have A6 : Aside (Nw w w5 ∧ Rd w5 v5 l.reverse) := ⟨hs4.out.nw.trans hw5, hr5⟩
      clear hpa hr5 hw5 hi1 hi2 hs4
      go_wp2_with (go_at_call 15; (with_reducible refine hba.mono ?_); intro ev w6 hp6; obtain ⟨v6, rfl, hr6, hw6⟩ := hp6.out; clear hp6)
      have hin : Calls Tryd.prog 14 #[v5, v6] w6 fun e w' => e = .returned (.bool true) ∧ Nw w6 w' := (ints_walk l.reverse l.reverse v5 v6 w6 (A6.out.2.nw hw6) hr6).mono fun e w' h => ⟨h.1.trans (by simp), h.2⟩
      have A7 : Aside (Nw w w6) := A6.out.1.trans hw6
      clear A6 hba hr6 hw6
      go_wp2_with (go_at_call 14; (with_reducible refine hin.mono ?_); rintro ev w7 ⟨rfl, hw7⟩)
      have hpn := path_nil w7
      have A8 : Aside (Nw w w7) := A7.out.trans hw7
      clear A7 hin hw7
      go_wp2_with (go_at_call 13; (with_reducible refine hpn.mono ?_); intro ev w8 hp8; obtain ⟨v8, rfl, hr8, hw8⟩ := hp8; obtain ⟨A8', c8, rfl, -, -, -⟩ := hr8.at_; clear hr8)
      go_ret
      exact ⟨by simp, A8.out.trans hw8⟩
theorem strange_walk (l : List Int) (v : Value) (S : Nat → Addr) (w : World) (hS : Sen w S) (hg : Hnd w) (hv : Rd w v l) :
    Calls Tryd.prog 6 #[v] w fun e w' => e = .returned (.bool true) ∧ Nw w w' := by
  by_cases hl : l.length ≤ 40
  · exact strange_short l v S w hS hg hl hv
  · exact strange_long l v S w hS hg hl hv
end Go.Proofs.YtkpbbhcdmkmnfaaDoor
