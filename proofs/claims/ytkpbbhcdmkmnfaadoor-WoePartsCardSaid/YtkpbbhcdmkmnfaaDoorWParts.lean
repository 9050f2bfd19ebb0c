/- WoeParts -/
import Derived.Test.YtkpbbhcdmkmnfaaDoorWAwake
import Derived.Deep.RegionHeld3
set_option linter.unusedSimpArgs false
set_option linter.unusedVariables false
namespace Go.Proofs.YtkpbbhcdmkmnfaaDoor
open Go.RowKit Go.Extern.Stop Go.Stop Go.Extern Go.Rex
theorem wparts_long (n : Int) (l l2 : List Int) (v v2 : Value) (S : Nat → Addr) (w : World) (hS : Sen w S) (hg : Hnd w) (hl : ¬ l.length ≤ 40) (hv : Rd w v l) (hv2 : Rd w v2 l2) :
    Calls Tryd.prog 5 #[.int .i64 n, v, v2] w fun e w' => e = .returned (.bool true) ∧ Nw w w' := by
  have haw := awake_walk S w hS hg
  have hle : (40 : Int) < (l.length : Int) := by omega
  obtain ⟨A, c, rfl, -, -, -⟩ := hv.at_
  obtain ⟨A2, c2, rfl, -, -, -⟩ := hv2.at_
  clear hS hg hv hl hv2
  go_enter Tryd.func5, Tryd.ntmps5
  go_wp2_with (go_at_call 9; (with_reducible refine haw.mono ?_); rintro ev w1 ⟨rfl, hw1⟩)
  go_ret
  exact ⟨rfl, hw1⟩
theorem wparts_long2 (n : Int) (l l2 : List Int) (v v2 : Value) (S : Nat → Addr) (w : World) (hS : Sen w S) (hg : Hnd w) (hl : l.length ≤ 40) (hl2 : ¬ l2.length ≤ 40) (hv : Rd w v l) (hv2 : Rd w v2 l2) :
    Calls Tryd.prog 5 #[.int .i64 n, v, v2] w fun e w' => e = .returned (.bool true) ∧ Nw w w' := by
  have haw := awake_walk S w hS hg
  have hle : ¬ (40 : Int) < (l.length : Int) := by omega
  have hle2 : (40 : Int) < (l2.length : Int) := by omega
  obtain ⟨A, c, rfl, -, -, -⟩ := hv.at_
  obtain ⟨A2, c2, rfl, -, -, -⟩ := hv2.at_
  clear hS hg hv hl hv2 hl2
  go_enter Tryd.func5, Tryd.ntmps5
  go_wp2_with (go_at_call 9; (with_reducible refine haw.mono ?_); rintro ev w1 ⟨rfl, hw1⟩)
  go_ret
  exact ⟨rfl, hw1⟩
set_option maxHeartbeats 1000000 in
theorem wparts_out (n : Int) (l l2 : List Int) (v v2 : Value) (S : Nat → Addr) (w : World) (hS : Sen w S) (hg : Hnd w) (hl : l.length ≤ 40) (hl2 : l2.length ≤ 40) (hv : Rd w v l) (hv2 : Rd w v2 l2) (hn : ¬ (1 ≤ n ∧ n ≤ 11)) :
    Calls Tryd.prog 5 #[.int .i64 n, v, v2] w fun e w' => e = .returned (.bool true) ∧ Nw w w' := by
  have haw := awake_walk S w hS hg
  have A0 : Aside (Sen w S ∧ Hnd w ∧ Rd w v l ∧ Rd w v2 l2 ∧ ¬ (1 ≤ n ∧ n ≤ 11) ∧ l.length ≤ 40 ∧ l2.length ≤ 40) := ⟨hS, hg, hv, hv2, hn, hl, hl2⟩
  have hle : ¬ (40 : Int) < (l.length : Int) := by omega
  have hle2 : ¬ (40 : Int) < (l2.length : Int) := by omega
  obtain ⟨A, c, rfl, -, -, -⟩ := hv.at_
  obtain ⟨A2, c2, rfl, -, hcm2, hA2⟩ := hv2.at_
  have AA : Aside (∀ k, k < l2.length → ∃ ad, A2 = some ad ∧ w.cell? (ad.add k) = some (.int .i64 (l2.getD k 0))) := hA2
  clear hS hg hv hl hv2 hl2 hA2 hcm2 hn
  go_enter Tryd.func5, Tryd.ntmps5
  go_wp2_with (go_at_call 9; (with_reducible refine haw.mono ?_); rintro ev w1 ⟨rfl, hw1⟩)
  have hwr := wrapped_walk n l _ S w1 (A0.out.1.nw hw1) (by have := A0.out.2.2.2.2.2.1; omega) (A0.out.2.2.1.nw hw1)
  have A1 : Aside (Nw w w1) := hw1
  clear haw hw1
  go_wp2_with (go_at_call 10; (with_reducible refine hwr.mono ?_); intro ev w2 hp2; obtain ⟨v0, rfl, -, hv0, hw2⟩ := hp2; obtain rfl := hv0 A0.out.2.2.2.2.1; clear hv0)
  have AW : Aside (Nw w w2) := A1.out.trans hw2
  clear hwr hw2 A1
  go_loopg [8, 9] l2.length (fun k f i wr => f = .nilIface ∧ (∃ m : Nat, i = .int .i64 m ∧ m + k = l2.length) ∧ Nw w2 wr)
  case atStart => exact ⟨rfl, ⟨0, rfl, by omega⟩, Wrt.refl w2 _⟩
  case round =>
    obtain ⟨rfl, ⟨m, rfl, hm⟩, hnw⟩ := hrel
    rcases Nat.lt_or_ge m l2.length with hlt | hge
    · obtain ⟨ad, rfl, hc1⟩ := AA.out m hlt
      replace hc1 := (AW.out.trans hnw).cellA hc1
      obtain ⟨p, hp⟩ : ∃ p, p = l2.getD m 0 := ⟨_, rfl⟩
      rw [← hp] at hc1
      have h1 : (m : Int) < (l2.length : Int) := by omega
      have hat := at_nil p wr
      have A3 : Aside (m + gk = l2.length ∧ Nw w2 wr) := ⟨hm, hnw⟩
      clear hm hp hnw
      go_wp2_with (go_at_call 18; (with_reducible refine hat.mono ?_); rintro ev w3 ⟨rfl, rfl⟩)
      obtain ⟨q1, q2⟩ := A3.out
      go_roundg (gk - 1)
      case measure => omega
      case rel => exact ⟨rfl, ⟨m + 1, by go_num, by omega⟩, q2⟩
    · have h1 : ¬ (m : Int) < (l2.length : Int) := by omega
      have A3 : Aside (Nw w2 wr) := hnw
      clear hm hnw
      go_wp2
      go_ret
      exact ⟨by simp, AW.out.trans A3.out⟩
/-- the tail of a slice -/
theorem Rd.drop {w : World} {A : Option Addr} {c : Nat} {l : List Int} (h : Rd w (.slice A l.length c) l) (k : Nat) (hk : k ≤ l.length) : Rd w (.slice (if c = k then A else A.map (·.add k)) (l.length - k) (c - k)) (l.drop k) := by
  obtain ⟨A', c', h1, h2, h3, h4⟩ := h
  injection h1 with e1 e2 e3
  subst e1 e3
  refine ⟨_, _, by rw [List.length_drop], by rw [List.length_drop]; omega, by omega, fun hl => ?_⟩
  rw [List.length_drop] at hl
  obtain ⟨ad, rfl, h6⟩ := h4 (by omega)
  rw [if_neg (by omega)]
  refine ⟨ad.add k, rfl, fun j x hj => ?_⟩
  rw [List.getElem?_drop] at hj
  have := h6 (k + j) x hj
  rw [show (ad.add k).add j = ad.add (k + j) from ?_]
  · exact this
  · unfold Addr.add
    by_cases hi : k = 0 <;> by_cases hj : j = 0 <;> simp [hi, hj, Nat.add_assoc]
theorem Rd.take {w : World} {A : Option Addr} {c : Nat} {l : List Int} (h : Rd w (.slice A l.length c) l) (k : Nat) (hk : k ≤ l.length) : Rd w (.slice A k c) (l.take k) := by
  obtain ⟨A', c', h1, h2, h3, h4⟩ := h
  injection h1 with e1 e2 e3
  subst e1 e3
  have hlen : (l.take k).length = k := by rw [List.length_take]; omega
  refine ⟨A, c, by rw [hlen], by omega, h3, fun hl => ?_⟩
  obtain ⟨ad, rfl, h6⟩ := h4 (by omega)
  refine ⟨ad, rfl, fun j x hj => h6 j x ?_⟩
  rw [List.getElem?_take] at hj
  split at hj
  · exact hj
  · cases hj
set_option maxHeartbeats 2000000 in
theorem wparts_in (n : Int) (l l2 : List Int) (v v2 : Value) (S : Nat → Addr) (w : World) (hS : Sen w S) (hg : Hnd w) (hl : l.length ≤ 40) (hl2 : l2.length ≤ 40) (hv : Rd w v l) (hv2 : Rd w v2 l2) (hn : 1 ≤ n ∧ n ≤ 11) :
    Calls Tryd.prog 5 #[.int .i64 n, v, v2] w fun e w' => e = .returned (.bool true) ∧ Nw w w' := by
  have haw := awake_walk S w hS hg
  have A0 : Aside (Sen w S ∧ Hnd w ∧ Rd w v l ∧ Rd w v2 l2 ∧ (1 ≤ n ∧ n ≤ 11) ∧ l.length ≤ 40 ∧ l2.length ≤ 40) := ⟨hS, hg, hv, hv2, hn, hl, hl2⟩
  have hle : ¬ (40 : Int) < (l.length : Int) := by omega
  have hle2 : ¬ (40 : Int) < (l2.length : Int) := by omega
  obtain ⟨A, c, rfl, -, -, -⟩ := hv.at_
  obtain ⟨A2, c2, rfl, -, hcm2, hA2⟩ := hv2.at_
  have AA : Aside (∀ k, k < l2.length → ∃ ad, A2 = some ad ∧ w.cell? (ad.add k) = some (.int .i64 (l2.getD k 0))) := hA2
  clear hS hg hv hl hv2 hl2 hA2 hcm2 hn
  go_enter Tryd.func5, Tryd.ntmps5
  go_wp2_with (go_at_call 9; (with_reducible refine haw.mono ?_); rintro ev w1 ⟨rfl, hw1⟩)
  have hwr := wrapped_walk n l _ S w1 (A0.out.1.nw hw1) (by have := A0.out.2.2.2.2.2.1; omega) (A0.out.2.2.1.nw hw1)
  have A1 : Aside (Nw w w1) := hw1
  clear haw hw1
  go_wp2_with (go_at_call 10; (with_reducible refine hwr.mono ?_); intro ev w2 hp2; obtain ⟨v0, rfl, hv0, -, hw2⟩ := hp2; replace hv0 := hv0 A0.out.2.2.2.2.1; obtain ⟨T, y, rfl⟩ := hv0.if; have AE : Aside (IsCh w2 (.iface 56 (.pointer (some (S (n - 1).toNat)))) l.reverse (.iface T y)) := hv0; clear hv0)
  have AW : Aside (Nw w w2) := A1.out.trans hw2
  clear hwr hw2 A1
  go_loopg [8, 9] l2.length (fun k f i wr => ∃ m : Nat, i = .int .i64 m ∧ m + k = l2.length ∧ Aside (IsCh wr (.iface 56 (.pointer (some (S (n - 1).toNat)))) ((l2.take m).reverse ++ l.reverse) f ∧ Nw w2 wr))
  case atStart => exact ⟨0, rfl, by omega, AE.out, Wrt.refl w2 _⟩
  case round =>
    obtain ⟨m, rfl, hm, hst⟩ := hrel
    obtain ⟨T2, y2, rfl⟩ := hst.out.1.if
    rcases Nat.lt_or_ge m l2.length with hlt | hge
    · obtain ⟨ad, rfl, hc1⟩ := AA.out m hlt
      replace hc1 := (AW.out.trans hst.out.2).cellA hc1
      obtain ⟨p, hp⟩ : ∃ p, p = l2.getD m 0 := ⟨_, rfl⟩
      rw [← hp] at hc1
      have h1 : (m : Int) < (l2.length : Int) := by omega
      have hat := at_walk p T2 y2 wr
      have A3 : Aside (m + gk = l2.length ∧ p = l2.getD m 0) := ⟨hm, hp⟩
      clear hm hp
      go_wp2_with (go_at_call 18; (with_reducible refine hat.mono ?_); rintro ev w3 ⟨rfl, rfl⟩)
      obtain ⟨q1, q2⟩ := A3.out
      go_roundg (gk - 1)
      case measure => omega
      case rel =>
        have hn : Nw wr (wr.alloc (.cells #[.int .i64 p, .iface T2 y2] 45)) := (Wrt.refl wr _).alloc _
        refine ⟨m + 1, by go_num, by omega, ?_, hst.out.2.trans hn⟩
        rw [List.take_succ_eq_append_getElem hlt, List.reverse_append]
        have e : l2[m] = p := by rw [q2]; simp [hlt]
        rw [e]
        exact ⟨wr.heap.size, .iface T2 y2, rfl, by simp, by simp, hn.ch hst.out.1⟩
    · have h1 : ¬ (m : Int) < (l2.length : Int) := by omega
      have hfull : l2.take m = l2 := List.take_of_length_le hge
      rw [hfull] at hst
      have hpa := path_walk (l2.reverse ++ l.reverse) (.iface T2 y2) (S (n - 1).toNat) wr (by have := A0.out.2.2.2.2.2; simp; omega) (A0.out.2.1.nw (AW.out.trans hst.out.2)) hst.out.1
      clear hm hfull
      go_wp2_with (go_at_call 13; (with_reducible refine hpa.mono ?_); intro ev w3 hp3; obtain ⟨v3, rfl, hr3, hw3⟩ := hp3; obtain ⟨A3, c3, rfl, hl3, -, -⟩ := hr3.at_; have AR : Aside (Rd w3 (.slice A3 (l2.reverse ++ l.reverse).length c3) (l2.reverse ++ l.reverse)) := hr3; clear hr3; have hln : (l2.reverse ++ l.reverse).length = l.length + l2.length := (by simp; omega); rw [hln]; rw [hln] at hl3; have AL : Aside ((l2.reverse ++ l.reverse).length = l.length + l2.length) := hln; clear hln)
      have ACH : Aside (IsCh w3 (.iface 56 (.pointer (some (S (n - 1).toNat)))) (l2.reverse ++ l.reverse) (.iface T2 y2) ∧ IsCh w3 (.iface 56 (.pointer (some (S (n - 1).toNat)))) l.reverse (.iface T y) ∧ Nw w w3) := ⟨hw3.ch hst.out.1, (hst.out.2.trans hw3).ch AE.out, AW.out.trans (hst.out.2.trans hw3)⟩
      have hcf : Calls Tryd.prog 12 #[.iface T2 y2] w3 fun e w' => e = .returned (.int .i64 n) ∧ Nw w3 w' := by
        have hq := A0.out.2.2.2.2.1
        have := code_at _ (.iface T2 y2) (n - 1).toNat S w3 (by omega) (A0.out.1.nw ACH.out.2.2) ACH.out.1
        rwa [show ((n - 1).toNat : Int) + 1 = n by omega] at this
      clear hst hpa hw3 AE
      go_wp2_with (go_at_call 12; (with_reducible refine hcf.mono ?_); rintro ev w4 ⟨rfl, hw4⟩)
      have hce : Calls Tryd.prog 12 #[.iface T y] w4 fun e w' => e = .returned (.int .i64 n) ∧ Nw w4 w' := by
        have hq := A0.out.2.2.2.2.1
        have := code_at _ (.iface T y) (n - 1).toNat S w4 (by omega) (A0.out.1.nw (ACH.out.2.2.trans hw4)) (hw4.ch ACH.out.2.1)
        rwa [show ((n - 1).toNat : Int) + 1 = n by omega] at this
      have A5 : Aside (Nw w3 w4) := hw4
      clear hw4 hcf
      go_wp2_with (go_at_call 12; (with_reducible refine hce.mono ?_); rintro ev w5 ⟨rfl, hw5⟩)
      have A6 : Aside (Nw w3 w5) := A5.out.trans hw5
      clear A5 hce hw5
      have hpe : ∀ w', Nw w5 w' → Calls Tryd.prog 13 #[.iface T y] w' (PathPost w' l.reverse) := fun w' h =>
        path_walk l.reverse (.iface T y) (S (n - 1).toNat) w' (by have := A0.out.2.2.2.2.2; simp; omega) (A0.out.2.1.nw (ACH.out.2.2.trans (A6.out.trans h))) ((A6.out.trans h).ch ACH.out.2.1)
      have hbk : ∀ w', Nw w5 w' → Calls Tryd.prog 15 #[.slice A2 l2.length c2] w' fun e w'' => Aside (∃ v', e = .returned v' ∧ Rd w'' v' l2.reverse ∧ Nw w' w'') := fun w' h =>
        back_walk l2 _ w' (by have := A0.out.2.2.2.2.2; omega) (A0.out.2.2.2.1.nw (ACH.out.2.2.trans (A6.out.trans h)))
      have hdr : ∀ w', Nw w5 w' → Rd w' (.slice (if c3 = l2.length then A3 else A3.map (·.add l2.length)) l.length (c3 - l2.length)) l.reverse := fun w' h => by
        have := (AR.out.nw (A6.out.trans h)).drop l2.length (by rw [AL.out]; omega)
        rw [AL.out] at this
        rw [show l.length + l2.length - l2.length = l.length by omega] at this
        rwa [show (l2.reverse ++ l.reverse).drop l2.length = l.reverse from List.drop_left' (by simp)] at this
      have htk : ∀ w', Nw w5 w' → Rd w' (.slice A3 l2.length c3) l2.reverse := fun w' h => by
        have := (AR.out.nw (A6.out.trans h)).take l2.length (by rw [AL.out]; omega)
        rwa [show (l2.reverse ++ l.reverse).take l2.length = l2.reverse from List.take_left' (by simp)] at this
      have hb1 : (l2.length : Int) ≤ (l.length : Int) + (l2.length : Int) := by omega
      have hb2 : l2.length ≤ l.length + l2.length := by omega
      have hb3 : l2.length ≤ c3 := by omega
      have hb4 : (0 : Int) ≤ (l2.length : Int) := by omega
      have hb5 : (l2.length : Int) ≤ (c3 : Int) := by omega
      have AN5 : Aside (Nw w w5) := ACH.out.2.2.trans A6.out
      by_cases hcap : c3 = l2.length
      · have hz : c3 - l2.length = 0 := by omega
        simp only [if_pos hcap, hz] at hdr
        simp only [hcap] at htk
        clear hz
        go_region_held3 (fun w' => Nw w5 w') (first | assumption | exact (Nw.trans (by assumption) (by assumption)) | exact Nw.drewN (Wrt.refl _ _) 1)
          (first
            | (go_at_call 13; (with_reducible refine (hpe _ (by assumption)).mono ?_); intro ev w6 hp6; obtain ⟨v6, rfl, hr6, hw6⟩ := hp6; obtain ⟨A6, c6, rfl, _, _, _⟩ := hr6.at_; simp only [List.length_reverse] at hr6)
            | (go_at_call 15; (with_reducible refine (hbk _ (by assumption)).mono ?_); intro ev w7 hp7; obtain ⟨v7, rfl, hr7, hw7⟩ := hp7.out; clear hp7; obtain ⟨A7, c7, rfl, _, _, _⟩ := hr7.at_; simp only [List.length_reverse] at hr7)
            | (go_at_call 14; (with_reducible refine (ints_walk _ _ _ _ _ (hdr _ (by assumption)) hr6).mono ?_); rintro ev w8 ⟨rfl, hw8⟩)
            | (go_at_call 14; (with_reducible refine (ints_walk _ _ _ _ _ (htk _ (by assumption)) hr7).mono ?_); rintro ev w9 ⟨rfl, hw9⟩))
        go_wp2
        go_ret
        exact ⟨by simp, AN5.out.trans (by assumption)⟩
      · simp only [if_neg hcap] at hdr
        go_region_held3 (fun w' => Nw w5 w') (first | assumption | exact (Nw.trans (by assumption) (by assumption)) | exact Nw.drewN (Wrt.refl _ _) 1)
          (first
            | (go_at_call 13; (with_reducible refine (hpe _ (by assumption)).mono ?_); intro ev w6 hp6; obtain ⟨v6, rfl, hr6, hw6⟩ := hp6; obtain ⟨A6, c6, rfl, _, _, _⟩ := hr6.at_; simp only [List.length_reverse] at hr6)
            | (go_at_call 15; (with_reducible refine (hbk _ (by assumption)).mono ?_); intro ev w7 hp7; obtain ⟨v7, rfl, hr7, hw7⟩ := hp7.out; clear hp7; obtain ⟨A7, c7, rfl, _, _, _⟩ := hr7.at_; simp only [List.length_reverse] at hr7)
            | (go_at_call 14; (with_reducible refine (ints_walk _ _ _ _ _ (hdr _ (by assumption)) hr6).mono ?_); rintro ev w8 ⟨rfl, hw8⟩)
            | (go_at_call 14; (with_reducible refine (ints_walk _ _ _ _ _ (htk _ (by assumption)) hr7).mono ?_); rintro ev w9 ⟨rfl, hw9⟩))
        go_wp2
        go_ret
        exact ⟨by simp, AN5.out.trans (by assumption)⟩
theorem wparts_walk (n : Int) (l l2 : List Int) (v v2 : Value) (S : Nat → Addr) (w : World) (hS : Sen w S) (hg : Hnd w) (hv : Rd w v l) (hv2 : Rd w v2 l2) :
    Calls Tryd.prog 5 #[.int .i64 n, v, v2] w fun e w' => e = .returned (.bool true) ∧ Nw w w' := by
  by_cases hl : l.length ≤ 40
  · by_cases hl2 : l2.length ≤ 40
    · by_cases hn : 1 ≤ n ∧ n ≤ 11
      · exact wparts_in n l l2 v v2 S w hS hg hl hl2 hv hv2 hn
      · exact wparts_out n l l2 v v2 S w hS hg hl hl2 hv hv2 hn
    · exact wparts_long2 n l l2 v v2 S w hS hg hl hl2 hv hv2
  · exact wparts_long n l l2 v v2 S w hS hg hl hv hv2
end Go.Proofs.YtkpbbhcdmkmnfaaDoor
