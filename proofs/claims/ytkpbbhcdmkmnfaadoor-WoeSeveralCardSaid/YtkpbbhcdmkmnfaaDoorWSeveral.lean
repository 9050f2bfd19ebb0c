/- WoeSeveral -/
import Derived.Test.YtkpbbhcdmkmnfaaDoorWSevG
import Derived.Test.YtkpbbhcdmkmnfaaDoorWJoin
set_option linter.unusedSimpArgs false
set_option linter.unusedVariables false
namespace Go.Proofs.YtkpbbhcdmkmnfaaDoor
open Go.RowKit Go.Extern.Stop Go.Stop Go.Extern Go.Rex
theorem several_long (n m : Int) (l : List Int) (v : Value) (S : Nat → Addr) (w : World) (hS : Sen w S) (hg : Hnd w) (hl : ¬ l.length ≤ 20) (hv : Rd w v l) :
    Calls Tryd.prog 8 #[.int .i64 n, .int .i64 m, v] w fun e w' => e = .returned (.bool true) ∧ Nw w w' := by
  have haw := awake_walk S w hS hg
  have hle : (20 : Int) < (l.length : Int) := by omega
  obtain ⟨A, c, rfl, -, -, -⟩ := hv.at_
  clear hS hg hv hl
  go_enter Tryd.func8, Tryd.ntmps8
  go_wp2_with (go_at_call 9; (with_reducible refine haw.mono ?_); rintro ev w1 ⟨rfl, hw1⟩)
  go_ret
  exact ⟨rfl, hw1⟩
theorem codeL2 {S : Nat → Addr} (h1 : ∀ i j, i < 11 → j < 11 → S i = S j → i = j) {i j : Nat} (hi : i < 11) (hj : j < 11) {c : Int} (h : isCodeL S (fun t => decide (S i = t) || decide (S j = t)) c) : c = ((min i j : Nat) : Int) + 1 := by
  rcases h with ⟨k, hk, hL, hno, rfl⟩ | ⟨hno, -⟩
  · have hk2 : i = k ∨ j = k := by
      rcases Bool.or_eq_true_iff.1 hL with h | h
      · exact .inl (h1 i k hi hk (of_decide_eq_true h))
      · exact .inr (h1 j k hj hk (of_decide_eq_true h))
    have h2 : ¬ i < k := fun h => by have := hno i h; simp at this
    have h3 : ¬ j < k := fun h => by have := hno j h; simp at this
    omega
  · have := hno i hi
    simp at this
theorem codeL1 {S : Nat → Addr} (h1 : ∀ i j, i < 11 → j < 11 → S i = S j → i = j) {x : Addr} (hx : ∀ k, k < 11 → x ≠ S k) {j : Nat} (hj : j < 11) {c : Int} (h : isCodeL S (fun t => decide (x = t) || decide (S j = t)) c) : c = (j : Int) + 1 := by
  rcases h with ⟨k, hk, hL, hno, rfl⟩ | ⟨hno, -⟩
  · rcases Bool.or_eq_true_iff.1 hL with h | h
    · exact absurd (of_decide_eq_true h) (hx k hk)
    · rw [h1 j k hj hk (of_decide_eq_true h)]
  · have := hno j hj
    simp at this
theorem modE (n : Int) : ∃ i : Nat, i < 11 ∧ wrap64 (1 + wrap64 ((IntKind.u64.wrap n).tmod 11)) = (i : Int) + 1 := by
  have h : IntKind.u64.wrap n = n % 18446744073709551616 := by
    simp [IntKind.wrap, IntKind.signed, IntKind.bits]
  rw [h]
  have h0 : 0 ≤ n % 18446744073709551616 := Int.emod_nonneg _ (by decide)
  generalize n % 18446744073709551616 = r at *
  rw [Int.tmod_eq_emod_of_nonneg h0]
  refine ⟨(r % 11).toNat, by omega, ?_⟩
  unfold wrap64
  omega
theorem sen_calls (i : Nat) (hi : i < 11) (S : Nat → Addr) (w : World) (hS : Sen w S) : Calls Tryd.prog 17 #[.int .i64 ((i : Int) + 1)] w fun e w' => e = .returned (.iface 56 (.pointer (some (S i)))) ∧ w' = w := by
  have h := of_walk ((i : Int) + 1) S w hS
  have e := ofV_at S (n := i + 1) ⟨by omega, by omega⟩
  rw [show i + 1 - 1 = i by omega] at e
  rw [show (((i + 1 : Nat) : Int)) = (i : Int) + 1 by omega] at e
  rw [e] at h
  exact h
/-- what stands once the errors are laid -/
structure Sev (w : World) (S : Nat → Addr) (i j : Nat) (e f : Value) (wr : World) : Prop where
  nw : Nw w wr
  ise : Is27 wr (fun t => decide (S i = t) || decide (S j = t)) e
  isf : Is27 wr (fun t => decide (S i = t) || decide (S j = t)) f
theorem Sev.nw' {w : World} {S : Nat → Addr} {i j : Nat} {e f : Value} {w1 w2 : World} (h : Sev w S i j e f w1) (hn : Nw w1 w2) : Sev w S i j e f w2 := ⟨h.nw.trans hn, h.ise.nw hn, h.isf.nw hn⟩
set_option maxHeartbeats 2000000 in
theorem several_short (n m : Int) (l : List Int) (v : Value) (S : Nat → Addr) (w : World) (hS : Sen w S) (hg : Hnd w) (hl : l.length ≤ 20) (hv : Rd w v l) :
    Calls Tryd.prog 8 #[.int .i64 n, .int .i64 m, v] w fun e w' => e = .returned (.bool true) ∧ Nw w w' := by
  have haw := awake_walk S w hS hg
  have A0 : Aside (Sen w S ∧ Hnd w ∧ Rd w v l ∧ l.length ≤ 20) := ⟨hS, hg, hv, hl⟩
  have hle : ¬ (20 : Int) < (l.length : Int) := by omega
  obtain ⟨A, c, rfl, hlc, hcm, hA⟩ := hv.at_
  obtain ⟨i, hi, ea⟩ := modE n
  obtain ⟨j, hj, eb⟩ := modE m
  have AI : Aside (i < 11 ∧ j < 11) := ⟨hi, hj⟩
  clear hS hg hv hl hcm hA hi hj
  go_enter Tryd.func8, Tryd.ntmps8
  go_wp2_with (go_at_call 9; (with_reducible refine haw.mono ?_); rintro ev w1 ⟨rfl, hw1⟩)
  rw [ea, eb]
  have hwr := wrapped_walk ((i : Int) + 1) l _ S w1 (A0.out.1.nw hw1) (by have := A0.out.2.2.2; omega) (A0.out.2.2.1.nw hw1)
  have A1 : Aside (Nw w w1) := hw1
  clear haw hw1 ea eb
  go_wp2_with (go_at_call 10; (with_reducible refine hwr.mono ?_); intro ev w2 hp2; obtain ⟨v0, rfl, hv0, -, hw2⟩ := hp2; replace hv0 := hv0 (by have := AI.out; omega); rw [show (((i : Int) + 1) - 1).toNat = i by omega] at hv0; obtain ⟨T, y, rfl⟩ := hv0.if; have AE : Aside (IsCh w2 (.iface 56 (.pointer (some (S i)))) l.reverse (.iface T y)) := hv0; clear hv0)
  have AW : Aside (Nw w w2) := A1.out.trans hw2
  clear hwr hw2 A1
  have hof := sen_calls j AI.out.2 S w2 (A0.out.1.nw AW.out)
  go_wp2_with (go_at_call 17; (with_reducible refine hof.mono ?_); rintro ev w2 ⟨rfl, rfl⟩)
  have hjo := join_walk T 56 y (.pointer (some (S j))) w2.heap.size (w2.alloc (.cells #[.iface T y, .iface 56 (.pointer (some (S j)))] 25)) (by simp) (by simp)
  go_wp2_with (go_at_call 23; (with_reducible refine hjo.mono ?_); rintro ev w3 ⟨b, rfl, hw3⟩)
  have A3 : Aside (IsJ w3 (.iface T y) (.iface 56 (.pointer (some (S j)))) (.iface 70 (.pointer (some ⟨b, 0, none⟩))) ∧ Nw w2 w3) := ⟨hw3.out.1, Nw.trans ((Wrt.refl w2 _).alloc _) hw3.out.2⟩
  clear hof hjo hw3
  have hat := at_ch 5 [] 70 (.pointer (some ⟨b, 0, none⟩)) (.iface 70 (.pointer (some ⟨b, 0, none⟩))) w3 (by unfold IsCh; rfl)
  go_wp2_with (go_at_call 18; (with_reducible refine hat.mono ?_); rintro ev w4 ⟨b4, rfl, hw4⟩)
  have AS : Aside (Sev w S i j (.iface 70 (.pointer (some ⟨b, 0, none⟩))) (.iface 41 (.pointer (some ⟨b4, 0, none⟩))) w4) := by
    obtain ⟨q1, q2⟩ := A3.out
    obtain ⟨q3, q4⟩ := hw4.out
    have q5 := A0.out.1.nw (AW.out.trans q2)
    have q6 : Is27 w3 (fun t => decide (S i = t)) (.iface T y) := is27_ch l.reverse _ (S i) w3 (q2.ch AE.out) (q5.sen i AI.out.1)
    have q7 : Is27 w3 (fun t => decide (S j = t)) (.iface 56 (.pointer (some (S j)))) := is27_ch [] _ (S j) w3 rfl (q5.sen j AI.out.2)
    exact ⟨AW.out.trans (q2.trans q4), (is27_chj [] _ _ _ _ w3 _ _ rfl q1 q6 q7).nw q4, is27_chj [5] _ _ _ _ w4 _ _ q3 (q1.nw q4) (q6.nw q4) (q7.nw q4)⟩
  have h5 : w4.cell? ⟨b4, 0, none⟩ = some (.int .i64 5) := by
    obtain ⟨b', u, e1, e2, -⟩ := hw4.out.1
    injection e1 with _ e1
    injection e1 with e1
    injection e1 with e1
    injection e1 with e1
    subst e1
    exact e2
  have hpl := place_hit ⟨b4, 0, none⟩ 5 w4 (A0.out.2.1.nw AS.out.nw) h5
  clear hat hw4 A3 AE AW h5
  rcases Nat.lt_or_ge j i with hji | hge
  · skip
    go_wp2_with (go_at_call 11; (with_reducible refine hpl.mono ?_); rintro ev w5 ⟨rfl, hw5⟩)
    have A5 : Aside (Sev w S i j (.iface 70 (.pointer (some ⟨b, 0, none⟩))) (.iface 41 (.pointer (some ⟨b4, 0, none⟩))) w5) := AS.out.nw' hw5
    clear hpl hw5 AS
    have hcE : ∀ w', Nw w5 w' → Calls Tryd.prog 12 #[.iface 70 (.pointer (some ⟨b, 0, none⟩))] w' fun e w'' => e = .returned (.int .i64 (((min i j : Nat) : Int) + 1)) ∧ Nw w' w'' := fun w' h =>
      (code_of 70 _ _ S w' (A0.out.1.nw (A5.out.nw.trans h)) (A5.out.ise.nw h)).mono fun e w'' ⟨⟨c, hc, he⟩, hw⟩ => ⟨by rw [he, codeL2 A0.out.1.one AI.out.1 AI.out.2 hc], hw⟩
    have hcF : ∀ w', Nw w5 w' → Calls Tryd.prog 12 #[.iface 41 (.pointer (some ⟨b4, 0, none⟩))] w' fun e w'' => e = .returned (.int .i64 (((min i j : Nat) : Int) + 1)) ∧ Nw w' w'' := fun w' h =>
      (code_of 41 _ _ S w' (A0.out.1.nw (A5.out.nw.trans h)) (A5.out.isf.nw h)).mono fun e w'' ⟨⟨c, hc, he⟩, hw⟩ => ⟨by rw [he, codeL2 A0.out.1.one AI.out.1 AI.out.2 hc], hw⟩
    rw [show min i j = j by omega] at hcE hcF
    have hc1 := hcE w5 (Wrt.refl w5 _)
    go_wp2_with (go_at_call 12; (with_reducible refine hc1.mono ?_); rintro ev w6 ⟨rfl, hw6⟩)
    have A6 : Aside (Nw w5 w6) := hw6
    have hc2 := hcF w6 hw6
    clear hc1 hw6
    go_wp2_with (go_at_call 12; (with_reducible refine hc2.mono ?_); rintro ev w7 ⟨rfl, hw7⟩)
    have A7 : Aside (Nw w5 w7) := A6.out.trans hw7
    clear hc2 hw7 hcE hcF A6
    have hoi := sen_calls i AI.out.1 S w7 (A0.out.1.nw (A5.out.nw.trans A7.out))
    have hoj := sen_calls j AI.out.2 S w7 (A0.out.1.nw (A5.out.nw.trans A7.out))
    have hii : Calls Tryd.prog 16 #[.iface 41 (.pointer (some ⟨b4, 0, none⟩)), .iface 56 (.pointer (some (S i)))] w7 fun e w' => e = .returned (.bool true) ∧ w' = w7 :=
      (is16_of 41 _ (S i) _ w7 (A5.out.isf.nw A7.out) ((A0.out.1.nw (A5.out.nw.trans A7.out)).sen i AI.out.1)).mono fun e w' h => ⟨h.1.trans (by simp), h.2⟩
    have hij : Calls Tryd.prog 16 #[.iface 41 (.pointer (some ⟨b4, 0, none⟩)), .iface 56 (.pointer (some (S j)))] w7 fun e w' => e = .returned (.bool true) ∧ w' = w7 :=
      (is16_of 41 _ (S j) _ w7 (A5.out.isf.nw A7.out) ((A0.out.1.nw (A5.out.nw.trans A7.out)).sen j AI.out.2)).mono fun e w' h => ⟨h.1.trans (by simp), h.2⟩
    have hnx : ∀ s : ByteArray, Calls Tryd.prog 19 #[.string s] w7 fun e w' => e = .returned (.iface 56 (.pointer (some ⟨w7.heap.size, 0, none⟩))) ∧ w' = w7.alloc (.cells #[.string s] 58) := fun s => new_walk s w7
    have hoj2 : ∀ s : ByteArray, Calls Tryd.prog 17 #[.int .i64 ((j : Int) + 1)] (w7.alloc (.cells #[.string s] 58)) fun e w' => e = .returned (.iface 56 (.pointer (some (S j)))) ∧ w' = w7.alloc (.cells #[.string s] 58) := fun s =>
      sen_calls j AI.out.2 S _ (A0.out.1.nw (A5.out.nw.trans (A7.out.trans ((Wrt.refl w7 _).alloc _))))
    have hjo : ∀ s : ByteArray, Calls Tryd.prog 23 #[.slice (some ⟨w7.heap.size + 1, 0, none⟩) 2 2] ((w7.alloc (.cells #[.string s] 58)).alloc (.cells #[.iface 56 (.pointer (some ⟨w7.heap.size, 0, none⟩)), .iface 56 (.pointer (some (S j)))] 25)) fun e w' => ∃ b, e = .returned (.iface 70 (.pointer (some ⟨b, 0, none⟩))) ∧ Aside (Is27 w' (fun t => decide ((⟨w7.heap.size, 0, none⟩ : Addr) = t) || decide (S j = t)) (.iface 70 (.pointer (some ⟨b, 0, none⟩))) ∧ Nw w7 w') := fun s => by
      have h := join_walk 56 56 (.pointer (some ⟨w7.heap.size, 0, none⟩)) (.pointer (some (S j))) (w7.heap.size + 1) ((w7.alloc (.cells #[.string s] 58)).alloc (.cells #[.iface 56 (.pointer (some ⟨w7.heap.size, 0, none⟩)), .iface 56 (.pointer (some (S j)))] 25)) (by simp) (by simp)
      refine h.mono ?_
      rintro e w' ⟨b, rfl, h2⟩
      have q0 : Nw w7 ((w7.alloc (.cells #[.string s] 58)).alloc (.cells #[.iface 56 (.pointer (some ⟨w7.heap.size, 0, none⟩)), .iface 56 (.pointer (some (S j)))] 25)) := ((Wrt.refl w7 _).alloc _).alloc _
      have q1 : Nw w7 w' := q0.trans h2.out.2
      have q2 : Nw (w7.alloc (.cells #[.string s] 58)) w' := Nw.trans ((Wrt.refl _ _).alloc _) h2.out.2
      have q3 : IsSen w' ⟨w7.heap.size, 0, none⟩ := q2.sen ⟨_, _, heap_alloc_new w7 _⟩
      have q4 : IsSen w' (S j) := q1.sen ((A0.out.1.nw (A5.out.nw.trans A7.out)).sen j AI.out.2)
      have q6 : Is27 w' (fun t => decide ((⟨w7.heap.size, 0, none⟩ : Addr) = t)) (.iface 56 (.pointer (some ⟨w7.heap.size, 0, none⟩))) := is27_ch [] _ _ w' rfl q3
      have q7 : Is27 w' (fun t => decide (S j = t)) (.iface 56 (.pointer (some (S j)))) := is27_ch [] _ (S j) w' rfl q4
      exact ⟨b, rfl, is27_chj [] _ _ _ _ w' _ _ rfl h2.out.1 q6 q7, q1⟩
    go_wp2_with (first
      | (go_at_call 17; (with_reducible refine hoi.mono ?_); rintro ev w' ⟨rfl, rfl⟩)
      | (go_at_call 17; (with_reducible refine hoj.mono ?_); rintro ev w' ⟨rfl, rfl⟩)
      | (go_at_call 16; (with_reducible refine hii.mono ?_); rintro ev w' ⟨rfl, rfl⟩)
      | (go_at_call 16; (with_reducible refine hij.mono ?_); rintro ev w' ⟨rfl, rfl⟩)
      | (go_at_call 19; (with_reducible refine (hnx _).mono ?_); rintro ev w' ⟨rfl, rfl⟩)
      | (go_at_call 17; (with_reducible refine (hoj2 _).mono ?_); rintro ev w' ⟨rfl, rfl⟩)
      | (go_at_call 23; (with_reducible refine (hjo _).mono ?_); rintro ev w8 ⟨b8, rfl, hw8⟩))
    have A8 : Aside (Nw w w8) := A5.out.nw.trans (A7.out.trans hw8.out.2)
    have hcx : Calls Tryd.prog 12 #[.iface 70 (.pointer (some ⟨b8, 0, none⟩))] w8 fun e w' => e = .returned (.int .i64 ((j : Int) + 1)) ∧ Nw w8 w' := by
      refine (code_of 70 _ _ S w8 (A0.out.1.nw A8.out) hw8.out.1).mono fun e w' ⟨⟨c, hc, he⟩, hw⟩ => ⟨?_, hw⟩
      rw [he, codeL1 A0.out.1.one (fun k hk hx => ?_) AI.out.2 hc]
      obtain ⟨c', t', hb⟩ := (A0.out.1.nw (A5.out.nw.trans A7.out)).sen k hk
      rw [← hx] at hb
      simp at hb
    clear hw8 hoi hoj hii hij hnx hoj2 hjo
    go_wp2_with (go_at_call 12; (with_reducible refine hcx.mono ?_); rintro ev w9 ⟨rfl, hw9⟩)
    go_ret
    exact ⟨by simp, A8.out.trans hw9⟩
  · have hji : ¬ j < i := by omega
    clear hge
    go_wp2_with (go_at_call 11; (with_reducible refine hpl.mono ?_); rintro ev w5 ⟨rfl, hw5⟩)
    have A5 : Aside (Sev w S i j (.iface 70 (.pointer (some ⟨b, 0, none⟩))) (.iface 41 (.pointer (some ⟨b4, 0, none⟩))) w5) := AS.out.nw' hw5
    clear hpl hw5 AS
    have hcE : ∀ w', Nw w5 w' → Calls Tryd.prog 12 #[.iface 70 (.pointer (some ⟨b, 0, none⟩))] w' fun e w'' => e = .returned (.int .i64 (((min i j : Nat) : Int) + 1)) ∧ Nw w' w'' := fun w' h =>
      (code_of 70 _ _ S w' (A0.out.1.nw (A5.out.nw.trans h)) (A5.out.ise.nw h)).mono fun e w'' ⟨⟨c, hc, he⟩, hw⟩ => ⟨by rw [he, codeL2 A0.out.1.one AI.out.1 AI.out.2 hc], hw⟩
    have hcF : ∀ w', Nw w5 w' → Calls Tryd.prog 12 #[.iface 41 (.pointer (some ⟨b4, 0, none⟩))] w' fun e w'' => e = .returned (.int .i64 (((min i j : Nat) : Int) + 1)) ∧ Nw w' w'' := fun w' h =>
      (code_of 41 _ _ S w' (A0.out.1.nw (A5.out.nw.trans h)) (A5.out.isf.nw h)).mono fun e w'' ⟨⟨c, hc, he⟩, hw⟩ => ⟨by rw [he, codeL2 A0.out.1.one AI.out.1 AI.out.2 hc], hw⟩
    rw [show min i j = i by omega] at hcE hcF
    have hc1 := hcE w5 (Wrt.refl w5 _)
    go_wp2_with (go_at_call 12; (with_reducible refine hc1.mono ?_); rintro ev w6 ⟨rfl, hw6⟩)
    have A6 : Aside (Nw w5 w6) := hw6
    have hc2 := hcF w6 hw6
    clear hc1 hw6
    go_wp2_with (go_at_call 12; (with_reducible refine hc2.mono ?_); rintro ev w7 ⟨rfl, hw7⟩)
    have A7 : Aside (Nw w5 w7) := A6.out.trans hw7
    clear hc2 hw7 hcE hcF A6
    have hoi := sen_calls i AI.out.1 S w7 (A0.out.1.nw (A5.out.nw.trans A7.out))
    have hoj := sen_calls j AI.out.2 S w7 (A0.out.1.nw (A5.out.nw.trans A7.out))
    have hii : Calls Tryd.prog 16 #[.iface 41 (.pointer (some ⟨b4, 0, none⟩)), .iface 56 (.pointer (some (S i)))] w7 fun e w' => e = .returned (.bool true) ∧ w' = w7 :=
      (is16_of 41 _ (S i) _ w7 (A5.out.isf.nw A7.out) ((A0.out.1.nw (A5.out.nw.trans A7.out)).sen i AI.out.1)).mono fun e w' h => ⟨h.1.trans (by simp), h.2⟩
    have hij : Calls Tryd.prog 16 #[.iface 41 (.pointer (some ⟨b4, 0, none⟩)), .iface 56 (.pointer (some (S j)))] w7 fun e w' => e = .returned (.bool true) ∧ w' = w7 :=
      (is16_of 41 _ (S j) _ w7 (A5.out.isf.nw A7.out) ((A0.out.1.nw (A5.out.nw.trans A7.out)).sen j AI.out.2)).mono fun e w' h => ⟨h.1.trans (by simp), h.2⟩
    have hnx : ∀ s : ByteArray, Calls Tryd.prog 19 #[.string s] w7 fun e w' => e = .returned (.iface 56 (.pointer (some ⟨w7.heap.size, 0, none⟩))) ∧ w' = w7.alloc (.cells #[.string s] 58) := fun s => new_walk s w7
    have hoj2 : ∀ s : ByteArray, Calls Tryd.prog 17 #[.int .i64 ((j : Int) + 1)] (w7.alloc (.cells #[.string s] 58)) fun e w' => e = .returned (.iface 56 (.pointer (some (S j)))) ∧ w' = w7.alloc (.cells #[.string s] 58) := fun s =>
      sen_calls j AI.out.2 S _ (A0.out.1.nw (A5.out.nw.trans (A7.out.trans ((Wrt.refl w7 _).alloc _))))
    have hjo : ∀ s : ByteArray, Calls Tryd.prog 23 #[.slice (some ⟨w7.heap.size + 1, 0, none⟩) 2 2] ((w7.alloc (.cells #[.string s] 58)).alloc (.cells #[.iface 56 (.pointer (some ⟨w7.heap.size, 0, none⟩)), .iface 56 (.pointer (some (S j)))] 25)) fun e w' => ∃ b, e = .returned (.iface 70 (.pointer (some ⟨b, 0, none⟩))) ∧ Aside (Is27 w' (fun t => decide ((⟨w7.heap.size, 0, none⟩ : Addr) = t) || decide (S j = t)) (.iface 70 (.pointer (some ⟨b, 0, none⟩))) ∧ Nw w7 w') := fun s => by
      have h := join_walk 56 56 (.pointer (some ⟨w7.heap.size, 0, none⟩)) (.pointer (some (S j))) (w7.heap.size + 1) ((w7.alloc (.cells #[.string s] 58)).alloc (.cells #[.iface 56 (.pointer (some ⟨w7.heap.size, 0, none⟩)), .iface 56 (.pointer (some (S j)))] 25)) (by simp) (by simp)
      refine h.mono ?_
      rintro e w' ⟨b, rfl, h2⟩
      have q0 : Nw w7 ((w7.alloc (.cells #[.string s] 58)).alloc (.cells #[.iface 56 (.pointer (some ⟨w7.heap.size, 0, none⟩)), .iface 56 (.pointer (some (S j)))] 25)) := ((Wrt.refl w7 _).alloc _).alloc _
      have q1 : Nw w7 w' := q0.trans h2.out.2
      have q2 : Nw (w7.alloc (.cells #[.string s] 58)) w' := Nw.trans ((Wrt.refl _ _).alloc _) h2.out.2
      have q3 : IsSen w' ⟨w7.heap.size, 0, none⟩ := q2.sen ⟨_, _, heap_alloc_new w7 _⟩
      have q4 : IsSen w' (S j) := q1.sen ((A0.out.1.nw (A5.out.nw.trans A7.out)).sen j AI.out.2)
      have q6 : Is27 w' (fun t => decide ((⟨w7.heap.size, 0, none⟩ : Addr) = t)) (.iface 56 (.pointer (some ⟨w7.heap.size, 0, none⟩))) := is27_ch [] _ _ w' rfl q3
      have q7 : Is27 w' (fun t => decide (S j = t)) (.iface 56 (.pointer (some (S j)))) := is27_ch [] _ (S j) w' rfl q4
      exact ⟨b, rfl, is27_chj [] _ _ _ _ w' _ _ rfl h2.out.1 q6 q7, q1⟩
    go_wp2_with (first
      | (go_at_call 17; (with_reducible refine hoi.mono ?_); rintro ev w' ⟨rfl, rfl⟩)
      | (go_at_call 17; (with_reducible refine hoj.mono ?_); rintro ev w' ⟨rfl, rfl⟩)
      | (go_at_call 16; (with_reducible refine hii.mono ?_); rintro ev w' ⟨rfl, rfl⟩)
      | (go_at_call 16; (with_reducible refine hij.mono ?_); rintro ev w' ⟨rfl, rfl⟩)
      | (go_at_call 19; (with_reducible refine (hnx _).mono ?_); rintro ev w' ⟨rfl, rfl⟩)
      | (go_at_call 17; (with_reducible refine (hoj2 _).mono ?_); rintro ev w' ⟨rfl, rfl⟩)
      | (go_at_call 23; (with_reducible refine (hjo _).mono ?_); rintro ev w8 ⟨b8, rfl, hw8⟩))
    have A8 : Aside (Nw w w8) := A5.out.nw.trans (A7.out.trans hw8.out.2)
    have hcx : Calls Tryd.prog 12 #[.iface 70 (.pointer (some ⟨b8, 0, none⟩))] w8 fun e w' => e = .returned (.int .i64 ((j : Int) + 1)) ∧ Nw w8 w' := by
      refine (code_of 70 _ _ S w8 (A0.out.1.nw A8.out) hw8.out.1).mono fun e w' ⟨⟨c, hc, he⟩, hw⟩ => ⟨?_, hw⟩
      rw [he, codeL1 A0.out.1.one (fun k hk hx => ?_) AI.out.2 hc]
      obtain ⟨c', t', hb⟩ := (A0.out.1.nw (A5.out.nw.trans A7.out)).sen k hk
      rw [← hx] at hb
      simp at hb
    clear hw8 hoi hoj hii hij hnx hoj2 hjo
    go_wp2_with (go_at_call 12; (with_reducible refine hcx.mono ?_); rintro ev w9 ⟨rfl, hw9⟩)
    go_ret
    exact ⟨by simp, A8.out.trans hw9⟩
theorem several_walk (n m : Int) (l : List Int) (v : Value) (S : Nat → Addr) (w : World) (_h1 : IntKind.i64.min ≤ n) (_h2 : n ≤ IntKind.i64.max) (_h3 : IntKind.i64.min ≤ m) (_h4 : m ≤ IntKind.i64.max) (hS : Sen w S) (hg : Hnd w) (hv : Rd w v l) :
    Calls Tryd.prog 8 #[.int .i64 n, .int .i64 m, v] w fun e w' => e = .returned (.bool true) ∧ Nw w w' := by
  by_cases hl : l.length ≤ 20
  · exact several_short n m l v S w hS hg hl hv
  · exact several_long n m l v S w hS hg hl hv
end Go.Proofs.YtkpbbhcdmkmnfaaDoor
