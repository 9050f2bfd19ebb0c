/- woe.Path over chains; wrapped -/
import Derived.Test.YtkpbbhcdmkmnfaaDoorWInts
set_option linter.unusedSimpArgs false
set_option linter.unusedVariables false
namespace Go.Proofs.YtkpbbhcdmkmnfaaDoor
open Go.RowKit Go.Extern.Stop Go.Stop Go.Extern Go.Rex
theorem find_walk (ps : List Int) (v : Value) (x : Addr) (w : World) (hg : Hnd w) (hv : IsCh w (.iface 56 (.pointer (some x))) ps v) :
    Calls Tryd.prog 24 #[v] w fun ev w' => ev = .returned (chPtr v) ∧ Nw w w' := by
  cases ps with
  | nil =>
    have hv : _ = _ := hv
    subst hv
    exact find_miss _ w hg
  | cons n ps =>
    obtain ⟨b, u, rfl, h1, h2, h3⟩ := hv
    exact find_hit _ w hg
theorem own_nw {w w' : World} {base : Nat} {e : TypeId} {size : Nat} {v : Value} {n : Nat} {xs : List Value} (h : w.ownsRow base e size v n xs) (hn : Nw w w') : w'.ownsRow base e size v n xs := by
  obtain ⟨h1, h2 | ⟨g, cap, cur, h2, h3, h4, h5⟩⟩ := h
  · exact ⟨h1, .inl h2⟩
  · refine ⟨h1, .inr ⟨g, cap, cur, h2, h3, ?_, h5⟩⟩
    rw [hn.block g ?_ id]
    · exact h4
    · rcases Nat.lt_or_ge g w.heap.size with h | h
      · exact h
      · rw [Array.getElem?_eq_none h] at h4; cases h4
/-- what Path hands back -/
def PathPost (w : World) (ps : List Int) (e : Ending) (w' : World) : Prop := ∃ v', e = .returned v' ∧ Rd w' v' ps ∧ Nw w w'
theorem path_nil (w : World) : Calls Tryd.prog 13 #[.nilIface] w (PathPost w []) := by
  have hf := find_nil w
  go_enter Tryd.func13, Tryd.ntmps13
  go_wp2_with (go_at_call 24; refine hf.mono ?_; rintro ev w' ⟨rfl, hw⟩)
  refine wp_loop_rounds 1 ?_
  rw [rounds_succ]
  go_wp2
  go_ret
  exact ⟨_, rfl, ⟨none, 0, rfl, Nat.le_refl _, Nat.zero_le _, fun h => absurd h (by simp)⟩, hw⟩
set_option maxHeartbeats 4000000 in
theorem path_walk (ps : List Int) (v : Value) (x : Addr) (w : World) (hl : ps.length ≤ 100) (hg : Hnd w) (hv : IsCh w (.iface 56 (.pointer (some x))) ps v) :
    Calls Tryd.prog 13 #[v] w (PathPost w ps) := by
  have hf := find_walk ps v x w hg hv
  obtain ⟨i0, hi, hz0, hz1, hz2⟩ := info_parts intInfo
  obtain ⟨T, y, rfl⟩ := hv.if
  have A0 : Aside (ps.length ≤ 100 ∧ Hnd w ∧ IsCh w (.iface 56 (.pointer (some x))) ps (.iface T y)) := ⟨hl, hg, hv⟩
  clear hl hg hv
  go_enter Tryd.func13, Tryd.ntmps13
  go_wp2_with (go_at_call 24; refine hf.mono ?_; rintro ev w' ⟨rfl, hw⟩)
  go_loopg [3, 4] (ps.length + 1) (fun k s p wr => ∃ ds qs u, p = chPtr u ∧ (ps = ds ++ qs ∧ k = qs.length + 1) ∧ IsCh w (.iface 56 (.pointer (some x))) qs u ∧ Nw w wr ∧ wr.ownsRow w.heap.size 3 1 s ds.length (ds.map (Value.int .i64)))
  case atStart => exact ⟨[], ps, .iface T y, rfl, ⟨rfl, rfl⟩, A0.out.2.2, hw, World.ownsRow_nil _ _ _ _⟩
  case round =>
    obtain ⟨hl, hg, -⟩ := A0.out
    clear A0
    obtain ⟨ds, qs, u, rfl, ⟨hps, hk⟩, hch, hnw, hown⟩ := hrel
    cases qs with
    | nil =>
      have hch : _ = _ := hch
      subst hch
      have A1 : Aside ((ps = ds ++ [] ∧ gk = 1) ∧ Nw w wr ∧ wr.ownsRow w.heap.size 3 1 u3 ds.length (ds.map (Value.int .i64))) := ⟨⟨hps, hk⟩, hnw, hown⟩
      clear hps hk hnw hown hg hw hf
      rw [show chPtr (.iface 56 (.pointer (some x))) = .pointer none from rfl]
      go_wp2
      obtain ⟨⟨q1, -⟩, q2, q3⟩ := A1.out
      go_ret
      rw [List.append_nil] at q1
      subst q1
      exact ⟨_, rfl, Rd.of_own q3, q2⟩
    | cons n qs =>
      obtain ⟨b, u, rfl, h1, h2, h3⟩ := hch
      obtain ⟨T', y', rfl⟩ := h3.if
      have hdl : ds.length ≤ 100 := by rw [hps, List.length_append] at hl; omega
      have hsz := hnw.size
      generalize hxs : ds.map (Value.int .i64) = xs at hown
      have A1 : Aside ((ps = ds ++ n :: qs ∧ gk = qs.length + 1 + 1 ∧ ds.map (Value.int .i64) = xs) ∧ Nw w wr ∧ Hnd w ∧ IsCh w (.iface 56 (.pointer (some x))) qs (.iface T' y') ∧ w.cell? ⟨b, 1, none⟩ = some (.iface T' y')) := ⟨⟨hps, hk, hxs⟩, hnw, hg, h3, h2⟩
      replace h1 := hnw.cell h1
      clear hps hk hxs hnw hg h3 hf hw hl h2
      rw [show chPtr (.iface 41 (.pointer (some ⟨b, 0, none⟩))) = .pointer (some ⟨b, 0, none⟩) from rfl]
      go_wp2_with (first
        | (at_builtin; refine wpList_append_own _ rfl _ _ 22 rfl w.heap.size 3 i0 (.int .i64 0) 1 8 Tryd.underlying22 hi hz0 hz1 hz2 rfl (by decide) _ _ _ rfl (hown.alloc _) ⟨wr.heap.size, 0, none⟩ 1 1 [.int .i64 n] rfl rfl ?c1 ?c2 ?c3 ?c4 ?c5 ?_)
        | fail)
      case c1 =>
        intro j u hj
        match j, hj with
        | 0, hj => simp at hj; subst hj; simp [Addr.add]
      case c2 => intro u hu; simp at hu; subst hu; rfl
      case c3 => unfold maxLen; omega
      case c4 => omega
      case c5 => simp; omega
      · intro v' w1 hown' hgrow _
        obtain ⟨⟨q1, q2, q3⟩, q4, q5, q6, q7⟩ := A1.out
        have hlt := hown.lt
        have hnw1 : Nw w w1 := grownNw (q4.alloc _) hgrow fun g hg => (hlt g hg).1
        have hc1 := hnw1.cell q7
        have hf := find_walk qs (.iface T' y') x w1 (q5.nw hnw1) (hnw1.ch q6)
        have A2 : Aside (Nw w w1 ∧ w1.ownsRow w.heap.size 3 1 v' (ds.length + 1) (xs ++ [.int .i64 n]) ∧ IsCh w (.iface 56 (.pointer (some x))) qs (.iface T' y')) := ⟨hnw1, hown', q6⟩
        have A3 : Aside (ps = ds ++ n :: qs ∧ gk = qs.length + 1 + 1 ∧ ds.map (Value.int .i64) = xs) := ⟨q1, q2, q3⟩
        clear q1 q2 q3 q4 q5 q6 q7 hlt hnw1 hown' hgrow hown h1 A1 hdl hsz
        go_wp2_with (go_at_call 24; refine hf.mono ?_; rintro ev w2 ⟨rfl, hw2⟩)
        obtain ⟨q1, q2, q3⟩ := A2.out
        obtain ⟨q4, q5, q6⟩ := A3.out
        go_roundg (qs.length + 1)
        case measure => omega
        case rel =>
          refine ⟨ds ++ [n], qs, .iface T' y', rfl, ⟨by simp [q4], rfl⟩, q3, q1.trans hw2, ?_⟩
          rw [List.map_append, List.length_append, q6]
          exact own_nw q2 hw2
/-- what wrapped hands back -/
def WrapPost (w : World) (S : Nat → Addr) (n : Int) (l : List Int) (e : Ending) (w' : World) : Prop :=
  ∃ v', e = .returned v' ∧ (1 ≤ n ∧ n ≤ 11 → IsCh w' (.iface 56 (.pointer (some (S (n - 1).toNat)))) l.reverse v') ∧ (¬ (1 ≤ n ∧ n ≤ 11) → v' = .nilIface) ∧ Nw w w'
set_option maxHeartbeats 4000000 in
theorem wrapped_walk (n : Int) (l : List Int) (v : Value) (S : Nat → Addr) (w : World) (hS : Sen w S) (hl : l.length ≤ 100) (hv : Rd w v l) : Calls Tryd.prog 10 #[.int .i64 n, v] w (WrapPost w S n l) := by
  obtain ⟨A, c, rfl, hla, hca, hA⟩ := hv.at_
  have hof := of_walk n S w hS
  by_cases hn : 1 ≤ n ∧ n ≤ 11
  · have A0 : Aside (1 ≤ n ∧ n ≤ 11) := hn
    rw [show ofV S n = .iface 56 (.pointer (some (S (n - 1).toNat))) from if_pos hn] at hof
    generalize hx : S (n - 1).toNat = x at hof
    have A1 : Aside (S (n - 1).toNat = x) := hx
    clear hv hca hn hS hx
    go_enter Tryd.func10, Tryd.ntmps10
    go_wp2_with (go_at_call 17; refine hof.mono ?_; rintro ev w' ⟨rfl, rfl⟩)
    clear hof
    go_loopg [5, 6] l.length (fun k e i wr => ∃ m : Nat, i = .int .i64 m ∧ (m + k = l.length) ∧ IsCh wr (.iface 56 (.pointer (some x))) (l.take m).reverse e ∧ Nw w' wr)
    case atStart => exact ⟨0, rfl, by omega, by simp [IsCh], Wrt.refl _ _⟩
    case round =>
      obtain ⟨m, rfl, hm, hch, hnw⟩ := hrel
      rcases Nat.lt_or_ge m l.length with hlt | hge
      · obtain ⟨ad, rfl, hc1⟩ := hA m hlt
        replace hc1 := hnw.cellA hc1
        obtain ⟨T, y, rfl⟩ := hch.if
        obtain ⟨p, hp⟩ : ∃ p, p = l.getD m 0 := ⟨_, rfl⟩
        rw [← hp] at hc1
        have h1 : (m : Int) < (l.length : Int) := by omega
        have hat := at_walk p T y wr
        have A2 : Aside ((m + gk = l.length ∧ p = l.getD m 0) ∧ IsCh wr (.iface 56 (.pointer (some x))) (l.take m).reverse (.iface T y) ∧ Nw w' wr) := ⟨⟨hm, hp⟩, hch, hnw⟩
        clear hm hp hch hnw hA
        go_wp2_with (go_at_call 18; refine hat.mono ?_; rintro ev w2 ⟨rfl, rfl⟩)
        obtain ⟨⟨q1, q2⟩, q3, q4⟩ := A2.out
        go_roundg (gk - 1)
        case measure => omega
        case rel =>
          refine ⟨m + 1, by go_num, by omega, ?_, q4.alloc _⟩
          rw [List.take_succ_eq_append_getElem hlt, List.reverse_append]
          have e : l[m] = p := by rw [q2]; simp [hlt]
          rw [e]
          exact ⟨wr.heap.size, .iface T y, rfl, by simp, by simp, (show Nw wr _ from (Wrt.refl wr _).alloc _).ch q3⟩
      · have A2 : Aside ((m + gk = l.length) ∧ IsCh wr (.iface 56 (.pointer (some x))) (l.take m).reverse u5 ∧ Nw w' wr) := ⟨hm, hch, hnw⟩
        clear hm hch hnw hA
        have h1 : ¬ (m : Int) < (l.length : Int) := by omega
        go_wp2
        obtain ⟨q1, q2, q3⟩ := A2.out
        go_ret
        have := A1.out
        subst this
        refine ⟨_, rfl, fun _ => ?_, fun h => absurd A0.out h, q3⟩
        rwa [List.take_of_length_le (by omega)] at q2
  · have A0 : Aside (¬ (1 ≤ n ∧ n ≤ 11)) := hn
    rw [show ofV S n = .nilIface from if_neg hn] at hof
    clear hv hca hn hS
    go_enter Tryd.func10, Tryd.ntmps10
    go_wp2_with (go_at_call 17; refine hof.mono ?_; rintro ev w' ⟨rfl, rfl⟩)
    clear hof
    go_loopg [5, 6] l.length (fun k e i wr => ∃ m : Nat, i = .int .i64 m ∧ (m + k = l.length) ∧ e = .nilIface ∧ Nw w' wr)
    case atStart => exact ⟨0, rfl, by omega, rfl, Wrt.refl _ _⟩
    case round =>
      obtain ⟨m, rfl, hm, rfl, hnw⟩ := hrel
      rcases Nat.lt_or_ge m l.length with hlt | hge
      · obtain ⟨ad, rfl, hc1⟩ := hA m hlt
        replace hc1 := hnw.cellA hc1
        obtain ⟨p, hp⟩ : ∃ p, p = l.getD m 0 := ⟨_, rfl⟩
        rw [← hp] at hc1
        have h1 : (m : Int) < (l.length : Int) := by omega
        have hat := at_nil p wr
        have A2 : Aside ((m + gk = l.length) ∧ Nw w' wr) := ⟨hm, hnw⟩
        clear hm hp hnw hA
        go_wp2_with (go_at_call 18; refine hat.mono ?_; rintro ev w2 ⟨rfl, rfl⟩)
        obtain ⟨q1, q4⟩ := A2.out
        go_roundg (gk - 1)
        case measure => omega
        case rel => exact ⟨m + 1, by go_num, by omega, rfl, q4⟩
      · have A2 : Aside ((m + gk = l.length) ∧ Nw w' wr) := ⟨hm, hnw⟩
        clear hm hnw hA
        have h1 : ¬ (m : Int) < (l.length : Int) := by omega
        go_wp2
        obtain ⟨q1, q3⟩ := A2.out
        go_ret
        exact ⟨_, rfl, fun h => absurd h A0.out, fun _ => rfl, q3⟩
end Go.Proofs.YtkpbbhcdmkmnfaaDoor
