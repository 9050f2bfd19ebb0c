/- slices of whole numbers that are read; sextonref01.Ints -/
import Derived.Test.YtkpbbhcdmkmnfaaDoorWPlace
import Derived.Below
import Derived.Laws.OwnMore
import Derived.Deep.AppendLies
import Derived.Deep.Draws
import Derived.Maps.AppendAt
import Derived.RegionTactic
import Derived.OwnWalk
import Derived.Deep.QuietTactic
import Derived.BigQuiet
import Derived.IntWalk
set_option linter.unusedSimpArgs false
set_option linter.unusedVariables false
namespace Go.Proofs.YtkpbbhcdmkmnfaaDoor
open Go.RowKit Go.Extern.Stop Go.Stop Go.Extern Go.Rex
theorem Nw.drewN {w w' : World} (h : Nw w w') (n : Nat) : Nw w (w'.drewN n) := ⟨h.os, h.tape, h.output, h.size, h.block⟩
theorem Nw.cellA {w w' : World} (h : Nw w w') {a : Addr} {x : Value} (hc : w.cell? a = some x) : w'.cell? a = some x := by
  rw [← hc]
  unfold World.cell?
  rw [h.block _ (World.block_lt_of_cell? _ _ hc) id]
/-- a slice that reads as a list -/
def Rd (w : World) (v : Value) (l : List Int) : Prop :=
  ∃ A c, v = .slice A l.length c ∧ l.length ≤ c ∧ c ≤ maxLen ∧ (0 < l.length → ∃ ad, A = some ad ∧ ∀ j x, l[j]? = some x → w.cell? (ad.add j) = some (.int .i64 x))
theorem Rd.nw {w w' : World} {v : Value} {l : List Int} (h : Rd w v l) (hn : Nw w w') : Rd w' v l := by
  obtain ⟨A, c, h1, h2, h3, h4⟩ := h
  refine ⟨A, c, h1, h2, h3, fun hl => ?_⟩
  obtain ⟨ad, h5, h6⟩ := h4 hl
  exact ⟨ad, h5, fun j x hj => hn.cellA (h6 j x hj)⟩
theorem Rd.at_ {w : World} {v : Value} {l : List Int} (h : Rd w v l) : ∃ A c, v = .slice A l.length c ∧ l.length ≤ c ∧ c ≤ maxLen ∧ ∀ k, k < l.length → ∃ ad, A = some ad ∧ w.cell? (ad.add k) = some (.int .i64 (l.getD k 0)) := by
  obtain ⟨A, c, h1, h2, h3, h4⟩ := h
  refine ⟨A, c, h1, h2, h3, fun k hk => ?_⟩
  obtain ⟨ad, h5, h6⟩ := h4 (by omega)
  exact ⟨ad, h5, h6 k _ (by simp [hk])⟩
set_option maxHeartbeats 4000000 in
theorem ints_walk (a b : List Int) (va vb : Value) (w : World) (ha : Rd w va a) (hb : Rd w vb b) :
    Calls Tryd.prog 14 #[va, vb] w fun e w' => e = .returned (.bool (decide (a = b))) ∧ Nw w w' := by
  obtain ⟨A, c, rfl, hla, hca, hA⟩ := ha.at_
  obtain ⟨B, d, rfl, hlb, hcb, hB⟩ := hb.at_
  unfold maxLen at hca hcb
  by_cases hlen : a.length = b.length
  · have H1 : Aside (a.length = b.length) := hlen
    have hl1 : ((a.length : Int) != (b.length : Int)) = false := by simp [hlen]
    have hl2 : a.length ≤ b.length := by omega
    have hl3 : b.length ≤ a.length := by omega
    clear hlen ha hb
    go_enter Tryd.func14, Tryd.ntmps14
    go_wp2
    go_loopg [5] a.length (fun k v wr => ∃ n : Nat, v = .int .i64 n ∧ n + k = a.length ∧ Nw w wr ∧ ∀ j, j < n → a.getD j 0 = b.getD j 0)
    case atStart => exact ⟨0, rfl, by omega, Wrt.refl w _, fun j hj => by omega⟩
    case round =>
      obtain ⟨n, rfl, hnk, hnw, hno⟩ := hrel
      rcases Nat.lt_or_ge n a.length with hlt | hge
      · obtain ⟨ad, rfl, hc1⟩ := hA n hlt
        obtain ⟨bd, rfl, hc2⟩ := hB n (by omega)
        replace hc1 := hnw.cellA hc1
        replace hc2 := hnw.cellA hc2
        have hltb : n < b.length := by omega
        obtain ⟨x, hx⟩ : ∃ x, x = a.getD n 0 := ⟨_, rfl⟩
        obtain ⟨y, hy⟩ : ∃ y, y = b.getD n 0 := ⟨_, rfl⟩
        rw [← hx] at hc1
        rw [← hy] at hc2
        have A1 : Aside ((n + gk = a.length ∧ x = a.getD n 0 ∧ y = b.getD n 0) ∧ Nw w wr ∧ (∀ j, j < n → a.getD j 0 = b.getD j 0)) := ⟨⟨hnk, hx, hy⟩, hnw, hno⟩
        clear hnk hx hy hnw hno hA hB
        have h1 : (n : Int) < (a.length : Int) := by omega
        have h2 : (n : Int) < (b.length : Int) := by omega
        go_wp2
        go_quiet (fail)
        go_wp2
        · have hq : (x != y) = true := by assumption
          obtain ⟨⟨q1, q2, q3⟩, q4, q5⟩ := A1.out
          go_ret
          refine ⟨?_, q4.drewN _⟩
          have hne : ¬ a = b := fun h => by
            subst h
            rw [q2, q3] at hq
            simp at hq
          simp [hne]
        · have hq : (x != y) = false := by assumption
          obtain ⟨⟨q1, q2, q3⟩, q4, q5⟩ := A1.out
          go_roundg (gk - 1)
          case measure => omega
          case rel =>
            refine ⟨n + 1, by go_num, by omega, q4.drewN _, fun j hj => ?_⟩
            rcases Nat.lt_or_ge j n with h | h
            · exact q5 j h
            · have hxy : x = y := by simpa using hq
              rw [show j = n by omega, ← q2, ← q3, hxy]
      · have A1 : Aside ((n + gk = a.length) ∧ Nw w wr ∧ (∀ j, j < n → a.getD j 0 = b.getD j 0)) := ⟨hnk, hnw, hno⟩
        clear hnk hnw hno hA hB
        have h1 : ¬ (n : Int) < (a.length : Int) := by omega
        go_wp2
        obtain ⟨q1, q2, q3⟩ := A1.out
        go_ret
        have hq := H1.out
        refine ⟨?_, q2⟩
        have : a = b := List.ext_getElem hq fun j h1 h2 => by
          have := q3 j (by omega)
          simpa [List.getD_eq_getElem?_getD, h1, h2] using this
        simp [this]
  · have hl1 : ((a.length : Int) != (b.length : Int)) = true := by simpa using (by omega : ¬ (a.length : Int) = (b.length : Int))
    have hne : ¬ a = b := fun h => hlen (by rw [h])
    have A1 : Aside (¬ a = b) := hne
    clear hne hA hB ha hb
    go_enter Tryd.func14, Tryd.ntmps14
    go_wp2
    go_ret
    have := A1.out
    exact ⟨by simp [this], Wrt.refl w _⟩
theorem grownNw {w0 w w' : World} {row : Option Nat} (h : Nw w0 w) (hg : w.grownBy w' row) (hr : ∀ g, row = some g → w0.heap.size ≤ g) : Nw w0 w' :=
  h.step hg.os hg.tape hg.output hg.size fun k hk _ => hg.block k (Nat.lt_of_lt_of_le hk h.size) fun e => by have := hr k e.symm; omega
theorem intInfo : (Tryd.prog.info? 3).map (fun i => (i.zero, i.size, i.bytes)) = some (some (.int .i64 0), 1, 8) := by kernel_rfl
theorem Rd.of_own {w : World} {base : Nat} {v : Value} {l : List Int} (h : w.ownsRow base 3 1 v l.length (l.map (Value.int .i64))) : Rd w v l := by
  obtain ⟨h1, h2 | ⟨g, cap, cur, h2, h3, h4, h5, h6, h7, h8⟩⟩ := h
  · obtain ⟨rfl, h3⟩ := h2
    have : l = [] := List.eq_nil_of_length_eq_zero h3
    subst this
    exact ⟨none, 0, rfl, Nat.le_refl _, Nat.zero_le _, fun h => absurd h (by simp)⟩
  · refine ⟨some ⟨g, 0, none⟩, cap, h2, h5, h6, fun hl => ⟨_, rfl, fun j x hj => ?_⟩⟩
    have hc : (l.map (Value.int .i64))[j]? = some (.int .i64 x) := by simp [hj]
    rw [← h8] at hc
    have hj' : j < l.length := by
      rcases Nat.lt_or_ge j l.length with h | h
      · exact h
      · rw [List.getElem?_eq_none h] at hj; cases hj
    rw [List.getElem?_take_of_lt (by omega), Array.getElem?_toList] at hc
    have : (⟨g, 0, none⟩ : Addr).add j = ⟨g, j, none⟩ := by
      unfold Addr.add
      split
      · rename_i h; subst h; rfl
      · simp
    rw [this]
    simp [World.cell?, h4, hc]
set_option maxHeartbeats 4000000 in
theorem back_walk (l : List Int) (v : Value) (w : World) (hl : l.length ≤ 100) (hv : Rd w v l) :
    Calls Tryd.prog 15 #[v] w fun e w' => Aside (∃ v', e = .returned v' ∧ Rd w' v' l.reverse ∧ Nw w w') := by
  obtain ⟨A, c, rfl, hla, hca, hA⟩ := hv.at_
  obtain ⟨i0, hi, hz0, hz1, hz2⟩ := info_parts intInfo
  clear hv hca
  go_enter Tryd.func15, Tryd.ntmps15
  go_wp2
  go_loopg [3, 4] l.length (fun k s v wr => v = .int .i64 ((k : Int) - 1) ∧ k ≤ l.length ∧ Nw w wr ∧ wr.ownsRow w.heap.size 3 1 s (l.length - k) ((l.reverse.take (l.length - k)).map (Value.int .i64)))
  case atStart => exact ⟨rfl, Nat.le_refl _, (Wrt.refl w _).alloc _, by simpa using World.ownsRow_made w #[] 0 (base := w.heap.size) (Nat.le_refl _) (Nat.zero_le _) rfl⟩
  case round =>
    obtain ⟨rfl, hk, hnw, hown⟩ := hrel
    rcases Nat.eq_zero_or_pos gk with rfl | hpos
    · have A1 : Aside (Nw w wr ∧ wr.ownsRow w.heap.size 3 1 u3 (l.length - 0) ((l.reverse.take (l.length - 0)).map (Value.int .i64))) := ⟨hnw, hown⟩
      clear hnw hown hA
      go_wp2
      obtain ⟨q1, q2⟩ := A1.out
      go_ret
      refine ⟨_, rfl, Rd.of_own (base := w.heap.size) ?_, q1⟩
      simpa [List.take_of_length_le] using q2
    · obtain ⟨ad, rfl, hc1⟩ := hA (gk - 1) (by omega)
      replace hc1 := hnw.cellA hc1
      have hsub : ((gk : Int) - 1) = ((gk - 1 : Nat) : Int) := by omega
      rw [hsub]
      obtain ⟨x, hx⟩ : ∃ x, x = l.getD (gk - 1) 0 := ⟨_, rfl⟩
      rw [← hx] at hc1
      obtain ⟨m, hm⟩ : ∃ m, m = gk - 1 := ⟨_, rfl⟩
      rw [← hm] at hc1 hx ⊢
      generalize hxs : (l.reverse.take (l.length - gk)).map (Value.int .i64) = xs at hown
      have hgl : gk ≤ l.length := hk
      have A1 : Aside ((m = gk - 1 ∧ x = l.getD m 0 ∧ (l.reverse.take (l.length - gk)).map (Value.int .i64) = xs) ∧ Nw w wr) := ⟨⟨hm, hx, hxs⟩, hnw⟩
      have hml : m < l.length := by omega
      have hlen : l.length - gk ≤ 100 := by omega
      have hsz := hnw.size
      clear hm hx hA hsub hk hxs hnw
      go_wp2_with (first
        | (at_builtin; refine wpList_append_own _ rfl _ _ 22 rfl w.heap.size 3 i0 (.int .i64 0) 1 8 Tryd.underlying22 hi hz0 hz1 hz2 rfl (by decide) _ _ _ rfl (hown.alloc _) ⟨wr.heap.size, 0, none⟩ 1 1 [.int .i64 x] rfl rfl ?c1 ?c2 ?c3 ?c4 ?c5 ?_)
        | go_in)
      case c1 =>
        intro j u hj
        match j, hj with
        | 0, hj => simp at hj; subst hj; simp [Addr.add]
      case c2 => intro u hu; simp at hu; subst hu; rfl
      case c3 => unfold maxLen; omega
      case c4 => omega
      case c5 => simp; omega
      · intro v' w1 hown' hgrow _
        obtain ⟨⟨q1, q2, q0⟩, q3⟩ := A1.out
        have hlt := hown.lt
        have hnw1 : Nw w w1 := grownNw (q3.alloc _) hgrow fun g hg => (hlt g hg).1
        have A2 : Aside (Nw w w1 ∧ w1.ownsRow w.heap.size 3 1 v' (l.length - gk + 1) (xs ++ [.int .i64 x])) := ⟨hnw1, hown'⟩
        have A3 : Aside (m = gk - 1 ∧ x = l.getD m 0 ∧ (l.reverse.take (l.length - gk)).map (Value.int .i64) = xs) := ⟨q1, q2, q0⟩
        clear q0 q1 q2 q3 hlt hnw1 hown' hgrow hown hc1 A1
        go_wp2
        obtain ⟨q1, q2⟩ := A2.out
        obtain ⟨q3, q4, q5⟩ := A3.out
        go_roundg m
        case measure => omega
        case rel =>
          refine ⟨rfl, by omega, q1, ?_⟩
          rw [show l.length - m = l.length - gk + 1 by omega]
          have e : (l.reverse.take (l.length - gk + 1)).map (Value.int .i64) = xs ++ [.int .i64 x] := by
            rw [List.take_succ_eq_append_getElem (by simp; omega), List.map_append, q5]
            simp only [List.map_cons, List.map_nil, List.getElem_reverse]
            have : l.length - 1 - (l.length - gk) = m := by omega
            simp only [this]
            rw [q4]
            simp [hml]
          rw [e]
          exact q2
end Go.Proofs.YtkpbbhcdmkmnfaaDoor
