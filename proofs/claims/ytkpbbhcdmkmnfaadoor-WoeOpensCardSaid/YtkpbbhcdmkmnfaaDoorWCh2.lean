/- chains of *woe.Woe: At, Of, is -/
import Derived.Test.YtkpbbhcdmkmnfaaDoorWCh
import Derived.Test.YtkpbbhcdmkmnfaaDoorFind
set_option linter.unusedSimpArgs false
set_option linter.unusedVariables false
namespace Go.Proofs.YtkpbbhcdmkmnfaaDoor
open Go.RowKit Go.Extern.Stop Go.Stop Go.Extern Go.Rex
/-- new memory at most -/
abbrev Nw (w w' : World) : Prop := Wrt w (fun _ => False) w'
theorem Nw.trans {a b c : World} (h1 : Nw a b) (h2 : Nw b c) : Nw a c :=
  h1.step h2.os h2.tape h2.output h2.size fun k hk hn => h2.block k (Nat.lt_of_lt_of_le hk h1.size) hn
theorem cell_lt {w : World} {b o : Nat} {x : Value} (h : w.cell? ⟨b, o, none⟩ = some x) : b < w.heap.size := World.block_lt_of_cell? _ _ h
theorem Nw.cell {w w' : World} (h : Nw w w') {b o : Nat} {x : Value} (hc : w.cell? ⟨b, o, none⟩ = some x) : w'.cell? ⟨b, o, none⟩ = some x := by
  rw [← hc]
  unfold World.cell?
  rw [h.block _ (cell_lt hc) id]
theorem Nw.ch {w w' : World} (h : Nw w w') {base : Value} : ∀ {ps : List Int} {v : Value}, IsCh w base ps v → IsCh w' base ps v
  | [], _, hv => hv
  | _ :: _, _, ⟨b, u, h1, h2, h3, h4⟩ => ⟨b, u, h1, h.cell h2, h.cell h3, h.ch h4⟩
theorem Nw.sen {w w' : World} (h : Nw w w') {b : Addr} (hb : IsSen w b) : IsSen w' b := by
  obtain ⟨x, t, hx⟩ := hb
  refine ⟨x, t, ?_⟩
  rw [h.block b.block ?_ id, hx]
  rcases Nat.lt_or_ge b.block w.heap.size with h | h
  · exact h
  · rw [Array.getElem?_eq_none h] at hx
    cases hx
/-- wrapping -/
theorem at_walk (p : Int) (T : TypeId) (x : Value) (w : World) : Calls Tryd.prog 18 #[.int .i64 p, .iface T x] w fun e w' => e = .returned (.iface 41 (.pointer (some ⟨w.heap.size, 0, none⟩))) ∧ w' = w.alloc (.cells #[.int .i64 p, .iface T x] 45) := by
  go_enter Tryd.func18, Tryd.ntmps18
  go_wp2
  go_ret
  exact ⟨rfl, rfl⟩
theorem at_nil (p : Int) (w : World) : Calls Tryd.prog 18 #[.int .i64 p, .nilIface] w fun e w' => e = .returned .nilIface ∧ w' = w := by
  go_enter Tryd.func18, Tryd.ntmps18
  go_wp2
  go_ret
  exact ⟨rfl, rfl⟩
/-- the named errors: where they lie -/
structure Sen (w : World) (S : Nat → Addr) : Prop where
  cell : ∀ k, k < 11 → w.cell? ⟨k, 0, none⟩ = some (.iface 56 (.pointer (some (S k))))
  sen : ∀ k, k < 11 → IsSen w (S k)
  one : ∀ i j, i < 11 → j < 11 → S i = S j → i = j
theorem Sen.nw {w w' : World} {S : Nat → Addr} (h : Sen w S) (hn : Nw w w') : Sen w' S := ⟨fun k hk => hn.cell (h.cell k hk), fun k hk => hn.sen (h.sen k hk), h.one⟩
/-- the error with a number -/
def ofV (S : Nat → Addr) (n : Int) : Value := if 1 ≤ n ∧ n ≤ 11 then .iface 56 (.pointer (some (S (n - 1).toNat))) else .nilIface
theorem of_walk (n : Int) (S : Nat → Addr) (w : World) (hS : Sen w S) : Calls Tryd.prog 17 #[.int .i64 n] w fun e w' => e = .returned (ofV S n) ∧ w' = w := by
  have h0 := hS.cell 0 (by decide)
  have h1 := hS.cell 1 (by decide)
  have h2 := hS.cell 2 (by decide)
  have h3 := hS.cell 3 (by decide)
  have h4 := hS.cell 4 (by decide)
  have h5 := hS.cell 5 (by decide)
  have h6 := hS.cell 6 (by decide)
  have h7 := hS.cell 7 (by decide)
  have h8 := hS.cell 8 (by decide)
  have h9 := hS.cell 9 (by decide)
  have h10 := hS.cell 10 (by decide)
  clear hS
  go_enter Tryd.func17, Tryd.ntmps17
  go_wp2
  all_goals go_ret
  all_goals first
    | (have hq : (n == 1) = true := (by assumption); obtain rfl := eq_of_beq hq; exact ⟨rfl, rfl⟩)
    | (have hq : (n == 2) = true := (by assumption); obtain rfl := eq_of_beq hq; exact ⟨rfl, rfl⟩)
    | (have hq : (n == 3) = true := (by assumption); obtain rfl := eq_of_beq hq; exact ⟨rfl, rfl⟩)
    | (have hq : (n == 4) = true := (by assumption); obtain rfl := eq_of_beq hq; exact ⟨rfl, rfl⟩)
    | (have hq : (n == 5) = true := (by assumption); obtain rfl := eq_of_beq hq; exact ⟨rfl, rfl⟩)
    | (have hq : (n == 6) = true := (by assumption); obtain rfl := eq_of_beq hq; exact ⟨rfl, rfl⟩)
    | (have hq : (n == 7) = true := (by assumption); obtain rfl := eq_of_beq hq; exact ⟨rfl, rfl⟩)
    | (have hq : (n == 8) = true := (by assumption); obtain rfl := eq_of_beq hq; exact ⟨rfl, rfl⟩)
    | (have hq : (n == 9) = true := (by assumption); obtain rfl := eq_of_beq hq; exact ⟨rfl, rfl⟩)
    | (have hq : (n == 10) = true := (by assumption); obtain rfl := eq_of_beq hq; exact ⟨rfl, rfl⟩)
    | (have hq : (n == 11) = true := (by assumption); obtain rfl := eq_of_beq hq; exact ⟨rfl, rfl⟩)
    | (have q1 : (n == 1) = false := (by assumption); have q2 : (n == 2) = false := (by assumption); have q3 : (n == 3) = false := (by assumption); have q4 : (n == 4) = false := (by assumption); have q5 : (n == 5) = false := (by assumption); have q6 : (n == 6) = false := (by assumption); have q7 : (n == 7) = false := (by assumption); have q8 : (n == 8) = false := (by assumption); have q9 : (n == 9) = false := (by assumption); have q10 : (n == 10) = false := (by assumption); have q11 : (n == 11) = false := (by assumption); refine ⟨congrArg Ending.returned (Eq.symm (if_neg (fun h => ?_))), rfl⟩; replace q1 := ne_of_beq_false q1; replace q2 := ne_of_beq_false q2; replace q3 := ne_of_beq_false q3; replace q4 := ne_of_beq_false q4; replace q5 := ne_of_beq_false q5; replace q6 := ne_of_beq_false q6; replace q7 := ne_of_beq_false q7; replace q8 := ne_of_beq_false q8; replace q9 := ne_of_beq_false q9; replace q10 := ne_of_beq_false q10; replace q11 := ne_of_beq_false q11; omega)
end Go.Proofs.YtkpbbhcdmkmnfaaDoor
