/- rows of one thread stand one behind the other; plain -/
import Derived.Test.YtjhnfmfajbghbaaDoorARowsPlain
set_option linter.unusedSimpArgs false
set_option linter.unusedVariables false
namespace Go.Proofs.YtjhnfmfajbghbaaDoor
open Go.Rex
/-- rows that lie ahead of a number -/
structure Good (n : Int) (rows : List Rw) : Prop where
  fr : ∀ (i : Nat) (r : Rw), rows[i]? = some r → r.fr < n ∧ (r.done = true → r.fr < r.to ∧ r.to < n)
  ord : ∀ (i j : Nat) (r s : Rw), rows[i]? = some r → rows[j]? = some s → i < j → r.thread = s.thread → r.done = true ∧ r.to < s.fr
theorem Good.step {n : Int} {rows rows' : List Rw} {e : Ev} (h : Good n rows) (hs : stepRows n rows e = some rows') : Good (n + 1) rows' := by
  unfold stepRows at hs
  split at hs
  · cases hs
  split at hs
  · rename_i k hk
    split at hs
    · cases hs
    cases hs
    obtain ⟨x, x1, x2, x3⟩ := openAt_some hk
    refine ⟨fun i r hi => ?_, fun i j r s hi hj hij ht => ?_⟩
    · rcases modify_get hi with ⟨_, hi⟩ | ⟨rfl, y, hy, rfl⟩
      · obtain ⟨a, b⟩ := h.fr i r hi
        exact ⟨by omega, fun hd => ⟨(b hd).1, by have := (b hd).2; omega⟩⟩
      · obtain ⟨a, b⟩ := h.fr i y hy
        exact ⟨by show y.fr < n + 1; omega, fun _ => ⟨a, by show n < n + 1; omega⟩⟩
    · have old : ∀ {j : Nat} {s : Rw}, (rows.modify k (endRw n e))[j]? = some s → ∃ y, rows[j]? = some y ∧ y.thread = s.thread ∧ y.fr = s.fr := by
        intro j s hj
        rcases modify_get hj with ⟨_, hj⟩ | ⟨rfl, y, hy, rfl⟩
        · exact ⟨s, hj, rfl, rfl⟩
        · exact ⟨y, hy, rfl, rfl⟩
      obtain ⟨y, y1, y2, y3⟩ := old hj
      rcases modify_get hi with ⟨_, hi⟩ | ⟨rfl, z, hz, rfl⟩
      · have := h.ord i j r y hi y1 hij (ht.trans y2.symm)
        exact ⟨this.1, by rw [← y3]; exact this.2⟩
      · -- the row that ends is the last one of its thread
        rw [x1] at hz
        cases hz
        have := h.ord i j x y x1 y1 hij (by rw [y2]; exact ht)
        rw [x3] at this
        cases this.1
  · rename_i hk
    split at hs
    · cases hs
      refine ⟨fun i r hi => ?_, fun i j r s hi hj hij ht => ?_⟩
      · rcases push_get hi with hi | ⟨_, rfl⟩
        · obtain ⟨a, b⟩ := h.fr i r hi
          exact ⟨by omega, fun hd => ⟨(b hd).1, by have := (b hd).2; omega⟩⟩
        · exact ⟨by show n < n + 1; omega, fun hd => (by cases hd)⟩
      · rcases push_get hi with hi' | ⟨hi', er⟩ <;> rcases push_get hj with hj' | ⟨hj', es⟩
        · exact h.ord i j r s hi' hj' hij ht
        · have hd := openAt_none hk hi' (ht.trans (by rw [es]; rfl))
          refine ⟨hd, ?_⟩
          rw [es]
          exact ((h.fr i r hi').2 hd).2
        · have := (List.getElem?_eq_some_iff.1 hj').1
          omega
        · omega
    · cases hs
theorem Good.from : ∀ {l : List Ev} {n : Int} {rows rows' : List Rw}, Good n rows → rowsFrom n rows l = some rows' → Good (n + l.length) rows'
  | [], n, rows, rows', h, hr => by
    simp only [rowsFrom, Option.some.injEq] at hr
    subst hr
    simpa using h
  | e :: r, n, rows, rows', h, hr => by
    simp only [rowsFrom] at hr
    split at hr
    · rename_i x hx
      have := (h.step hx).from hr
      rw [show n + ((e :: r).length : Nat) = n + 1 + (r.length : Nat) by simp only [List.length_cons]; omega]
      exact this
    · cases hr
theorem rowsOf_good {l : List Ev} {rows : List Rw} (h : rowsOf l = some rows) : Good l.length rows := by
  have := Good.from (n := 0) (rows := []) ⟨fun i r hi => (by simp at hi), fun i j r s hi => (by simp at hi)⟩ h
  simpa using this
end Go.Proofs.YtjhnfmfajbghbaaDoor
