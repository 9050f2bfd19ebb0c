/- rows, and the events that form them; plain -/
import Derived.Test.YtjhnfmfajbghbaaDoorAWholePlain
set_option linter.unusedSimpArgs false
set_option linter.unusedVariables false
namespace Go.Proofs.YtjhnfmfajbghbaaDoor
open Go.Rex
def begEv (r : Rw) : Ev := ⟨r.thread, true, r.kind, r.key, r.val, r.tall, 0, 0⟩
def endEv (r : Rw) : Ev := ⟨r.thread, false, 0, 0, 0, 0, r.code, r.ans⟩
def wholeOf (rows : List Rw) : List Rw := rows.filter (·.done)
structure Told (evs : List Ev) (rows : List Rw) : Prop where
  beg : ∀ r ∈ rows, evs[r.fr.toNat]? = some (begEv r)
  fin : ∀ r ∈ rows, r.done = true → evs[r.to.toNat]? = some (endEv r)
  all : ∀ i : Nat, i < evs.length → ∃ r ∈ rows, r.fr = (i : Int) ∨ (r.done = true ∧ r.to = (i : Int))
  len : rows.length + (wholeOf rows).length = evs.length
  to : ∀ (i j : Nat) (r s : Rw), rows[i]? = some r → rows[j]? = some s → r.done = true → s.done = true → r.to = s.to → i = j
theorem filter_modify {p : Rw → Bool} {f : Rw → Rw} : ∀ {rows : List Rw} {k : Nat} {x : Rw}, rows[k]? = some x → p x = false → p (f x) = true → ((rows.modify k f).filter p).length = (rows.filter p).length + 1
  | [], k, x, h, _, _ => by simp at h
  | a :: l, 0, x, h, h1, h2 => by
    simp only [List.getElem?_cons_zero, Option.some.injEq] at h
    subst h
    simp [List.modify_zero_cons, List.filter_cons, h1, h2]
  | a :: l, k + 1, x, h, h1, h2 => by
    have := filter_modify (rows := l) (k := k) (by simpa using h) h1 h2
    simp only [List.modify_succ_cons, List.filter_cons]
    split
    · simp only [List.length_cons, this]
    · exact this
theorem Told.step {l : List Ev} {rows rows' : List Rw} {e : Ev} (hH : Hist l.length rows) (h : Told l rows) (hs : stepRows l.length rows e = some rows') : Told (l ++ [e]) rows' := by
  have low : ∀ i : Nat, i < l.length → (l ++ [e])[i]? = l[i]? := fun i hi => List.getElem?_append_left hi
  have last : (l ++ [e])[l.length]? = some e := by simp
  unfold stepRows at hs
  split at hs
  · cases hs
  rename_i hw
  have hw : wrongEv e = false := by simpa using hw
  split at hs
  · rename_i k hk
    split at hs
    · cases hs
    rename_i hb
    have hb : e.begins = false := by simpa using hb
    cases hs
    obtain ⟨x, x1, x2, x3⟩ := openAt_some hk
    have he : endEv (endRw l.length e x) = e := by
      unfold wrongEv at hw
      rw [hb] at hw
      simp only [Bool.false_eq_true, if_false, Bool.not_eq_false', Bool.and_eq_true, decide_eq_true_eq] at hw
      obtain ⟨⟨⟨w1, w2⟩, w3⟩, w4⟩ := hw
      obtain ⟨e1, e2, e3, e4, e5, e6, e7, e8⟩ := e
      simp only at w1 w2 w3 w4 hb x2
      simp [endEv, endRw, w1, w2, w3, w4, hb, x2]
    refine ⟨fun r hr => ?_, fun r hr hd => ?_, fun i hi => ?_, ?_, fun i j r s hi hj h1 h2 h3 => ?_⟩
    · obtain ⟨i, hi⟩ := mem_at hr
      rcases modify_get hi with ⟨_, hi⟩ | ⟨rfl, y, hy, rfl⟩
      · have hm := List.mem_of_getElem? hi
        have := hH.fr r hm
        rw [low _ (by omega)]
        exact h.beg r hm
      · have hm := List.mem_of_getElem? hy
        have := hH.fr y hm
        rw [show (endRw (l.length : Int) e y).fr = y.fr from rfl, low _ (by omega)]
        exact h.beg y hm
    · obtain ⟨i, hi⟩ := mem_at hr
      rcases modify_get hi with ⟨_, hi⟩ | ⟨rfl, y, hy, rfl⟩
      · have hm := List.mem_of_getElem? hi
        have := hH.to r hm hd
        rw [low _ (by omega)]
        exact h.fin r hm hd
      · rw [x1] at hy
        cases hy
        rw [show (endRw (l.length : Int) e x).to = (l.length : Int) from rfl, Int.toNat_natCast, last, he]
    · rw [List.length_append, List.length_singleton] at hi
      have hkm : ∃ r, r ∈ rows.modify k (endRw (l.length : Int) e) ∧ r = endRw (l.length : Int) e x := ⟨_, List.mem_of_getElem? (show (rows.modify k (endRw (l.length : Int) e))[k]? = some (endRw (l.length : Int) e x) by rw [List.getElem?_modify, x1]; simp), rfl⟩
      by_cases hl : i < l.length
      · obtain ⟨r, r1, r2⟩ := h.all i hl
        obtain ⟨j, hj⟩ := mem_at r1
        by_cases hjk : k = j
        · subst hjk
          rw [x1] at hj
          cases hj
          obtain ⟨r', m1, rfl⟩ := hkm
          refine ⟨_, m1, ?_⟩
          rcases r2 with r2 | r2
          · exact .inl r2
          · rw [x3] at r2
            cases r2.1
        · refine ⟨r, List.mem_of_getElem? (i := j) ?_, r2⟩
          rw [List.getElem?_modify, hj]
          simp [hjk]
      · obtain ⟨r', m1, rfl⟩ := hkm
        exact ⟨_, m1, .inr ⟨rfl, by show (l.length : Int) = i; omega⟩⟩
    · have := h.len
      have h2 := filter_modify (p := fun r : Rw => r.done) (f := endRw (l.length : Int) e) x1 x3 rfl
      unfold wholeOf at *
      rw [List.length_modify, h2, List.length_append, List.length_singleton]
      omega
    · rcases modify_get hi with ⟨_, hi'⟩ | ⟨hi', y, hy, ey⟩ <;> rcases modify_get hj with ⟨_, hj'⟩ | ⟨hj', z, hz, ez⟩
      · exact h.to i j r s hi' hj' h1 h2 h3
      · have := hH.to r (List.mem_of_getElem? hi') h1
        have h4 : r.to = (l.length : Int) := by rw [h3, ez]; rfl
        omega
      · have := hH.to s (List.mem_of_getElem? hj') h2
        have h4 : (l.length : Int) = s.to := by rw [← h3, ey]; rfl
        omega
      · rw [hi', hj']
  · rename_i hk
    split at hs
    · rename_i hb
      cases hs
      have he : begEv (begRw l.length e) = e := by
        unfold wrongEv at hw
        rw [hb] at hw
        simp only [if_true, Bool.not_eq_false', Bool.and_eq_true, decide_eq_true_eq] at hw
        obtain ⟨w1, w2⟩ := hw
        obtain ⟨e1, e2, e3, e4, e5, e6, e7, e8⟩ := e
        simp only at w1 w2 hb
        simp [begEv, begRw, w1, w2, hb]
      have old : ∀ {r : Rw}, r ∈ rows ++ [begRw (l.length : Int) e] → r ∈ rows ∨ r = begRw (l.length : Int) e := fun hr => by simpa using hr
      refine ⟨fun r hr => ?_, fun r hr hd => ?_, fun i hi => ?_, ?_, fun i j r s hi hj h1 h2 h3 => ?_⟩
      · rcases old hr with hr | rfl
        · have := hH.fr r hr
          rw [low _ (by omega)]
          exact h.beg r hr
        · rw [show (begRw (l.length : Int) e).fr = (l.length : Int) from rfl, Int.toNat_natCast, last, he]
      · rcases old hr with hr | rfl
        · have := hH.to r hr hd
          rw [low _ (by omega)]
          exact h.fin r hr hd
        · cases hd
      · rw [List.length_append, List.length_singleton] at hi
        by_cases hl : i < l.length
        · obtain ⟨r, r1, r2⟩ := h.all i hl
          exact ⟨r, List.mem_append_left _ r1, r2⟩
        · exact ⟨begRw (l.length : Int) e, by simp, .inl (by show (l.length : Int) = i; omega)⟩
      · have := h.len
        unfold wholeOf at *
        have e2 : (begRw (l.length : Int) e).done = false := rfl
        simp only [List.length_append, List.length_singleton, List.filter_append, List.filter_cons, e2, Bool.false_eq_true, if_false, List.filter_nil, List.length_nil]
        omega
      · rcases push_get hi with hi | ⟨hi, rfl⟩
        · rcases push_get hj with hj | ⟨hj, rfl⟩
          · exact h.to i j r s hi hj h1 h2 h3
          · cases h2
        · cases h1
    · cases hs
theorem told_take {l : List Ev} : ∀ {n : Nat}, n ≤ l.length → ∀ {rows : List Rw}, rowsOf (l.take n) = some rows → Told (l.take n) rows
  | 0, _, rows, h => by
    simp only [List.take_zero, rowsOf, rowsFrom, Option.some.injEq] at h
    subst h
    exact ⟨fun r hr => (by cases hr), fun r hr => (by cases hr), fun i hi => (by simp at hi), rfl, fun i j r s hi => (by simp at hi)⟩
  | n + 1, hn, rows, h => by
    rw [List.take_succ_eq_append_getElem (by omega)] at h ⊢
    rw [rowsOf_snoc] at h
    cases h1 : rowsOf (l.take n) with
    | none => rw [h1] at h; cases h
    | some r1 =>
      rw [h1] at h
      have h2 := told_take (by omega) h1
      exact h2.step (rowsOf_hist h1) h
theorem rowsOf_told {l : List Ev} {rows : List Rw} (h : rowsOf l = some rows) : Told l rows := by
  have := told_take (l := l) (n := l.length) (Nat.le_refl _) (rows := rows) (by rwa [List.take_length])
  rwa [List.take_length] at this
/-- the places that are taken when so many rows, and of the next one its beginning if 'half', have been put -/
def Taken (rows : List Rw) (j : Nat) (half : Bool) (i : Nat) : Prop :=
  (∃ (k : Nat) (r : Rw), k < j ∧ rows[k]? = some r ∧ (r.fr = (i : Int) ∨ (r.done = true ∧ r.to = (i : Int)))) ∨ (half = true ∧ ∃ r, rows[j]? = some r ∧ r.fr = (i : Int))
def OfInv (rows : List Rw) (j : Nat) (half : Bool) (ev : Nat → Ev) (tk : Nat → Bool) : Prop :=
  ∀ evs, rowsOf evs = some rows → ∀ i : Nat, i < rows.length + (wholeOf rows).length → (tk i = true ↔ Taken rows j half i) ∧ (tk i = true → evs[i]? = some (ev i))
theorem OfInv.init (rows : List Rw) (ev : Nat → Ev) {tk : Nat → Bool} (h : ∀ i, tk i = false) : OfInv rows 0 false ev tk := by
  intro evs _ i _
  rw [h i]
  refine ⟨⟨fun h => (by cases h), fun h => ?_⟩, fun h => (by cases h)⟩
  rcases h with ⟨k, r, hk, _⟩ | ⟨h, _⟩
  · omega
  · cases h
theorem OfInv.beg {rows : List Rw} {j : Nat} {ev ev' : Nat → Ev} {tk tk' : Nat → Bool} {r : Rw} (h : OfInv rows j false ev tk) (hr : rows[j]? = some r)
    (h1 : ∀ i, ev' i = if r.fr = (i : Int) then begEv r else ev i) (h2 : ∀ i, tk' i = if r.fr = (i : Int) then true else tk i) : OfInv rows j true ev' tk' := by
  intro evs he i hi
  obtain ⟨a, b⟩ := h evs he i hi
  rw [h1, h2]
  by_cases hx : r.fr = (i : Int)
  · rw [if_pos hx, if_pos hx]
    refine ⟨⟨fun _ => .inr ⟨rfl, r, hr, hx⟩, fun _ => rfl⟩, fun _ => ?_⟩
    have := (rowsOf_told he).beg r (List.mem_of_getElem? hr)
    rwa [hx, Int.toNat_natCast] at this
  · rw [if_neg hx, if_neg hx]
    refine ⟨⟨fun ht => ?_, fun ht => ?_⟩, b⟩
    · rcases a.1 ht with h | ⟨h, _⟩
      · exact .inl h
      · cases h
    · rcases ht with h | ⟨_, s, hs, hf⟩
      · exact a.2 (.inl h)
      · rw [hr] at hs
        cases hs
        exact absurd hf hx
theorem OfInv.end {rows : List Rw} {j : Nat} {ev ev' : Nat → Ev} {tk tk' : Nat → Bool} {r : Rw} (h : OfInv rows j true ev tk) (hr : rows[j]? = some r) (hd : r.done = true)
    (h1 : ∀ i, ev' i = if r.to = (i : Int) then endEv r else ev i) (h2 : ∀ i, tk' i = if r.to = (i : Int) then true else tk i) : OfInv rows (j + 1) false ev' tk' := by
  intro evs he i hi
  obtain ⟨a, b⟩ := h evs he i hi
  rw [h1, h2]
  by_cases hx : r.to = (i : Int)
  · rw [if_pos hx, if_pos hx]
    refine ⟨⟨fun _ => .inl ⟨j, r, by omega, hr, .inr ⟨hd, hx⟩⟩, fun _ => rfl⟩, fun _ => ?_⟩
    have := (rowsOf_told he).fin r (List.mem_of_getElem? hr) hd
    rwa [hx, Int.toNat_natCast] at this
  · rw [if_neg hx, if_neg hx]
    refine ⟨⟨fun ht => ?_, fun ht => ?_⟩, b⟩
    · rcases a.1 ht with ⟨k, s, hk, hs, hf⟩ | ⟨_, s, hs, hf⟩
      · exact .inl ⟨k, s, by omega, hs, hf⟩
      · exact .inl ⟨j, s, by omega, hs, .inl hf⟩
    · rcases ht with ⟨k, s, hk, hs, hf⟩ | ⟨h, _⟩
      · by_cases hkj : k = j
        · subst hkj
          rw [hr] at hs
          cases hs
          rcases hf with hf | hf
          · exact a.2 (.inr ⟨rfl, r, hr, hf⟩)
          · exact absurd hf.2 hx
        · exact a.2 (.inl ⟨k, s, by omega, hs, hf⟩)
      · cases h
theorem OfInv.no {rows : List Rw} {j : Nat} {ev : Nat → Ev} {tk : Nat → Bool} {r : Rw} (h : OfInv rows j true ev tk) (hr : rows[j]? = some r) (hd : r.done = false) : OfInv rows (j + 1) false ev tk := by
  intro evs he i hi
  obtain ⟨a, b⟩ := h evs he i hi
  refine ⟨⟨fun ht => ?_, fun ht => ?_⟩, b⟩
  · rcases a.1 ht with ⟨k, s, hk, hs, hf⟩ | ⟨_, s, hs, hf⟩
    · exact .inl ⟨k, s, by omega, hs, hf⟩
    · exact .inl ⟨j, s, by omega, hs, .inl hf⟩
  · rcases ht with ⟨k, s, hk, hs, hf⟩ | ⟨h, _⟩
    · by_cases hkj : k = j
      · subst hkj
        rw [hr] at hs
        cases hs
        rcases hf with hf | hf
        · exact a.2 (.inr ⟨rfl, r, hr, hf⟩)
        · rw [hd] at hf
          cases hf.1
      · exact a.2 (.inl ⟨k, s, by omega, hs, hf⟩)
    · cases h
/-- of rows of a history no beginning falls out -/
theorem OfInv.begOK {rows : List Rw} {j : Nat} {ev : Nat → Ev} {tk : Nat → Bool} {r : Rw} (h : OfInv rows j false ev tk) (hr : rows[j]? = some r)
    (hbad : r.fr < 0 ∨ ((rows.length + (wholeOf rows).length : Nat) : Int) ≤ r.fr ∨ tk r.fr.toNat = true) {evs : List Ev} : rowsOf evs ≠ some rows := by
  intro he
  have hH := rowsOf_hist he
  have hT := rowsOf_told he
  have hm := List.mem_of_getElem? hr
  have h1 := hH.fr r hm
  have h2 := hT.len
  have h3 : tk r.fr.toNat = true := by rcases hbad with h | h | h <;> first | omega | exact h
  obtain ⟨a, -⟩ := h evs he r.fr.toNat (by omega)
  rcases a.1 h3 with ⟨k, s, hk, hs, hf⟩ | ⟨h, _⟩
  · rcases hf with hf | ⟨hd, hf⟩
    · have := hH.inj k j s r hs hr (by omega)
      omega
    · exact hH.apart s (List.mem_of_getElem? hs) r hm hd (by omega)
  · cases h
theorem OfInv.endOK {rows : List Rw} {j : Nat} {ev : Nat → Ev} {tk : Nat → Bool} {r : Rw} (h : OfInv rows j true ev tk) (hr : rows[j]? = some r) (hd : r.done = true)
    (hbad : r.to < 0 ∨ ((rows.length + (wholeOf rows).length : Nat) : Int) ≤ r.to ∨ tk r.to.toNat = true) {evs : List Ev} : rowsOf evs ≠ some rows := by
  intro he
  have hH := rowsOf_hist he
  have hT := rowsOf_told he
  have hm := List.mem_of_getElem? hr
  have h1 := hH.to r hm hd
  have h2 := hT.len
  have h3 : tk r.to.toNat = true := by rcases hbad with h | h | h <;> first | omega | exact h
  obtain ⟨a, -⟩ := h evs he r.to.toNat (by omega)
  rcases a.1 h3 with ⟨k, s, hk, hs, hf⟩ | ⟨_, s, hs, hf⟩
  · rcases hf with hf | ⟨hd2, hf⟩
    · exact hH.apart r hm s (List.mem_of_getElem? hs) hd (by omega)
    · have := hT.to k j s r hs hr hd2 hd (by omega)
      omega
  · rw [hr] at hs
    cases hs
    exact hH.apart r hm r hm hd (by omega)
/-- when all is put, all is told -/
theorem OfInv.all {rows : List Rw} {ev : Nat → Ev} {tk : Nat → Bool} (h : OfInv rows rows.length false ev tk) {evs : List Ev} (he : rowsOf evs = some rows) : evs = (List.range (rows.length + (wholeOf rows).length)).map ev := by
  have hT := rowsOf_told he
  apply List.ext_getElem?
  intro i
  rw [List.getElem?_map]
  by_cases hi : i < rows.length + (wholeOf rows).length
  · obtain ⟨a, b⟩ := h evs he i hi
    rw [List.getElem?_range hi]
    apply b
    apply a.2
    obtain ⟨r, r1, r2⟩ := hT.all i (by rw [← hT.len]; exact hi)
    obtain ⟨k, hk⟩ := mem_at r1
    exact .inl ⟨k, r, (List.getElem?_eq_some_iff.1 hk).1, hk, r2⟩
  · rw [List.getElem?_eq_none (by rw [← hT.len]; omega), List.getElem?_eq_none (by simp; omega)]
    rfl
end Go.Proofs.YtjhnfmfajbghbaaDoor
