/- the rows that were answered form a history by themselves; plain -/
import Derived.Test.YtjhnfmfajbghbaaDoorAOrdPlain
set_option linter.unusedSimpArgs false
set_option linter.unusedVariables false
namespace Go.Proofs.YtjhnfmfajbghbaaDoor
open Go.Rex
/-- the events at places that are not named -/
def keptFrom (U : Nat → Bool) : Nat → List Ev → List Ev
  | _, [] => []
  | i, e :: r => if U i then keptFrom U (i + 1) r else e :: keptFrom U (i + 1) r
/-- how many places below are not named -/
def below (U : Nat → Bool) : Nat → Nat
  | 0 => 0
  | n + 1 => below U n + if U n then 0 else 1
theorem below_mono (U : Nat → Bool) {x y : Nat} (h : x ≤ y) : below U x ≤ below U y := by
  induction h with
  | refl => exact Nat.le_refl _
  | step _ ih => exact Nat.le_trans ih (by simp [below])
theorem below_lt {U : Nat → Bool} {x y : Nat} (hx : U x = false) : below U x < below U y ↔ x < y := by
  constructor
  · intro h
    rcases Nat.lt_or_ge x y with h1 | h1
    · exact h1
    · have := below_mono U h1
      omega
  · intro h
    have h1 := below_mono U (show x + 1 ≤ y from h)
    simp only [below, hx, Bool.false_eq_true, if_false] at h1
    omega
def ren (U : Nat → Bool) (r : Rw) : Rw := { r with fr := below U r.fr.toNat, to := if r.done then (below U r.to.toNat : Int) else r.to }
def selR (U : Nat → Bool) (r : Rw) : Bool := !U r.fr.toNat
/-- rows of a history so far -/
structure Hist (n : Int) (rows : List Rw) : Prop where
  fr : ∀ r ∈ rows, 0 ≤ r.fr ∧ r.fr < n
  to : ∀ r ∈ rows, r.done = true → 0 ≤ r.to ∧ r.to < n
  inj : ∀ (i j : Nat) (r s : Rw), rows[i]? = some r → rows[j]? = some s → r.fr = s.fr → i = j
  apart : ∀ r ∈ rows, ∀ s ∈ rows, r.done = true → r.to ≠ s.fr
  uniq : Uniq rows
theorem Hist.nil : Hist 0 [] := ⟨fun r hr => (by cases hr), fun r hr => (by cases hr), fun i j r s hi => (by simp at hi), fun r hr => (by cases hr), fun i j r s hi => (by simp at hi)⟩
theorem mem_at {rows : List Rw} {r : Rw} (h : r ∈ rows) : ∃ i : Nat, rows[i]? = some r := List.getElem?_of_mem h
theorem Hist.step {n : Int} {rows rows' : List Rw} {e : Ev} (hn : 0 ≤ n) (h : Hist n rows) (hs : stepRows n rows e = some rows') : Hist (n + 1) rows' := by
  unfold stepRows at hs
  split at hs
  · cases hs
  split at hs
  · rename_i k hk
    split at hs
    · cases hs
    cases hs
    have old : ∀ {j : Nat} {s : Rw}, (rows.modify k (endRw n e))[j]? = some s → ∃ y, rows[j]? = some y ∧ y.fr = s.fr ∧ (s = y ∨ s = endRw n e y) := by
      intro j s hj
      rcases modify_get hj with ⟨_, hj⟩ | ⟨rfl, y, hy, rfl⟩
      · exact ⟨s, hj, rfl, .inl rfl⟩
      · exact ⟨y, hy, rfl, .inr rfl⟩
    refine ⟨fun r hr => ?_, fun r hr hd => ?_, fun i j r s hi hj hf => ?_, fun r hr s hs hd => ?_, uniq_end h.uniq⟩
    · obtain ⟨i, hi⟩ := mem_at hr
      obtain ⟨y, y1, y2, _⟩ := old hi
      have := h.fr y (List.mem_of_getElem? y1)
      omega
    · obtain ⟨i, hi⟩ := mem_at hr
      obtain ⟨y, y1, y2, rfl | rfl⟩ := old hi
      · have := h.to r (List.mem_of_getElem? y1) hd
        omega
      · exact ⟨hn, by show n < n + 1; omega⟩
    · obtain ⟨y, y1, y2, _⟩ := old hi
      obtain ⟨z, z1, z2, _⟩ := old hj
      exact h.inj i j y z y1 z1 (by omega)
    · obtain ⟨i, hi⟩ := mem_at hr
      obtain ⟨j, hj⟩ := mem_at hs
      obtain ⟨z, z1, z2, _⟩ := old hj
      have z3 := h.fr z (List.mem_of_getElem? z1)
      obtain ⟨y, y1, y2, rfl | rfl⟩ := old hi
      · rw [← z2]
        exact h.apart r (List.mem_of_getElem? y1) z (List.mem_of_getElem? z1) hd
      · show n ≠ s.fr
        omega
  · rename_i hk
    split at hs
    · cases hs
      have old : ∀ {r : Rw}, r ∈ rows ++ [begRw n e] → r ∈ rows ∨ r = begRw n e := fun hr => by simpa using hr
      refine ⟨fun r hr => ?_, fun r hr hd => ?_, fun i j r s hi hj hf => ?_, fun r hr s hs hd => ?_, uniq_push h.uniq hk⟩
      · rcases old hr with hr | rfl
        · have := h.fr r hr
          omega
        · exact ⟨hn, by show n < n + 1; omega⟩
      · rcases old hr with hr | rfl
        · have := h.to r hr hd
          omega
        · cases hd
      · rcases push_get hi with hi | ⟨hi, rfl⟩ <;> rcases push_get hj with hj | ⟨hj, rfl⟩
        · exact h.inj i j r s hi hj hf
        · have := (h.fr r (List.mem_of_getElem? hi)).2
          have h2 : r.fr = n := hf
          omega
        · have := (h.fr s (List.mem_of_getElem? hj)).2
          have h2 : n = s.fr := hf
          omega
        · omega
      · rcases old hr with hr | rfl
        · rcases old hs with hs | rfl
          · exact h.apart r hr s hs hd
          · have := h.to r hr hd
            show r.to ≠ n
            omega
        · cases hd
    · cases hs
theorem Hist.from : ∀ {l : List Ev} {n : Int} {rows rows' : List Rw}, 0 ≤ n → Hist n rows → rowsFrom n rows l = some rows' → Hist (n + l.length) rows'
  | [], n, rows, rows', _, h, hr => by
    simp only [rowsFrom, Option.some.injEq] at hr
    subst hr
    simpa using h
  | e :: r, n, rows, rows', hn, h, hr => by
    simp only [rowsFrom] at hr
    split at hr
    · rename_i x hx
      have := (h.step hn hx).from (by omega) hr
      rw [show n + ((e :: r).length : Nat) = n + 1 + (r.length : Nat) by simp only [List.length_cons]; omega]
      exact this
    · cases hr
theorem rowsOf_hist {l : List Ev} {rows : List Rw} (h : rowsOf l = some rows) : Hist l.length rows := by
  have := Hist.from (Int.le_refl 0) Hist.nil h
  simpa using this
/-- what comes of rows later -/
theorem step_later {n : Int} {rows rows' : List Rw} {e : Ev} (hs : stepRows n rows e = some rows') :
    (∀ (k : Nat) (r : Rw), rows[k]? = some r → ∃ r', rows'[k]? = some r' ∧ r'.fr = r.fr ∧ (r.done = true → r' = r)) ∧ ∀ (k : Nat) (r' : Rw), rows'[k]? = some r' → rows[k]? = none → n ≤ r'.fr := by
  unfold stepRows at hs
  split at hs
  · cases hs
  split at hs
  · rename_i k hk
    split at hs
    · cases hs
    cases hs
    obtain ⟨x, x1, x2, x3⟩ := openAt_some hk
    refine ⟨fun j r hj => ?_, fun j r' hj hn => ?_⟩
    · rw [List.getElem?_modify, hj]
      by_cases h : k = j
      · subst h
        rw [x1] at hj
        cases hj
        refine ⟨endRw n e x, by simp, rfl, fun hd => ?_⟩
        rw [x3] at hd
        cases hd
      · exact ⟨r, by simp [h], rfl, fun _ => rfl⟩
    · rw [List.getElem?_modify, hn] at hj
      cases hj
  · split at hs
    · cases hs
      refine ⟨fun j r hj => ⟨r, by rw [List.getElem?_append_left (List.getElem?_eq_some_iff.1 hj).1]; exact hj, rfl, fun _ => rfl⟩, fun j r' hj hn => ?_⟩
      rcases push_get hj with hj | ⟨_, rfl⟩
      · rw [hn] at hj
        cases hj
      · exact Int.le_refl n
    · cases hs
theorem from_later : ∀ {l : List Ev} {n : Int} {rows rows' : List Rw}, rowsFrom n rows l = some rows' →
    (∀ (k : Nat) (r : Rw), rows[k]? = some r → ∃ r', rows'[k]? = some r' ∧ r'.fr = r.fr ∧ (r.done = true → r' = r)) ∧ ∀ (k : Nat) (r' : Rw), rows'[k]? = some r' → rows[k]? = none → n ≤ r'.fr
  | [], n, rows, rows', hr => by
    simp only [rowsFrom, Option.some.injEq] at hr
    subst hr
    refine ⟨fun k r h => ⟨r, h, rfl, fun _ => rfl⟩, fun k r' h hn => ?_⟩
    rw [hn] at h
    cases h
  | e :: l, n, rows, rows', hr => by
    simp only [rowsFrom] at hr
    split at hr
    · rename_i x hx
      obtain ⟨a1, a2⟩ := step_later hx
      obtain ⟨b1, b2⟩ := from_later hr
      refine ⟨fun k r h => ?_, fun k r' h hn => ?_⟩
      · obtain ⟨s, s1, s2, s3⟩ := a1 k r h
        obtain ⟨t, t1, t2, t3⟩ := b1 k s s1
        exact ⟨t, t1, t2.trans s2, fun hd => by
          have := s3 hd
          subst this
          exact t3 hd⟩
      · cases hk : x[k]? with
        | none =>
          have := b2 k r' h hk
          omega
        | some y =>
          have h1 := a2 k y hk hn
          obtain ⟨t, t1, t2, -⟩ := b1 k y hk
          rw [h] at t1
          cases t1
          omega
    · cases hr
/-- the places of the rows that are not done -/
def undone (rows : List Rw) (i : Nat) : Bool := rows.any fun r => decide (r.fr = (i : Int)) && !r.done
theorem modify_map {rows : List Rw} (hu : Uniq rows) {t : Int} {k : Nat} (hk : openAt rows t = some k) (f : Rw → Rw) : rows.modify k f = rows.map fun r => if isOpen t r then f r else r := by
  obtain ⟨x, x1, x2, x3⟩ := openAt_some hk
  apply List.ext_getElem?
  intro i
  rw [List.getElem?_modify, List.getElem?_map]
  cases hi : rows[i]? with
  | none => rfl
  | some r =>
    simp only [Option.map_some, Option.map_eq_map, Option.some.injEq]
    by_cases h : k = i
    · subst h
      rw [x1] at hi
      cases hi
      have : isOpen t x = true := by simp [isOpen, x2, x3]
      simp [this]
    · have : isOpen t r = false := by
        rw [Bool.eq_false_iff]
        intro ho
        simp only [isOpen, Bool.and_eq_true, decide_eq_true_eq, Bool.not_eq_true'] at ho
        exact h (hu k i x r x1 hi x3 ho.2 (x2.trans ho.1.symm))
      simp [this, h]
theorem mem_of_filter {p : Rw → Bool} {l : List Rw} {r : Rw} (h : r ∈ l.filter p) : r ∈ l := (List.mem_filter.1 h).1
theorem uniq_sel {rows : List Rw} (h : ∀ (i j : Nat) (r s : Rw), rows[i]? = some r → rows[j]? = some s → r.done = false → s.done = false → r.thread = s.thread → i = j) (p : Rw → Bool) : Uniq (rows.filter p) := by
  induction rows with
  | nil => intro i j r s hi; simp at hi
  | cons a l ih =>
    have ih := ih fun i j r s hi hj h1 h2 h3 => by
      have := h (i + 1) (j + 1) r s (by simpa using hi) (by simpa using hj) h1 h2 h3
      omega
    have hx : ∀ s ∈ l, a.done = false → s.done = false → a.thread = s.thread → False := fun s hs h1 h2 h3 => by
      obtain ⟨j, hj⟩ := mem_at hs
      have := h 0 (j + 1) a s rfl (by simpa using hj) h1 h2 h3
      omega
    rw [List.filter_cons]
    split
    · intro i j r s hi hj h1 h2 h3
      cases i with
      | zero =>
        cases j with
        | zero => rfl
        | succ j =>
          simp only [List.getElem?_cons_zero, Option.some.injEq, List.getElem?_cons_succ] at hi hj
          subst hi
          exact (hx s (mem_of_filter (List.mem_of_getElem? hj)) h1 h2 h3).elim
      | succ i =>
        cases j with
        | zero =>
          simp only [List.getElem?_cons_zero, Option.some.injEq, List.getElem?_cons_succ] at hi hj
          subst hj
          exact (hx r (mem_of_filter (List.mem_of_getElem? hi)) h2 h1 h3.symm).elim
        | succ j =>
          have := ih i j r s (by simpa using hi) (by simpa using hj) h1 h2 h3
          omega
    · exact ih
theorem uniq_ren {U : Nat → Bool} {rows : List Rw} (h : Uniq rows) : Uniq (rows.map (ren U)) := by
  intro i j r s hi hj h1 h2 h3
  rw [List.getElem?_map] at hi hj
  cases hx : rows[i]? with
  | none => rw [hx] at hi; cases hi
  | some x =>
    cases hy : rows[j]? with
    | none => rw [hy] at hj; cases hj
    | some y =>
      rw [hx] at hi
      rw [hy] at hj
      simp only [Option.map_some, Option.some.injEq] at hi hj
      subst hi hj
      exact h i j x y hx hy h1 h2 h3
theorem kept_step {U : Nat → Bool} {n : Nat} {rows rows1 : List Rw} {e : Ev} (h : Hist n rows) (hs : stepRows n rows e = some rows1) (hU : U n = true → e.begins = true)
    (hO : ∀ k : Nat, openAt rows e.thread = some k → ∀ x, rows[k]? = some x → U x.fr.toNat = false) :
    (if U n then some ((rows.filter (selR U)).map (ren U)) else stepRows (below U n) ((rows.filter (selR U)).map (ren U)) e) = some ((rows1.filter (selR U)).map (ren U)) := by
  unfold stepRows at hs
  split at hs
  · cases hs
  rename_i hw
  have hw : wrongEv e = false := by simpa using hw
  split at hs
  · rename_i k hk
    split at hs
    · cases hs
    rename_i hb
    cases hs
    have hUn : U n = false := by
      rw [Bool.eq_false_iff]
      intro h1
      exact hb (hU h1)
    obtain ⟨x, x1, x2, x3⟩ := openAt_some hk
    have hx := hO k hk x x1
    have hu2 : Uniq ((rows.filter (selR U)).map (ren U)) := uniq_ren (uniq_sel h.uniq _)
    have hmem : ren U x ∈ (rows.filter (selR U)).map (ren U) := List.mem_map.2 ⟨x, List.mem_filter.2 ⟨List.mem_of_getElem? x1, by simp [selR, hx]⟩, rfl⟩
    obtain ⟨k2, hk2⟩ := mem_at hmem
    have ho2 : openAt ((rows.filter (selR U)).map (ren U)) e.thread = some k2 := openAt_of hu2 hk2 x2 x3
    rw [if_neg (by simp [hUn])]
    unfold stepRows
    rw [if_neg (by simp [hw]), ho2]
    simp only [hb, Bool.false_eq_true, if_false, Option.some.injEq]
    rw [modify_map hu2 ho2, modify_map h.uniq hk, List.map_map, List.filter_map, List.map_map]
    have e1 : (selR U ∘ fun r => if isOpen e.thread r = true then endRw (n : Int) e r else r) = selR U := by
      funext r
      simp only [Function.comp]
      split <;> rfl
    rw [e1]
    apply List.map_congr_left
    intro r hr
    simp only [Function.comp]
    have : isOpen e.thread (ren U r) = isOpen e.thread r := rfl
    rw [this]
    split
    · simp [ren, endRw]
    · rfl
  · rename_i hk
    split at hs
    · rename_i hb
      cases hs
      have hno : openAt ((rows.filter (selR U)).map (ren U)) e.thread = none := openAt_no fun k r hr ht => by
        obtain ⟨y, hy, rfl⟩ := List.mem_map.1 (List.mem_of_getElem? hr)
        obtain ⟨j, hj⟩ := mem_at (mem_of_filter hy)
        exact (openAt_none (r := y) hk hj ht : y.done = true)
      rw [List.filter_append, List.map_append]
      have e2 : selR U (begRw (n : Int) e) = !U n := by simp [selR, begRw]
      split
      · rename_i hUn
        simp [e2, hUn]
      · rename_i hUn
        unfold stepRows
        rw [if_neg (by simp [hw]), hno]
        have hUn : U n = false := by simpa using hUn
        have e3 : [begRw (n : Int) e].filter (selR U) = [begRw (n : Int) e] := by simp [List.filter_cons, e2, hUn]
        rw [e3]
        simp [hb, ren, begRw]
    · cases hs
theorem kept_from {U : Nat → Bool} : ∀ {l : List Ev} {n : Nat} {rows rows' : List Rw}, Hist n rows → rowsFrom n rows l = some rows' → U = undone rows' →
    rowsFrom (below U n) ((rows.filter (selR U)).map (ren U)) (keptFrom U n l) = some ((rows'.filter (selR U)).map (ren U))
  | [], n, rows, rows', h, hr, hU => by
    simp only [rowsFrom, Option.some.injEq] at hr
    subst hr
    rfl
  | e :: l, n, rows, rows', h, hr, hU => by
    have hF := Hist.from (by omega) h hr
    simp only [rowsFrom] at hr
    split at hr
    · rename_i x hx
      obtain ⟨l1, l2⟩ := from_later hr
      obtain ⟨s1, s2⟩ := step_later hx
      have hH := h.step (by omega) hx
      -- of a row that is done later, its place is not named
      have hdone : ∀ (k : Nat) (y : Rw), x[k]? = some y → y.done = true → U y.fr.toNat = false := fun k y hy hd => by
        rw [hU, Bool.eq_false_iff]
        intro hu
        simp only [undone, List.any_eq_true, Bool.and_eq_true, decide_eq_true_eq, Bool.not_eq_true'] at hu
        obtain ⟨z, z1, z2, z3⟩ := hu
        obtain ⟨j, hj⟩ := mem_at z1
        obtain ⟨y', y1, y2, y3⟩ := l1 k y hy
        have := y3 hd
        subst this
        have h0 := (hH.fr _ (List.mem_of_getElem? hy)).1
        have := hF.inj j k z _ hj y1 (by omega)
        subst this
        rw [hj] at y1
        cases y1
        rw [z3] at hd
        cases hd
      have hstep := kept_step (U := U) h hx (fun hn => ?_) (fun k hk y hy => ?_)
      · have hR : rowsFrom (below U (n + 1)) ((x.filter (selR U)).map (ren U)) (keptFrom U (n + 1) l) = some ((rows'.filter (selR U)).map (ren U)) := kept_from (n := n + 1) hH hr hU
        simp only [keptFrom]
        split at hstep
        · rename_i hn
          simp only [Option.some.injEq] at hstep
          rw [if_pos hn, hstep]
          simp only [below, hn, if_true, Nat.add_zero] at hR
          exact hR
        · rename_i hn
          rw [if_neg hn]
          simp only [rowsFrom, hstep]
          simp only [below, hn, Bool.false_eq_true, if_false] at hR
          exact hR
      · -- an event at a place that is named begins
        rw [hU] at hn
        simp only [undone, List.any_eq_true, Bool.and_eq_true, decide_eq_true_eq, Bool.not_eq_true'] at hn
        obtain ⟨z, z1, z2, z3⟩ := hn
        obtain ⟨j, hj⟩ := mem_at z1
        cases hb : e.begins with
        | true => rfl
        | false =>
          exfalso
          unfold stepRows at hx
          split at hx
          · cases hx
          split at hx
          · rename_i k hk
            rw [hb] at hx
            simp only [Bool.false_eq_true, if_false, Option.some.injEq] at hx
            cases hxj : x[j]? with
            | none =>
              have := l2 j z hj hxj
              omega
            | some y =>
              obtain ⟨y', y1, y2, -⟩ := l1 j y hxj
              rw [hj] at y1
              cases y1
              rw [← hx] at hxj
              have : ∃ w, rows[j]? = some w ∧ w.fr = y.fr := by
                rcases modify_get hxj with ⟨_, hxj⟩ | ⟨rfl, w, hw, rfl⟩
                · exact ⟨y, hxj, rfl⟩
                · exact ⟨w, hw, rfl⟩
              obtain ⟨w, w1, w2⟩ := this
              have := (h.fr w (List.mem_of_getElem? w1)).2
              omega
          · rw [hb] at hx
            simp at hx
      · -- the row that ends is done later
        unfold stepRows at hx
        split at hx
        · cases hx
        rw [hk] at hx
        simp only at hx
        split at hx
        · cases hx
        simp only [Option.some.injEq] at hx
        have := hdone k (endRw n e y) (by rw [← hx, List.getElem?_modify, hy]; simp) rfl
        exact this
    · cases hr
/-- what was answered is a history by itself -/
theorem whole_hist {l : List Ev} {rows : List Rw} (h : rowsOf l = some rows) : rowsOf (keptFrom (undone rows) 0 l) = some ((rows.filter (·.done)).map (ren (undone rows))) := by
  have h1 := kept_from (n := 0) Hist.nil h rfl
  have hH := rowsOf_hist h
  have e : rows.filter (selR (undone rows)) = rows.filter (·.done) := by
    apply List.filter_congr
    intro r hr
    unfold selR
    have h0 := (hH.fr r hr).1
    cases hd : r.done with
    | true =>
      rw [Bool.not_eq_true', Bool.eq_false_iff]
      intro hu
      simp only [undone, List.any_eq_true, Bool.and_eq_true, decide_eq_true_eq, Bool.not_eq_true'] at hu
      obtain ⟨z, z1, z2, z3⟩ := hu
      obtain ⟨i, hi⟩ := mem_at hr
      obtain ⟨j, hj⟩ := mem_at z1
      have := hH.inj i j r z hi hj (by omega)
      subst this
      rw [hi] at hj
      cases hj
      rw [hd] at z3
      cases z3
    | false =>
      have : undone rows r.fr.toNat = true := by
        simp only [undone, List.any_eq_true, Bool.and_eq_true, decide_eq_true_eq, Bool.not_eq_true']
        exact ⟨r, hr, by omega, hd⟩
      simp [this]
  rw [e] at h1
  simpa [rowsOf, below] using h1
/-- .. and stands in the same order -/
theorem whole_order {l : List Ev} {rows : List Rw} (h : rowsOf l = some rows) {a b : Rw} (ha : a ∈ rows) (hb : b ∈ rows) (hd : a.done = true) : (ren (undone rows) a).to < (ren (undone rows) b).fr ↔ a.to < b.fr := by
  have hH := rowsOf_hist h
  have a1 := hH.to a ha hd
  have b1 := hH.fr b hb
  have hu : undone rows a.to.toNat = false := by
    rw [Bool.eq_false_iff]
    intro hu
    simp only [undone, List.any_eq_true, Bool.and_eq_true, decide_eq_true_eq, Bool.not_eq_true'] at hu
    obtain ⟨z, z1, z2, z3⟩ := hu
    exact hH.apart a ha z z1 hd (by omega)
  have := below_lt (U := undone rows) (x := a.to.toNat) (y := b.fr.toNat) hu
  simp only [ren, hd, if_true]
  omega
end Go.Proofs.YtjhnfmfajbghbaaDoor
