/- the rows that events form; plain -/
import Derived.Test.YtjhnfmfajbghbaaDoorAPlain
set_option linter.unusedSimpArgs false
set_option linter.unusedVariables false
namespace Go.Proofs.YtjhnfmfajbghbaaDoor
open Go.Rex
/-- the row of a thread that is under way -/
def isOpen (t : Int) (r : Rw) : Bool := decide (r.thread = t) && !r.done
def openAt (rows : List Rw) (t : Int) : Option Nat := rows.findIdx? (isOpen t)
def wrongEv (e : Ev) : Bool := if e.begins then !(decide (e.code = 0) && decide (e.ans = 0)) else !(decide (e.kind = 0) && decide (e.key = 0) && decide (e.val = 0) && decide (e.tall = 0))
def begRw (i : Int) (e : Ev) : Rw := ⟨e.thread, e.kind, e.key, e.val, e.tall, 0, 0, i, 0, false⟩
def endRw (i : Int) (e : Ev) (r : Rw) : Rw := { r with code := e.code, ans := e.ans, to := i, done := true }
def stepRows (i : Int) (rows : List Rw) (e : Ev) : Option (List Rw) :=
  if wrongEv e then none else
  match openAt rows e.thread with
  | some k => if e.begins then none else some (rows.modify k (endRw i e))
  | none => if e.begins then some (rows ++ [begRw i e]) else none
def rowsFrom : Int → List Rw → List Ev → Option (List Rw)
  | _, rows, [] => some rows
  | i, rows, e :: r => match stepRows i rows e with
    | some rows' => rowsFrom (i + 1) rows' r
    | none => none
def rowsOf (l : List Ev) : Option (List Rw) := rowsFrom 0 [] l
theorem rowsFrom_append : ∀ (l m : List Ev) (i : Int) (rows : List Rw), rowsFrom i rows (l ++ m) = (rowsFrom i rows l).bind fun rows' => rowsFrom (i + l.length) rows' m
  | [], m, i, rows => by simp [rowsFrom]
  | e :: r, m, i, rows => by
    simp only [List.cons_append, rowsFrom]
    cases stepRows i rows e with
    | none => rfl
    | some rows' =>
      simp only [rowsFrom_append r m, List.length_cons]
      congr 1
      funext x
      congr 1
      omega
theorem rowsOf_snoc (l : List Ev) (e : Ev) : rowsOf (l ++ [e]) = (rowsOf l).bind fun rows => stepRows l.length rows e := by
  unfold rowsOf
  rw [rowsFrom_append]
  congr 1
  funext rows
  simp only [rowsFrom, Int.zero_add]
  cases stepRows l.length rows e <;> rfl
theorem rowsOf_none {l : List Ev} (h : rowsOf l = none) (m : List Ev) : rowsOf (l ++ m) = none := by
  unfold rowsOf at *
  rw [rowsFrom_append, h]
  rfl
/-- at most one row of a thread is under way -/
def Uniq (rows : List Rw) : Prop := ∀ (i j : Nat) (r s : Rw), rows[i]? = some r → rows[j]? = some s → r.done = false → s.done = false → r.thread = s.thread → i = j
theorem openAt_some {rows : List Rw} {t : Int} {k : Nat} (h : openAt rows t = some k) : ∃ r, rows[k]? = some r ∧ r.thread = t ∧ r.done = false := by
  unfold openAt at h
  obtain ⟨hk, h1, -⟩ := List.findIdx?_eq_some_iff_getElem.1 h
  simp only [isOpen, Bool.and_eq_true, decide_eq_true_eq, Bool.not_eq_true'] at h1
  exact ⟨_, List.getElem?_eq_getElem hk, h1.1, h1.2⟩
theorem openAt_none {rows : List Rw} {t : Int} (h : openAt rows t = none) {k : Nat} {r : Rw} (hk : rows[k]? = some r) (ht : r.thread = t) : r.done = true := by
  unfold openAt at h
  have := List.findIdx?_eq_none_iff.1 h r (List.mem_of_getElem? hk)
  simp only [isOpen, ht, decide_true, Bool.true_and, Bool.not_eq_false'] at this
  exact this
theorem openAt_of {rows : List Rw} (hu : Uniq rows) {t : Int} {k : Nat} {r : Rw} (hk : rows[k]? = some r) (ht : r.thread = t) (hd : r.done = false) : openAt rows t = some k := by
  cases h : openAt rows t with
  | none => rw [openAt_none h hk ht] at hd; cases hd
  | some j =>
    obtain ⟨s, h1, h2, h3⟩ := openAt_some h
    rw [hu j k s r h1 hk h3 hd (h2.trans ht.symm)]
theorem openAt_no {rows : List Rw} {t : Int} (h : ∀ (k : Nat) (r : Rw), rows[k]? = some r → r.thread = t → r.done = true) : openAt rows t = none := by
  cases h' : openAt rows t with
  | none => rfl
  | some j =>
    obtain ⟨s, h1, h2, h3⟩ := openAt_some h'
    rw [h j s h1 h2] at h3
    cases h3
theorem push_get {rows : List Rw} {x : Rw} {k : Nat} {r : Rw} (h : (rows ++ [x])[k]? = some r) : rows[k]? = some r ∨ (k = rows.length ∧ r = x) := by
  rw [List.getElem?_append] at h
  split at h
  · exact .inl h
  · rw [List.getElem?_singleton] at h
    split at h
    · simp at h
      exact .inr ⟨by omega, h.symm⟩
    · cases h
theorem uniq_push {rows : List Rw} (hu : Uniq rows) {x : Rw} (hx : openAt rows x.thread = none) : Uniq (rows ++ [x]) := by
  intro i j r s hi hj hr hs ht
  rcases push_get hi with hi' | ⟨hi', er⟩ <;> rcases push_get hj with hj' | ⟨hj', es⟩
  · exact hu i j r s hi' hj' hr hs ht
  · rw [openAt_none hx hi' (ht.trans (by rw [es]))] at hr; cases hr
  · rw [openAt_none hx hj' (ht.symm.trans (by rw [er]))] at hs; cases hs
  · rw [hi', hj']
theorem openAt_push {rows : List Rw} (hu : Uniq rows) {x : Rw} (hx : openAt rows x.thread = none) (hd : x.done = false) (t : Int) : openAt (rows ++ [x]) t = if t = x.thread then some rows.length else openAt rows t := by
  by_cases h : t = x.thread
  · rw [if_pos h]
    exact openAt_of (uniq_push hu hx) (by simp) h.symm hd
  · rw [if_neg h]
    cases h' : openAt rows t with
    | none =>
      refine openAt_no fun k r hk ht => ?_
      rcases push_get hk with hk | ⟨_, rfl⟩
      · exact openAt_none h' hk ht
      · exact absurd ht.symm h
    | some j =>
      obtain ⟨s, h1, h2, h3⟩ := openAt_some h'
      exact openAt_of (uniq_push hu hx) (by rw [List.getElem?_append_left (List.getElem?_eq_some_iff.1 h1).1]; exact h1) h2 h3
theorem modify_get {rows : List Rw} {k : Nat} {f : Rw → Rw} {i : Nat} {r : Rw} (h : (rows.modify k f)[i]? = some r) : (i ≠ k ∧ rows[i]? = some r) ∨ (i = k ∧ ∃ s, rows[k]? = some s ∧ r = f s) := by
  rw [List.getElem?_modify] at h
  by_cases hk : k = i
  · subst hk
    refine .inr ⟨rfl, ?_⟩
    cases hx : rows[k]? with
    | none => simp [hx] at h
    | some s =>
      simp [hx] at h
      exact ⟨s, rfl, h.symm⟩
  · refine .inl ⟨fun e => hk e.symm, ?_⟩
    cases hx : rows[i]? with
    | none => simp [hx] at h
    | some s =>
      simp [hx, hk] at h
      rw [h]
theorem uniq_end {rows : List Rw} (hu : Uniq rows) {i : Int} {e : Ev} {k : Nat} : Uniq (rows.modify k (endRw i e)) := by
  intro a b r s ha hb hr hs ht
  rcases modify_get ha with ⟨_, ha⟩ | ⟨_, x, _, rfl⟩
  · rcases modify_get hb with ⟨_, hb⟩ | ⟨_, y, _, rfl⟩
    · exact hu a b r s ha hb hr hs ht
    · cases hs
  · cases hr
theorem openAt_end {rows : List Rw} (hu : Uniq rows) {i : Int} {e : Ev} {k : Nat} (hk : openAt rows e.thread = some k) (t : Int) : openAt (rows.modify k (endRw i e)) t = if t = e.thread then none else openAt rows t := by
  obtain ⟨x, h1, h2, h3⟩ := openAt_some hk
  by_cases h : t = e.thread
  · rw [if_pos h]
    refine openAt_no fun a r ha ht => ?_
    rcases modify_get ha with ⟨hne, ha⟩ | ⟨_, y, _, rfl⟩
    · cases hd : r.done with
      | true => rfl
      | false => exact absurd (hu a k r x ha h1 hd h3 (by rw [ht, h2, h])) hne
    · rfl
  · rw [if_neg h]
    cases h' : openAt rows t with
    | none =>
      refine openAt_no fun a r ha ht => ?_
      rcases modify_get ha with ⟨_, ha⟩ | ⟨_, y, _, rfl⟩
      · exact openAt_none h' ha ht
      · rfl
    | some j =>
      obtain ⟨s, g1, g2, g3⟩ := openAt_some h'
      have hne : j ≠ k := by
        rintro rfl
        rw [h1] at g1
        cases g1
        exact h (g2.symm.trans h2)
      exact openAt_of (uniq_end hu) (by rw [List.getElem?_modify, g1]; simp [Ne.symm hne]) g2 g3
theorem stepRows_len {i : Int} {rows rows' : List Rw} {e : Ev} (h : stepRows i rows e = some rows') : rows'.length ≤ rows.length + 1 := by
  unfold stepRows at h
  split at h
  · cases h
  · split at h
    · split at h
      · cases h
      · cases h
        simp
    · split at h
      · cases h
        simp
      · cases h
theorem rowsFrom_len : ∀ {l : List Ev} {i : Int} {rows rows' : List Rw}, rowsFrom i rows l = some rows' → rows'.length ≤ rows.length + l.length
  | [], i, rows, rows', h => by simp [rowsFrom] at h; subst h; simp
  | e :: r, i, rows, rows', h => by
    simp only [rowsFrom] at h
    split at h
    · rename_i x hx
      have h1 := stepRows_len hx
      have h2 := rowsFrom_len h
      simp only [List.length_cons]
      omega
    · cases h
theorem rowsOf_len {l : List Ev} {rows : List Rw} (h : rowsOf l = some rows) : rows.length ≤ l.length := by
  have := rowsFrom_len h
  simpa using this
end Go.Proofs.YtjhnfmfajbghbaaDoor
