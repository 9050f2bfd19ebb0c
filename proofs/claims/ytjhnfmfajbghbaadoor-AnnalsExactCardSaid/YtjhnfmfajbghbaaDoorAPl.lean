/- plain words: rows of records, read off contents; beats, events, rows of a history -/
import Derived.Test.YtjhnfmfajbghbaaDoorRexT
set_option linter.unusedSimpArgs false
set_option linter.unusedVariables false
namespace Go.Proofs.YtjhnfmfajbghbaaDoor
open Go.Rex
structure Ev where
  thread : Int
  begins : Bool
  kind : Int
  key : Int
  val : Int
  tall : Int
  code : Int
  ans : Int
  deriving DecidableEq
structure Bt where
  thread : Int
  begins : Bool
  kind : Int
  key : Int
  val : Int
  tall : Int
  real : Bool
  ends : Bool
  code : Int
  ans : Int
structure Rw where
  thread : Int
  kind : Int
  key : Int
  val : Int
  tall : Int
  code : Int
  ans : Int
  fr : Int
  to : Int
  done : Bool
  deriving DecidableEq
def mkEv (f : Nat → Int) (g : Nat → Bool) : Ev := ⟨f 0, g 1, f 2, f 3, f 4, f 5, f 6, f 7⟩
def mkBt (f : Nat → Int) (g : Nat → Bool) : Bt := ⟨f 0, g 1, f 2, f 3, f 4, f 5, g 6, g 7, f 8, f 9⟩
def mkRw (f : Nat → Int) (g : Nat → Bool) : Rw := ⟨f 0, f 1, f 2, f 3, f 4, f 5, f 6, f 7, f 8, g 9⟩
/-- the slice whose variables begin at b is one: nil or not, its length, its capacity -/
def OkSl (ρ : Env) (b : Nat) : Prop := (ρ.bv b = true → ρ.iv (b + 1) = 0) ∧ 0 ≤ ρ.iv (b + 1) ∧ ρ.iv (b + 1) ≤ ρ.iv (b + 2) ∧ ρ.iv (b + 2) ≤ 9223372036854775807
section
variable {α : Type} (mk : (Nat → Int) → (Nat → Bool) → α)
def recAt (ρ : Env) (r i : Nat) : α := mk (ρ.ic r i 0) (ρ.bc r i 0)
def recs (ρ : Env) (b : Nat) : List α := (List.range (ρ.iv (b + 1)).toNat).map (recAt mk ρ (b + 3))
variable {mk}
theorem range_map_congr {β : Type} {f g : Nat → β} {n : Nat} (h : ∀ i, i < n → f i = g i) : (List.range n).map f = (List.range n).map g :=
  List.map_congr_left fun i hi => h i (List.mem_range.1 hi)
theorem recs_length (ρ : Env) (b : Nat) : (recs mk ρ b).length = (ρ.iv (b + 1)).toNat := by simp [recs]
theorem recs_get {ρ : Env} {b i : Nat} (h : i < (ρ.iv (b + 1)).toNat) : (recs mk ρ b)[i]? = some (recAt mk ρ (b + 3) i) := by
  simp [recs, h]
theorem recs_same {ρ ρ' : Env} {b b' : Nat} (h1 : ρ'.iv (b' + 1) = ρ.iv (b + 1)) (h2 : ∀ i, i < (ρ.iv (b + 1)).toNat → recAt mk ρ' (b' + 3) i = recAt mk ρ (b + 3) i) : recs mk ρ' b' = recs mk ρ b := by
  unfold recs
  rw [h1, range_map_congr h2]
theorem recs_push {ρ ρ' : Env} {b b' : Nat} {x : α} (h0 : 0 ≤ ρ.iv (b + 1)) (h1 : ρ'.iv (b' + 1) = ρ.iv (b + 1) + 1) (h2 : ∀ i, i < (ρ.iv (b + 1)).toNat → recAt mk ρ' (b' + 3) i = recAt mk ρ (b + 3) i)
    (h3 : recAt mk ρ' (b' + 3) (ρ.iv (b + 1)).toNat = x) : recs mk ρ' b' = recs mk ρ b ++ [x] := by
  unfold recs
  rw [h1, show (ρ.iv (b + 1) + 1).toNat = (ρ.iv (b + 1)).toNat + 1 by omega, List.range_succ, List.map_append, range_map_congr h2, List.map_cons, List.map_nil, h3]
theorem recs_push2 {ρ ρ' : Env} {b b' : Nat} {x y : α} (h0 : 0 ≤ ρ.iv (b + 1)) (h1 : ρ'.iv (b' + 1) = ρ.iv (b + 1) + 1 + 1) (h2 : ∀ i, i < (ρ.iv (b + 1)).toNat → recAt mk ρ' (b' + 3) i = recAt mk ρ (b + 3) i)
    (h3 : recAt mk ρ' (b' + 3) (ρ.iv (b + 1)).toNat = x) (h4 : recAt mk ρ' (b' + 3) ((ρ.iv (b + 1)).toNat + 1) = y) : recs mk ρ' b' = recs mk ρ b ++ [x, y] := by
  unfold recs
  rw [h1, show (ρ.iv (b + 1) + 1 + 1).toNat = (ρ.iv (b + 1)).toNat + 1 + 1 by omega, List.range_succ, List.range_succ, List.map_append, List.map_append, range_map_congr h2]
  simp [h3, h4]
theorem recs_take {ρ : Env} {b : Nat} {i : Nat} (h : i < (ρ.iv (b + 1)).toNat) : (recs mk ρ b).take (i + 1) = (recs mk ρ b).take i ++ [recAt mk ρ (b + 3) i] := by
  have hl : i < (recs mk ρ b).length := by rw [recs_length]; exact h
  rw [List.take_succ_eq_append_getElem hl]
  simp [recs]
theorem recs_full (ρ : Env) (b : Nat) {n : Nat} (h : (ρ.iv (b + 1)).toNat ≤ n) : (recs mk ρ b).take n = recs mk ρ b := List.take_of_length_le (by rw [recs_length]; exact h)
/-- one list behind another -/
theorem recs_cat {ρ' ρ : Env} {b' b c : Nat} (h0 : 0 ≤ ρ.iv (b + 1)) (h0' : 0 ≤ ρ.iv (c + 1)) (h1 : ρ'.iv (b' + 1) = ρ.iv (b + 1) + ρ.iv (c + 1)) (h2 : ∀ i : Nat, (i : Int) < ρ.iv (b + 1) → recAt mk ρ' (b' + 3) i = recAt mk ρ (b + 3) i)
    (h3 : ∀ i : Nat, (i : Int) < ρ.iv (c + 1) → recAt mk ρ' (b' + 3) ((ρ.iv (b + 1)).toNat + i) = recAt mk ρ (c + 3) i) : recs mk ρ' b' = recs mk ρ b ++ recs mk ρ c := by
  unfold recs
  rw [h1, show (ρ.iv (b + 1) + ρ.iv (c + 1)).toNat = (ρ.iv (b + 1)).toNat + (ρ.iv (c + 1)).toNat by omega, List.range_add, List.map_append, List.map_map, range_map_congr fun i hi => h2 i (by omega)]
  exact congrArg _ (range_map_congr fun i hi => h3 i (by omega))
/-- a piece -/
theorem recs_piece {ρ' ρ : Env} {b' b : Nat} {s n : Nat} (h1 : (ρ'.iv (b' + 1)).toNat = n) (hs : s + n ≤ (ρ.iv (b + 1)).toNat) (h2 : ∀ i : Nat, i < n → recAt mk ρ' (b' + 3) i = recAt mk ρ (b + 3) (s + i)) : recs mk ρ' b' = ((recs mk ρ b).drop s).take n := by
  apply List.ext_getElem?
  intro i
  rw [List.getElem?_take]
  by_cases hi : i < n
  · rw [if_pos hi, recs_get (by omega), List.getElem?_drop, recs_get (by omega), h2 i hi]
  · rw [if_neg hi, List.getElem?_eq_none (by rw [recs_length]; omega)]
end
def evsOf (b : Bt) : List Ev := (if b.begins then [⟨b.thread, true, b.kind, b.key, b.val, b.tall, 0, 0⟩] else []) ++ if b.ends then [⟨b.thread, false, 0, 0, 0, 0, b.code, b.ans⟩] else []
theorem evsOf_len (b : Bt) : (evsOf b).length ≤ 2 := by
  unfold evsOf
  cases b.begins <;> cases b.ends <;> simp
theorem flat_len (l : List Bt) : (l.flatMap evsOf).length ≤ 2 * l.length := by
  induction l with
  | nil => simp
  | cons x r ih =>
    have := evsOf_len x
    simp only [List.flatMap_cons, List.length_append, List.length_cons]
    omega
theorem nilOb {ρ : Env} {b : Nat} (h : OkSl ρ b) : (BE.or (.not (.var b)) (.ieq (.var (b + 1)) (.lit 0))).den ρ = true := by
  have h1 := h.1
  simp only [BE.den, IE.den, Bool.or_eq_true, Bool.not_eq_true', beq_iff_eq]
  cases hb : ρ.bv b
  · exact .inl rfl
  · exact .inr (h1 hb)
/-- a slice that holds something is not nil -/
theorem nilLt {ρ : Env} {b : Nat} (h : OkSl ρ b) (h2 : 0 < ρ.iv (b + 1)) : (BE.not (.var b)).den ρ = true := by
  have h1 := h.1
  simp only [BE.den, Bool.not_eq_true']
  cases hb : ρ.bv b
  · rfl
  · have := h1 hb
    omega
end Go.Proofs.YtjhnfmfajbghbaaDoor

set_option linter.unusedSimpArgs false
set_option linter.unusedVariables false
namespace Go.Proofs.YtjhnfmfajbghbaaDoor
open Go.Rex
/-- the row of a thread that is under way -/
def isOpen (t : Int) (r : Rw) : Bool := decide (r.thread = t) && !r.done
def openAt (rows : List Rw) (t : Int) : Option Nat := rows.findIdx? (isOpen t)
def wrongEv (e : Ev) : Bool := if e.begins then !(decide (e.code = 0) && decide (e.ans = 0)) else !(decide (e.kind = 0) && decide (e.key = 0) && decide (e.val = 0) && decide (e.tall = 0))
def begRw (i : Int) (e : Ev) : Rw := ⟨e.thread, e.kind, e.key, e.val, e.tall, 0, 0, i, 0, false⟩
def endRw (i : Int) (e : Ev) (r : Rw) : Rw := { r with code := e.code, ans := e.ans, to := i, done := true }
def stepRows (i : Int) (rows : List Rw) (e : Ev) : Option (List Rw) :=
  if wrongEv e then none else
  match openAt rows e.thread with
  | some k => if e.begins then none else some (rows.modify k (endRw i e))
  | none => if e.begins then some (rows ++ [begRw i e]) else none
def rowsFrom : Int → List Rw → List Ev → Option (List Rw)
  | _, rows, [] => some rows
  | i, rows, e :: r => match stepRows i rows e with
    | some rows' => rowsFrom (i + 1) rows' r
    | none => none
def rowsOf (l : List Ev) : Option (List Rw) := rowsFrom 0 [] l
theorem rowsFrom_append : ∀ (l m : List Ev) (i : Int) (rows : List Rw), rowsFrom i rows (l ++ m) = (rowsFrom i rows l).bind fun rows' => rowsFrom (i + l.length) rows' m
  | [], m, i, rows => by simp [rowsFrom]
  | e :: r, m, i, rows => by
    simp only [List.cons_append, rowsFrom]
    cases stepRows i rows e with
    | none => rfl
    | some rows' =>
      simp only [rowsFrom_append r m, List.length_cons]
      congr 1
      funext x
      congr 1
      omega
theorem rowsOf_snoc (l : List Ev) (e : Ev) : rowsOf (l ++ [e]) = (rowsOf l).bind fun rows => stepRows l.length rows e := by
  unfold rowsOf
  rw [rowsFrom_append]
  congr 1
  funext rows
  simp only [rowsFrom, Int.zero_add]
  cases stepRows l.length rows e <;> rfl
theorem rowsOf_none {l : List Ev} (h : rowsOf l = none) (m : List Ev) : rowsOf (l ++ m) = none := by
  unfold rowsOf at *
  rw [rowsFrom_append, h]
  rfl
/-- at most one row of a thread is under way -/
def Uniq (rows : List Rw) : Prop := ∀ (i j : Nat) (r s : Rw), rows[i]? = some r → rows[j]? = some s → r.done = false → s.done = false → r.thread = s.thread → i = j
theorem openAt_some {rows : List Rw} {t : Int} {k : Nat} (h : openAt rows t = some k) : ∃ r, rows[k]? = some r ∧ r.thread = t ∧ r.done = false := by
  unfold openAt at h
  obtain ⟨hk, h1, -⟩ := List.findIdx?_eq_some_iff_getElem.1 h
  simp only [isOpen, Bool.and_eq_true, decide_eq_true_eq, Bool.not_eq_true'] at h1
  exact ⟨_, List.getElem?_eq_getElem hk, h1.1, h1.2⟩
theorem openAt_none {rows : List Rw} {t : Int} (h : openAt rows t = none) {k : Nat} {r : Rw} (hk : rows[k]? = some r) (ht : r.thread = t) : r.done = true := by
  unfold openAt at h
  have := List.findIdx?_eq_none_iff.1 h r (List.mem_of_getElem? hk)
  simp only [isOpen, ht, decide_true, Bool.true_and, Bool.not_eq_false'] at this
  exact this
theorem openAt_of {rows : List Rw} (hu : Uniq rows) {t : Int} {k : Nat} {r : Rw} (hk : rows[k]? = some r) (ht : r.thread = t) (hd : r.done = false) : openAt rows t = some k := by
  cases h : openAt rows t with
  | none => rw [openAt_none h hk ht] at hd; cases hd
  | some j =>
    obtain ⟨s, h1, h2, h3⟩ := openAt_some h
    rw [hu j k s r h1 hk h3 hd (h2.trans ht.symm)]
theorem openAt_no {rows : List Rw} {t : Int} (h : ∀ (k : Nat) (r : Rw), rows[k]? = some r → r.thread = t → r.done = true) : openAt rows t = none := by
  cases h' : openAt rows t with
  | none => rfl
  | some j =>
    obtain ⟨s, h1, h2, h3⟩ := openAt_some h'
    rw [h j s h1 h2] at h3
    cases h3
theorem push_get {rows : List Rw} {x : Rw} {k : Nat} {r : Rw} (h : (rows ++ [x])[k]? = some r) : rows[k]? = some r ∨ (k = rows.length ∧ r = x) := by
  rw [List.getElem?_append] at h
  split at h
  · exact .inl h
  · rw [List.getElem?_singleton] at h
    split at h
    · simp at h
      exact .inr ⟨by omega, h.symm⟩
    · cases h
theorem uniq_push {rows : List Rw} (hu : Uniq rows) {x : Rw} (hx : openAt rows x.thread = none) : Uniq (rows ++ [x]) := by
  intro i j r s hi hj hr hs ht
  rcases push_get hi with hi' | ⟨hi', er⟩ <;> rcases push_get hj with hj' | ⟨hj', es⟩
  · exact hu i j r s hi' hj' hr hs ht
  · rw [openAt_none hx hi' (ht.trans (by rw [es]))] at hr; cases hr
  · rw [openAt_none hx hj' (ht.symm.trans (by rw [er]))] at hs; cases hs
  · rw [hi', hj']
theorem openAt_push {rows : List Rw} (hu : Uniq rows) {x : Rw} (hx : openAt rows x.thread = none) (hd : x.done = false) (t : Int) : openAt (rows ++ [x]) t = if t = x.thread then some rows.length else openAt rows t := by
  by_cases h : t = x.thread
  · rw [if_pos h]
    exact openAt_of (uniq_push hu hx) (by simp) h.symm hd
  · rw [if_neg h]
    cases h' : openAt rows t with
    | none =>
      refine openAt_no fun k r hk ht => ?_
      rcases push_get hk with hk | ⟨_, rfl⟩
      · exact openAt_none h' hk ht
      · exact absurd ht.symm h
    | some j =>
      obtain ⟨s, h1, h2, h3⟩ := openAt_some h'
      exact openAt_of (uniq_push hu hx) (by rw [List.getElem?_append_left (List.getElem?_eq_some_iff.1 h1).1]; exact h1) h2 h3
theorem modify_get {rows : List Rw} {k : Nat} {f : Rw → Rw} {i : Nat} {r : Rw} (h : (rows.modify k f)[i]? = some r) : (i ≠ k ∧ rows[i]? = some r) ∨ (i = k ∧ ∃ s, rows[k]? = some s ∧ r = f s) := by
  rw [List.getElem?_modify] at h
  by_cases hk : k = i
  · subst hk
    refine .inr ⟨rfl, ?_⟩
    cases hx : rows[k]? with
    | none => simp [hx] at h
    | some s =>
      simp [hx] at h
      exact ⟨s, rfl, h.symm⟩
  · refine .inl ⟨fun e => hk e.symm, ?_⟩
    cases hx : rows[i]? with
    | none => simp [hx] at h
    | some s =>
      simp [hx, hk] at h
      rw [h]
theorem uniq_end {rows : List Rw} (hu : Uniq rows) {i : Int} {e : Ev} {k : Nat} : Uniq (rows.modify k (endRw i e)) := by
  intro a b r s ha hb hr hs ht
  rcases modify_get ha with ⟨_, ha⟩ | ⟨_, x, _, rfl⟩
  · rcases modify_get hb with ⟨_, hb⟩ | ⟨_, y, _, rfl⟩
    · exact hu a b r s ha hb hr hs ht
    · cases hs
  · cases hr
theorem openAt_end {rows : List Rw} (hu : Uniq rows) {i : Int} {e : Ev} {k : Nat} (hk : openAt rows e.thread = some k) (t : Int) : openAt (rows.modify k (endRw i e)) t = if t = e.thread then none else openAt rows t := by
  obtain ⟨x, h1, h2, h3⟩ := openAt_some hk
  by_cases h : t = e.thread
  · rw [if_pos h]
    refine openAt_no fun a r ha ht => ?_
    rcases modify_get ha with ⟨hne, ha⟩ | ⟨_, y, _, rfl⟩
    · cases hd : r.done with
      | true => rfl
      | false => exact absurd (hu a k r x ha h1 hd h3 (by rw [ht, h2, h])) hne
    · rfl
  · rw [if_neg h]
    cases h' : openAt rows t with
    | none =>
      refine openAt_no fun a r ha ht => ?_
      rcases modify_get ha with ⟨_, ha⟩ | ⟨_, y, _, rfl⟩
      · exact openAt_none h' ha ht
      · rfl
    | some j =>
      obtain ⟨s, g1, g2, g3⟩ := openAt_some h'
      have hne : j ≠ k := by
        rintro rfl
        rw [h1] at g1
        cases g1
        exact h (g2.symm.trans h2)
      exact openAt_of (uniq_end hu) (by rw [List.getElem?_modify, g1]; simp [Ne.symm hne]) g2 g3
theorem stepRows_len {i : Int} {rows rows' : List Rw} {e : Ev} (h : stepRows i rows e = some rows') : rows'.length ≤ rows.length + 1 := by
  unfold stepRows at h
  split at h
  · cases h
  · split at h
    · split at h
      · cases h
      · cases h
        simp
    · split at h
      · cases h
        simp
      · cases h
theorem rowsFrom_len : ∀ {l : List Ev} {i : Int} {rows rows' : List Rw}, rowsFrom i rows l = some rows' → rows'.length ≤ rows.length + l.length
  | [], i, rows, rows', h => by simp [rowsFrom] at h; subst h; simp
  | e :: r, i, rows, rows', h => by
    simp only [rowsFrom] at h
    split at h
    · rename_i x hx
      have h1 := stepRows_len hx
      have h2 := rowsFrom_len h
      simp only [List.length_cons]
      omega
    · cases h
theorem rowsOf_len {l : List Ev} {rows : List Rw} (h : rowsOf l = some rows) : rows.length ≤ l.length := by
  have := rowsFrom_len h
  simpa using this
end Go.Proofs.YtjhnfmfajbghbaaDoor

set_option linter.unusedSimpArgs false
set_option linter.unusedVariables false
namespace Go.Proofs.YtjhnfmfajbghbaaDoor
open Go.Rex
/-- rows that lie ahead of a number -/
structure Good (n : Int) (rows : List Rw) : Prop where
  fr : ∀ (i : Nat) (r : Rw), rows[i]? = some r → r.fr < n ∧ (r.done = true → r.fr < r.to ∧ r.to < n)
  ord : ∀ (i j : Nat) (r s : Rw), rows[i]? = some r → rows[j]? = some s → i < j → r.thread = s.thread → r.done = true ∧ r.to < s.fr
theorem Good.step {n : Int} {rows rows' : List Rw} {e : Ev} (h : Good n rows) (hs : stepRows n rows e = some rows') : Good (n + 1) rows' := by
  unfold stepRows at hs
  split at hs
  · cases hs
  split at hs
  · rename_i k hk
    split at hs
    · cases hs
    cases hs
    obtain ⟨x, x1, x2, x3⟩ := openAt_some hk
    refine ⟨fun i r hi => ?_, fun i j r s hi hj hij ht => ?_⟩
    · rcases modify_get hi with ⟨_, hi⟩ | ⟨rfl, y, hy, rfl⟩
      · obtain ⟨a, b⟩ := h.fr i r hi
        exact ⟨by omega, fun hd => ⟨(b hd).1, by have := (b hd).2; omega⟩⟩
      · obtain ⟨a, b⟩ := h.fr i y hy
        exact ⟨by show y.fr < n + 1; omega, fun _ => ⟨a, by show n < n + 1; omega⟩⟩
    · have old : ∀ {j : Nat} {s : Rw}, (rows.modify k (endRw n e))[j]? = some s → ∃ y, rows[j]? = some y ∧ y.thread = s.thread ∧ y.fr = s.fr := by
        intro j s hj
        rcases modify_get hj with ⟨_, hj⟩ | ⟨rfl, y, hy, rfl⟩
        · exact ⟨s, hj, rfl, rfl⟩
        · exact ⟨y, hy, rfl, rfl⟩
      obtain ⟨y, y1, y2, y3⟩ := old hj
      rcases modify_get hi with ⟨_, hi⟩ | ⟨rfl, z, hz, rfl⟩
      · have := h.ord i j r y hi y1 hij (ht.trans y2.symm)
        exact ⟨this.1, by rw [← y3]; exact this.2⟩
      · -- the row that ends is the last one of its thread
        rw [x1] at hz
        cases hz
        have := h.ord i j x y x1 y1 hij (by rw [y2]; exact ht)
        rw [x3] at this
        cases this.1
  · rename_i hk
    split at hs
    · cases hs
      refine ⟨fun i r hi => ?_, fun i j r s hi hj hij ht => ?_⟩
      · rcases push_get hi with hi | ⟨_, rfl⟩
        · obtain ⟨a, b⟩ := h.fr i r hi
          exact ⟨by omega, fun hd => ⟨(b hd).1, by have := (b hd).2; omega⟩⟩
        · exact ⟨by show n < n + 1; omega, fun hd => (by cases hd)⟩
      · rcases push_get hi with hi' | ⟨hi', er⟩ <;> rcases push_get hj with hj' | ⟨hj', es⟩
        · exact h.ord i j r s hi' hj' hij ht
        · have hd := openAt_none hk hi' (ht.trans (by rw [es]; rfl))
          refine ⟨hd, ?_⟩
          rw [es]
          exact ((h.fr i r hi').2 hd).2
        · have := (List.getElem?_eq_some_iff.1 hj').1
          omega
        · omega
    · cases hs
theorem Good.from : ∀ {l : List Ev} {n : Int} {rows rows' : List Rw}, Good n rows → rowsFrom n rows l = some rows' → Good (n + l.length) rows'
  | [], n, rows, rows', h, hr => by
    simp only [rowsFrom, Option.some.injEq] at hr
    subst hr
    simpa using h
  | e :: r, n, rows, rows', h, hr => by
    simp only [rowsFrom] at hr
    split at hr
    · rename_i x hx
      have := (h.step hx).from hr
      rw [show n + ((e :: r).length : Nat) = n + 1 + (r.length : Nat) by simp only [List.length_cons]; omega]
      exact this
    · cases hr
theorem rowsOf_good {l : List Ev} {rows : List Rw} (h : rowsOf l = some rows) : Good l.length rows := by
  have := Good.from (n := 0) (rows := []) ⟨fun i r hi => (by simp at hi), fun i j r s hi => (by simp at hi)⟩ h
  simpa using this
end Go.Proofs.YtjhnfmfajbghbaaDoor

set_option linter.unusedSimpArgs false
set_option linter.unusedVariables false
namespace Go.Proofs.YtjhnfmfajbghbaaDoor
open Go.Rex
/-- the events at places that are not named -/
def keptFrom (U : Nat → Bool) : Nat → List Ev → List Ev
  | _, [] => []
  | i, e :: r => if U i then keptFrom U (i + 1) r else e :: keptFrom U (i + 1) r
/-- how many places below are not named -/
def below (U : Nat → Bool) : Nat → Nat
  | 0 => 0
  | n + 1 => below U n + if U n then 0 else 1
theorem below_mono (U : Nat → Bool) {x y : Nat} (h : x ≤ y) : below U x ≤ below U y := by
  induction h with
  | refl => exact Nat.le_refl _
  | step _ ih => exact Nat.le_trans ih (by simp [below])
theorem below_lt {U : Nat → Bool} {x y : Nat} (hx : U x = false) : below U x < below U y ↔ x < y := by
  constructor
  · intro h
    rcases Nat.lt_or_ge x y with h1 | h1
    · exact h1
    · have := below_mono U h1
      omega
  · intro h
    have h1 := below_mono U (show x + 1 ≤ y from h)
    simp only [below, hx, Bool.false_eq_true, if_false] at h1
    omega
def ren (U : Nat → Bool) (r : Rw) : Rw := { r with fr := below U r.fr.toNat, to := if r.done then (below U r.to.toNat : Int) else r.to }
def selR (U : Nat → Bool) (r : Rw) : Bool := !U r.fr.toNat
/-- rows of a history so far -/
structure Hist (n : Int) (rows : List Rw) : Prop where
  fr : ∀ r ∈ rows, 0 ≤ r.fr ∧ r.fr < n
  to : ∀ r ∈ rows, r.done = true → 0 ≤ r.to ∧ r.to < n
  inj : ∀ (i j : Nat) (r s : Rw), rows[i]? = some r → rows[j]? = some s → r.fr = s.fr → i = j
  apart : ∀ r ∈ rows, ∀ s ∈ rows, r.done = true → r.to ≠ s.fr
  uniq : Uniq rows
theorem Hist.nil : Hist 0 [] := ⟨fun r hr => (by cases hr), fun r hr => (by cases hr), fun i j r s hi => (by simp at hi), fun r hr => (by cases hr), fun i j r s hi => (by simp at hi)⟩
theorem mem_at {rows : List Rw} {r : Rw} (h : r ∈ rows) : ∃ i : Nat, rows[i]? = some r := List.getElem?_of_mem h
theorem Hist.step {n : Int} {rows rows' : List Rw} {e : Ev} (hn : 0 ≤ n) (h : Hist n rows) (hs : stepRows n rows e = some rows') : Hist (n + 1) rows' := by
  unfold stepRows at hs
  split at hs
  · cases hs
  split at hs
  · rename_i k hk
    split at hs
    · cases hs
    cases hs
    have old : ∀ {j : Nat} {s : Rw}, (rows.modify k (endRw n e))[j]? = some s → ∃ y, rows[j]? = some y ∧ y.fr = s.fr ∧ (s = y ∨ s = endRw n e y) := by
      intro j s hj
      rcases modify_get hj with ⟨_, hj⟩ | ⟨rfl, y, hy, rfl⟩
      · exact ⟨s, hj, rfl, .inl rfl⟩
      · exact ⟨y, hy, rfl, .inr rfl⟩
    refine ⟨fun r hr => ?_, fun r hr hd => ?_, fun i j r s hi hj hf => ?_, fun r hr s hs hd => ?_, uniq_end h.uniq⟩
    · obtain ⟨i, hi⟩ := mem_at hr
      obtain ⟨y, y1, y2, _⟩ := old hi
      have := h.fr y (List.mem_of_getElem? y1)
      omega
    · obtain ⟨i, hi⟩ := mem_at hr
      obtain ⟨y, y1, y2, rfl | rfl⟩ := old hi
      · have := h.to r (List.mem_of_getElem? y1) hd
        omega
      · exact ⟨hn, by show n < n + 1; omega⟩
    · obtain ⟨y, y1, y2, _⟩ := old hi
      obtain ⟨z, z1, z2, _⟩ := old hj
      exact h.inj i j y z y1 z1 (by omega)
    · obtain ⟨i, hi⟩ := mem_at hr
      obtain ⟨j, hj⟩ := mem_at hs
      obtain ⟨z, z1, z2, _⟩ := old hj
      have z3 := h.fr z (List.mem_of_getElem? z1)
      obtain ⟨y, y1, y2, rfl | rfl⟩ := old hi
      · rw [← z2]
        exact h.apart r (List.mem_of_getElem? y1) z (List.mem_of_getElem? z1) hd
      · show n ≠ s.fr
        omega
  · rename_i hk
    split at hs
    · cases hs
      have old : ∀ {r : Rw}, r ∈ rows ++ [begRw n e] → r ∈ rows ∨ r = begRw n e := fun hr => by simpa using hr
      refine ⟨fun r hr => ?_, fun r hr hd => ?_, fun i j r s hi hj hf => ?_, fun r hr s hs hd => ?_, uniq_push h.uniq hk⟩
      · rcases old hr with hr | rfl
        · have := h.fr r hr
          omega
        · exact ⟨hn, by show n < n + 1; omega⟩
      · rcases old hr with hr | rfl
        · have := h.to r hr hd
          omega
        · cases hd
      · rcases push_get hi with hi | ⟨hi, rfl⟩ <;> rcases push_get hj with hj | ⟨hj, rfl⟩
        · exact h.inj i j r s hi hj hf
        · have := (h.fr r (List.mem_of_getElem? hi)).2
          have h2 : r.fr = n := hf
          omega
        · have := (h.fr s (List.mem_of_getElem? hj)).2
          have h2 : n = s.fr := hf
          omega
        · omega
      · rcases old hr with hr | rfl
        · rcases old hs with hs | rfl
          · exact h.apart r hr s hs hd
          · have := h.to r hr hd
            show r.to ≠ n
            omega
        · cases hd
    · cases hs
theorem Hist.from : ∀ {l : List Ev} {n : Int} {rows rows' : List Rw}, 0 ≤ n → Hist n rows → rowsFrom n rows l = some rows' → Hist (n + l.length) rows'
  | [], n, rows, rows', _, h, hr => by
    simp only [rowsFrom, Option.some.injEq] at hr
    subst hr
    simpa using h
  | e :: r, n, rows, rows', hn, h, hr => by
    simp only [rowsFrom] at hr
    split at hr
    · rename_i x hx
      have := (h.step hn hx).from (by omega) hr
      rw [show n + ((e :: r).length : Nat) = n + 1 + (r.length : Nat) by simp only [List.length_cons]; omega]
      exact this
    · cases hr
theorem rowsOf_hist {l : List Ev} {rows : List Rw} (h : rowsOf l = some rows) : Hist l.length rows := by
  have := Hist.from (Int.le_refl 0) Hist.nil h
  simpa using this
/-- what comes of rows later -/
theorem step_later {n : Int} {rows rows' : List Rw} {e : Ev} (hs : stepRows n rows e = some rows') :
    (∀ (k : Nat) (r : Rw), rows[k]? = some r → ∃ r', rows'[k]? = some r' ∧ r'.fr = r.fr ∧ (r.done = true → r' = r)) ∧ ∀ (k : Nat) (r' : Rw), rows'[k]? = some r' → rows[k]? = none → n ≤ r'.fr := by
  unfold stepRows at hs
  split at hs
  · cases hs
  split at hs
  · rename_i k hk
    split at hs
    · cases hs
    cases hs
    obtain ⟨x, x1, x2, x3⟩ := openAt_some hk
    refine ⟨fun j r hj => ?_, fun j r' hj hn => ?_⟩
    · rw [List.getElem?_modify, hj]
      by_cases h : k = j
      · subst h
        rw [x1] at hj
        cases hj
        refine ⟨endRw n e x, by simp, rfl, fun hd => ?_⟩
        rw [x3] at hd
        cases hd
      · exact ⟨r, by simp [h], rfl, fun _ => rfl⟩
    · rw [List.getElem?_modify, hn] at hj
      cases hj
  · split at hs
    · cases hs
      refine ⟨fun j r hj => ⟨r, by rw [List.getElem?_append_left (List.getElem?_eq_some_iff.1 hj).1]; exact hj, rfl, fun _ => rfl⟩, fun j r' hj hn => ?_⟩
      rcases push_get hj with hj | ⟨_, rfl⟩
      · rw [hn] at hj
        cases hj
      · exact Int.le_refl n
    · cases hs
theorem from_later : ∀ {l : List Ev} {n : Int} {rows rows' : List Rw}, rowsFrom n rows l = some rows' →
    (∀ (k : Nat) (r : Rw), rows[k]? = some r → ∃ r', rows'[k]? = some r' ∧ r'.fr = r.fr ∧ (r.done = true → r' = r)) ∧ ∀ (k : Nat) (r' : Rw), rows'[k]? = some r' → rows[k]? = none → n ≤ r'.fr
  | [], n, rows, rows', hr => by
    simp only [rowsFrom, Option.some.injEq] at hr
    subst hr
    refine ⟨fun k r h => ⟨r, h, rfl, fun _ => rfl⟩, fun k r' h hn => ?_⟩
    rw [hn] at h
    cases h
  | e :: l, n, rows, rows', hr => by
    simp only [rowsFrom] at hr
    split at hr
    · rename_i x hx
      obtain ⟨a1, a2⟩ := step_later hx
      obtain ⟨b1, b2⟩ := from_later hr
      refine ⟨fun k r h => ?_, fun k r' h hn => ?_⟩
      · obtain ⟨s, s1, s2, s3⟩ := a1 k r h
        obtain ⟨t, t1, t2, t3⟩ := b1 k s s1
        exact ⟨t, t1, t2.trans s2, fun hd => by
          have := s3 hd
          subst this
          exact t3 hd⟩
      · cases hk : x[k]? with
        | none =>
          have := b2 k r' h hk
          omega
        | some y =>
          have h1 := a2 k y hk hn
          obtain ⟨t, t1, t2, -⟩ := b1 k y hk
          rw [h] at t1
          cases t1
          omega
    · cases hr
/-- the places of the rows that are not done -/
def undone (rows : List Rw) (i : Nat) : Bool := rows.any fun r => decide (r.fr = (i : Int)) && !r.done
theorem modify_map {rows : List Rw} (hu : Uniq rows) {t : Int} {k : Nat} (hk : openAt rows t = some k) (f : Rw → Rw) : rows.modify k f = rows.map fun r => if isOpen t r then f r else r := by
  obtain ⟨x, x1, x2, x3⟩ := openAt_some hk
  apply List.ext_getElem?
  intro i
  rw [List.getElem?_modify, List.getElem?_map]
  cases hi : rows[i]? with
  | none => rfl
  | some r =>
    simp only [Option.map_some, Option.map_eq_map, Option.some.injEq]
    by_cases h : k = i
    · subst h
      rw [x1] at hi
      cases hi
      have : isOpen t x = true := by simp [isOpen, x2, x3]
      simp [this]
    · have : isOpen t r = false := by
        rw [Bool.eq_false_iff]
        intro ho
        simp only [isOpen, Bool.and_eq_true, decide_eq_true_eq, Bool.not_eq_true'] at ho
        exact h (hu k i x r x1 hi x3 ho.2 (x2.trans ho.1.symm))
      simp [this, h]
theorem mem_of_filter {p : Rw → Bool} {l : List Rw} {r : Rw} (h : r ∈ l.filter p) : r ∈ l := (List.mem_filter.1 h).1
theorem uniq_sel {rows : List Rw} (h : ∀ (i j : Nat) (r s : Rw), rows[i]? = some r → rows[j]? = some s → r.done = false → s.done = false → r.thread = s.thread → i = j) (p : Rw → Bool) : Uniq (rows.filter p) := by
  induction rows with
  | nil => intro i j r s hi; simp at hi
  | cons a l ih =>
    have ih := ih fun i j r s hi hj h1 h2 h3 => by
      have := h (i + 1) (j + 1) r s (by simpa using hi) (by simpa using hj) h1 h2 h3
      omega
    have hx : ∀ s ∈ l, a.done = false → s.done = false → a.thread = s.thread → False := fun s hs h1 h2 h3 => by
      obtain ⟨j, hj⟩ := mem_at hs
      have := h 0 (j + 1) a s rfl (by simpa using hj) h1 h2 h3
      omega
    rw [List.filter_cons]
    split
    · intro i j r s hi hj h1 h2 h3
      cases i with
      | zero =>
        cases j with
        | zero => rfl
        | succ j =>
          simp only [List.getElem?_cons_zero, Option.some.injEq, List.getElem?_cons_succ] at hi hj
          subst hi
          exact (hx s (mem_of_filter (List.mem_of_getElem? hj)) h1 h2 h3).elim
      | succ i =>
        cases j with
        | zero =>
          simp only [List.getElem?_cons_zero, Option.some.injEq, List.getElem?_cons_succ] at hi hj
          subst hj
          exact (hx r (mem_of_filter (List.mem_of_getElem? hi)) h2 h1 h3.symm).elim
        | succ j =>
          have := ih i j r s (by simpa using hi) (by simpa using hj) h1 h2 h3
          omega
    · exact ih
theorem uniq_ren {U : Nat → Bool} {rows : List Rw} (h : Uniq rows) : Uniq (rows.map (ren U)) := by
  intro i j r s hi hj h1 h2 h3
  rw [List.getElem?_map] at hi hj
  cases hx : rows[i]? with
  | none => rw [hx] at hi; cases hi
  | some x =>
    cases hy : rows[j]? with
    | none => rw [hy] at hj; cases hj
    | some y =>
      rw [hx] at hi
      rw [hy] at hj
      simp only [Option.map_some, Option.some.injEq] at hi hj
      subst hi hj
      exact h i j x y hx hy h1 h2 h3
theorem kept_step {U : Nat → Bool} {n : Nat} {rows rows1 : List Rw} {e : Ev} (h : Hist n rows) (hs : stepRows n rows e = some rows1) (hU : U n = true → e.begins = true)
    (hO : ∀ k : Nat, openAt rows e.thread = some k → ∀ x, rows[k]? = some x → U x.fr.toNat = false) :
    (if U n then some ((rows.filter (selR U)).map (ren U)) else stepRows (below U n) ((rows.filter (selR U)).map (ren U)) e) = some ((rows1.filter (selR U)).map (ren U)) := by
  unfold stepRows at hs
  split at hs
  · cases hs
  rename_i hw
  have hw : wrongEv e = false := by simpa using hw
  split at hs
  · rename_i k hk
    split at hs
    · cases hs
    rename_i hb
    cases hs
    have hUn : U n = false := by
      rw [Bool.eq_false_iff]
      intro h1
      exact hb (hU h1)
    obtain ⟨x, x1, x2, x3⟩ := openAt_some hk
    have hx := hO k hk x x1
    have hu2 : Uniq ((rows.filter (selR U)).map (ren U)) := uniq_ren (uniq_sel h.uniq _)
    have hmem : ren U x ∈ (rows.filter (selR U)).map (ren U) := List.mem_map.2 ⟨x, List.mem_filter.2 ⟨List.mem_of_getElem? x1, by simp [selR, hx]⟩, rfl⟩
    obtain ⟨k2, hk2⟩ := mem_at hmem
    have ho2 : openAt ((rows.filter (selR U)).map (ren U)) e.thread = some k2 := openAt_of hu2 hk2 x2 x3
    rw [if_neg (by simp [hUn])]
    unfold stepRows
    rw [if_neg (by simp [hw]), ho2]
    simp only [hb, Bool.false_eq_true, if_false, Option.some.injEq]
    rw [modify_map hu2 ho2, modify_map h.uniq hk, List.map_map, List.filter_map, List.map_map]
    have e1 : (selR U ∘ fun r => if isOpen e.thread r = true then endRw (n : Int) e r else r) = selR U := by
      funext r
      simp only [Function.comp]
      split <;> rfl
    rw [e1]
    apply List.map_congr_left
    intro r hr
    simp only [Function.comp]
    have : isOpen e.thread (ren U r) = isOpen e.thread r := rfl
    rw [this]
    split
    · simp [ren, endRw]
    · rfl
  · rename_i hk
    split at hs
    · rename_i hb
      cases hs
      have hno : openAt ((rows.filter (selR U)).map (ren U)) e.thread = none := openAt_no fun k r hr ht => by
        obtain ⟨y, hy, rfl⟩ := List.mem_map.1 (List.mem_of_getElem? hr)
        obtain ⟨j, hj⟩ := mem_at (mem_of_filter hy)
        exact (openAt_none (r := y) hk hj ht : y.done = true)
      rw [List.filter_append, List.map_append]
      have e2 : selR U (begRw (n : Int) e) = !U n := by simp [selR, begRw]
      split
      · rename_i hUn
        simp [e2, hUn]
      · rename_i hUn
        unfold stepRows
        rw [if_neg (by simp [hw]), hno]
        have hUn : U n = false := by simpa using hUn
        have e3 : [begRw (n : Int) e].filter (selR U) = [begRw (n : Int) e] := by simp [List.filter_cons, e2, hUn]
        rw [e3]
        simp [hb, ren, begRw]
    · cases hs
theorem kept_from {U : Nat → Bool} : ∀ {l : List Ev} {n : Nat} {rows rows' : List Rw}, Hist n rows → rowsFrom n rows l = some rows' → U = undone rows' →
    rowsFrom (below U n) ((rows.filter (selR U)).map (ren U)) (keptFrom U n l) = some ((rows'.filter (selR U)).map (ren U))
  | [], n, rows, rows', h, hr, hU => by
    simp only [rowsFrom, Option.some.injEq] at hr
    subst hr
    rfl
  | e :: l, n, rows, rows', h, hr, hU => by
    have hF := Hist.from (by omega) h hr
    simp only [rowsFrom] at hr
    split at hr
    · rename_i x hx
      obtain ⟨l1, l2⟩ := from_later hr
      obtain ⟨s1, s2⟩ := step_later hx
      have hH := h.step (by omega) hx
      -- of a row that is done later, its place is not named
      have hdone : ∀ (k : Nat) (y : Rw), x[k]? = some y → y.done = true → U y.fr.toNat = false := fun k y hy hd => by
        rw [hU, Bool.eq_false_iff]
        intro hu
        simp only [undone, List.any_eq_true, Bool.and_eq_true, decide_eq_true_eq, Bool.not_eq_true'] at hu
        obtain ⟨z, z1, z2, z3⟩ := hu
        obtain ⟨j, hj⟩ := mem_at z1
        obtain ⟨y', y1, y2, y3⟩ := l1 k y hy
        have := y3 hd
        subst this
        have h0 := (hH.fr _ (List.mem_of_getElem? hy)).1
        have := hF.inj j k z _ hj y1 (by omega)
        subst this
        rw [hj] at y1
        cases y1
        rw [z3] at hd
        cases hd
      have hstep := kept_step (U := U) h hx (fun hn => ?_) (fun k hk y hy => ?_)
      · have hR : rowsFrom (below U (n + 1)) ((x.filter (selR U)).map (ren U)) (keptFrom U (n + 1) l) = some ((rows'.filter (selR U)).map (ren U)) := kept_from (n := n + 1) hH hr hU
        simp only [keptFrom]
        split at hstep
        · rename_i hn
          simp only [Option.some.injEq] at hstep
          rw [if_pos hn, hstep]
          simp only [below, hn, if_true, Nat.add_zero] at hR
          exact hR
        · rename_i hn
          rw [if_neg hn]
          simp only [rowsFrom, hstep]
          simp only [below, hn, Bool.false_eq_true, if_false] at hR
          exact hR
      · -- an event at a place that is named begins
        rw [hU] at hn
        simp only [undone, List.any_eq_true, Bool.and_eq_true, decide_eq_true_eq, Bool.not_eq_true'] at hn
        obtain ⟨z, z1, z2, z3⟩ := hn
        obtain ⟨j, hj⟩ := mem_at z1
        cases hb : e.begins with
        | true => rfl
        | false =>
          exfalso
          unfold stepRows at hx
          split at hx
          · cases hx
          split at hx
          · rename_i k hk
            rw [hb] at hx
            simp only [Bool.false_eq_true, if_false, Option.some.injEq] at hx
            cases hxj : x[j]? with
            | none =>
              have := l2 j z hj hxj
              omega
            | some y =>
              obtain ⟨y', y1, y2, -⟩ := l1 j y hxj
              rw [hj] at y1
              cases y1
              rw [← hx] at hxj
              have : ∃ w, rows[j]? = some w ∧ w.fr = y.fr := by
                rcases modify_get hxj with ⟨_, hxj⟩ | ⟨rfl, w, hw, rfl⟩
                · exact ⟨y, hxj, rfl⟩
                · exact ⟨w, hw, rfl⟩
              obtain ⟨w, w1, w2⟩ := this
              have := (h.fr w (List.mem_of_getElem? w1)).2
              omega
          · rw [hb] at hx
            simp at hx
      · -- the row that ends is done later
        unfold stepRows at hx
        split at hx
        · cases hx
        rw [hk] at hx
        simp only at hx
        split at hx
        · cases hx
        simp only [Option.some.injEq] at hx
        have := hdone k (endRw n e y) (by rw [← hx, List.getElem?_modify, hy]; simp) rfl
        exact this
    · cases hr
/-- what was answered is a history by itself -/
theorem whole_hist {l : List Ev} {rows : List Rw} (h : rowsOf l = some rows) : rowsOf (keptFrom (undone rows) 0 l) = some ((rows.filter (·.done)).map (ren (undone rows))) := by
  have h1 := kept_from (n := 0) Hist.nil h rfl
  have hH := rowsOf_hist h
  have e : rows.filter (selR (undone rows)) = rows.filter (·.done) := by
    apply List.filter_congr
    intro r hr
    unfold selR
    have h0 := (hH.fr r hr).1
    cases hd : r.done with
    | true =>
      rw [Bool.not_eq_true', Bool.eq_false_iff]
      intro hu
      simp only [undone, List.any_eq_true, Bool.and_eq_true, decide_eq_true_eq, Bool.not_eq_true'] at hu
      obtain ⟨z, z1, z2, z3⟩ := hu
      obtain ⟨i, hi⟩ := mem_at hr
      obtain ⟨j, hj⟩ := mem_at z1
      have := hH.inj i j r z hi hj (by omega)
      subst this
      rw [hi] at hj
      cases hj
      rw [hd] at z3
      cases z3
    | false =>
      have : undone rows r.fr.toNat = true := by
        simp only [undone, List.any_eq_true, Bool.and_eq_true, decide_eq_true_eq, Bool.not_eq_true']
        exact ⟨r, hr, by omega, hd⟩
      simp [this]
  rw [e] at h1
  simpa [rowsOf, below] using h1
/-- .. and stands in the same order -/
theorem whole_order {l : List Ev} {rows : List Rw} (h : rowsOf l = some rows) {a b : Rw} (ha : a ∈ rows) (hb : b ∈ rows) (hd : a.done = true) : (ren (undone rows) a).to < (ren (undone rows) b).fr ↔ a.to < b.fr := by
  have hH := rowsOf_hist h
  have a1 := hH.to a ha hd
  have b1 := hH.fr b hb
  have hu : undone rows a.to.toNat = false := by
    rw [Bool.eq_false_iff]
    intro hu
    simp only [undone, List.any_eq_true, Bool.and_eq_true, decide_eq_true_eq, Bool.not_eq_true'] at hu
    obtain ⟨z, z1, z2, z3⟩ := hu
    exact hH.apart a ha z z1 hd (by omega)
  have := below_lt (U := undone rows) (x := a.to.toNat) (y := b.fr.toNat) hu
  simp only [ren, hd, if_true]
  omega
end Go.Proofs.YtjhnfmfajbghbaaDoor

set_option linter.unusedSimpArgs false
set_option linter.unusedVariables false
namespace Go.Proofs.YtjhnfmfajbghbaaDoor
open Go.Rex
def begEv (r : Rw) : Ev := ⟨r.thread, true, r.kind, r.key, r.val, r.tall, 0, 0⟩
def endEv (r : Rw) : Ev := ⟨r.thread, false, 0, 0, 0, 0, r.code, r.ans⟩
def wholeOf (rows : List Rw) : List Rw := rows.filter (·.done)
structure Told (evs : List Ev) (rows : List Rw) : Prop where
  beg : ∀ r ∈ rows, evs[r.fr.toNat]? = some (begEv r)
  fin : ∀ r ∈ rows, r.done = true → evs[r.to.toNat]? = some (endEv r)
  all : ∀ i : Nat, i < evs.length → ∃ r ∈ rows, r.fr = (i : Int) ∨ (r.done = true ∧ r.to = (i : Int))
  len : rows.length + (wholeOf rows).length = evs.length
  to : ∀ (i j : Nat) (r s : Rw), rows[i]? = some r → rows[j]? = some s → r.done = true → s.done = true → r.to = s.to → i = j
theorem filter_modify {p : Rw → Bool} {f : Rw → Rw} : ∀ {rows : List Rw} {k : Nat} {x : Rw}, rows[k]? = some x → p x = false → p (f x) = true → ((rows.modify k f).filter p).length = (rows.filter p).length + 1
  | [], k, x, h, _, _ => by simp at h
  | a :: l, 0, x, h, h1, h2 => by
    simp only [List.getElem?_cons_zero, Option.some.injEq] at h
    subst h
    simp [List.modify_zero_cons, List.filter_cons, h1, h2]
  | a :: l, k + 1, x, h, h1, h2 => by
    have := filter_modify (rows := l) (k := k) (by simpa using h) h1 h2
    simp only [List.modify_succ_cons, List.filter_cons]
    split
    · simp only [List.length_cons, this]
    · exact this
theorem Told.step {l : List Ev} {rows rows' : List Rw} {e : Ev} (hH : Hist l.length rows) (h : Told l rows) (hs : stepRows l.length rows e = some rows') : Told (l ++ [e]) rows' := by
  have low : ∀ i : Nat, i < l.length → (l ++ [e])[i]? = l[i]? := fun i hi => List.getElem?_append_left hi
  have last : (l ++ [e])[l.length]? = some e := by simp
  unfold stepRows at hs
  split at hs
  · cases hs
  rename_i hw
  have hw : wrongEv e = false := by simpa using hw
  split at hs
  · rename_i k hk
    split at hs
    · cases hs
    rename_i hb
    have hb : e.begins = false := by simpa using hb
    cases hs
    obtain ⟨x, x1, x2, x3⟩ := openAt_some hk
    have he : endEv (endRw l.length e x) = e := by
      unfold wrongEv at hw
      rw [hb] at hw
      simp only [Bool.false_eq_true, if_false, Bool.not_eq_false', Bool.and_eq_true, decide_eq_true_eq] at hw
      obtain ⟨⟨⟨w1, w2⟩, w3⟩, w4⟩ := hw
      obtain ⟨e1, e2, e3, e4, e5, e6, e7, e8⟩ := e
      simp only at w1 w2 w3 w4 hb x2
      simp [endEv, endRw, w1, w2, w3, w4, hb, x2]
    refine ⟨fun r hr => ?_, fun r hr hd => ?_, fun i hi => ?_, ?_, fun i j r s hi hj h1 h2 h3 => ?_⟩
    · obtain ⟨i, hi⟩ := mem_at hr
      rcases modify_get hi with ⟨_, hi⟩ | ⟨rfl, y, hy, rfl⟩
      · have hm := List.mem_of_getElem? hi
        have := hH.fr r hm
        rw [low _ (by omega)]
        exact h.beg r hm
      · have hm := List.mem_of_getElem? hy
        have := hH.fr y hm
        rw [show (endRw (l.length : Int) e y).fr = y.fr from rfl, low _ (by omega)]
        exact h.beg y hm
    · obtain ⟨i, hi⟩ := mem_at hr
      rcases modify_get hi with ⟨_, hi⟩ | ⟨rfl, y, hy, rfl⟩
      · have hm := List.mem_of_getElem? hi
        have := hH.to r hm hd
        rw [low _ (by omega)]
        exact h.fin r hm hd
      · rw [x1] at hy
        cases hy
        rw [show (endRw (l.length : Int) e x).to = (l.length : Int) from rfl, Int.toNat_natCast, last, he]
    · rw [List.length_append, List.length_singleton] at hi
      have hkm : ∃ r, r ∈ rows.modify k (endRw (l.length : Int) e) ∧ r = endRw (l.length : Int) e x := ⟨_, List.mem_of_getElem? (show (rows.modify k (endRw (l.length : Int) e))[k]? = some (endRw (l.length : Int) e x) by rw [List.getElem?_modify, x1]; simp), rfl⟩
      by_cases hl : i < l.length
      · obtain ⟨r, r1, r2⟩ := h.all i hl
        obtain ⟨j, hj⟩ := mem_at r1
        by_cases hjk : k = j
        · subst hjk
          rw [x1] at hj
          cases hj
          obtain ⟨r', m1, rfl⟩ := hkm
          refine ⟨_, m1, ?_⟩
          rcases r2 with r2 | r2
          · exact .inl r2
          · rw [x3] at r2
            cases r2.1
        · refine ⟨r, List.mem_of_getElem? (i := j) ?_, r2⟩
          rw [List.getElem?_modify, hj]
          simp [hjk]
      · obtain ⟨r', m1, rfl⟩ := hkm
        exact ⟨_, m1, .inr ⟨rfl, by show (l.length : Int) = i; omega⟩⟩
    · have := h.len
      have h2 := filter_modify (p := fun r : Rw => r.done) (f := endRw (l.length : Int) e) x1 x3 rfl
      unfold wholeOf at *
      rw [List.length_modify, h2, List.length_append, List.length_singleton]
      omega
    · rcases modify_get hi with ⟨_, hi'⟩ | ⟨hi', y, hy, ey⟩ <;> rcases modify_get hj with ⟨_, hj'⟩ | ⟨hj', z, hz, ez⟩
      · exact h.to i j r s hi' hj' h1 h2 h3
      · have := hH.to r (List.mem_of_getElem? hi') h1
        have h4 : r.to = (l.length : Int) := by rw [h3, ez]; rfl
        omega
      · have := hH.to s (List.mem_of_getElem? hj') h2
        have h4 : (l.length : Int) = s.to := by rw [← h3, ey]; rfl
        omega
      · rw [hi', hj']
  · rename_i hk
    split at hs
    · rename_i hb
      cases hs
      have he : begEv (begRw l.length e) = e := by
        unfold wrongEv at hw
        rw [hb] at hw
        simp only [if_true, Bool.not_eq_false', Bool.and_eq_true, decide_eq_true_eq] at hw
        obtain ⟨w1, w2⟩ := hw
        obtain ⟨e1, e2, e3, e4, e5, e6, e7, e8⟩ := e
        simp only at w1 w2 hb
        simp [begEv, begRw, w1, w2, hb]
      have old : ∀ {r : Rw}, r ∈ rows ++ [begRw (l.length : Int) e] → r ∈ rows ∨ r = begRw (l.length : Int) e := fun hr => by simpa using hr
      refine ⟨fun r hr => ?_, fun r hr hd => ?_, fun i hi => ?_, ?_, fun i j r s hi hj h1 h2 h3 => ?_⟩
      · rcases old hr with hr | rfl
        · have := hH.fr r hr
          rw [low _ (by omega)]
          exact h.beg r hr
        · rw [show (begRw (l.length : Int) e).fr = (l.length : Int) from rfl, Int.toNat_natCast, last, he]
      · rcases old hr with hr | rfl
        · have := hH.to r hr hd
          rw [low _ (by omega)]
          exact h.fin r hr hd
        · cases hd
      · rw [List.length_append, List.length_singleton] at hi
        by_cases hl : i < l.length
        · obtain ⟨r, r1, r2⟩ := h.all i hl
          exact ⟨r, List.mem_append_left _ r1, r2⟩
        · exact ⟨begRw (l.length : Int) e, by simp, .inl (by show (l.length : Int) = i; omega)⟩
      · have := h.len
        unfold wholeOf at *
        have e2 : (begRw (l.length : Int) e).done = false := rfl
        simp only [List.length_append, List.length_singleton, List.filter_append, List.filter_cons, e2, Bool.false_eq_true, if_false, List.filter_nil, List.length_nil]
        omega
      · rcases push_get hi with hi | ⟨hi, rfl⟩
        · rcases push_get hj with hj | ⟨hj, rfl⟩
          · exact h.to i j r s hi hj h1 h2 h3
          · cases h2
        · cases h1
    · cases hs
theorem told_take {l : List Ev} : ∀ {n : Nat}, n ≤ l.length → ∀ {rows : List Rw}, rowsOf (l.take n) = some rows → Told (l.take n) rows
  | 0, _, rows, h => by
    simp only [List.take_zero, rowsOf, rowsFrom, Option.some.injEq] at h
    subst h
    exact ⟨fun r hr => (by cases hr), fun r hr => (by cases hr), fun i hi => (by simp at hi), rfl, fun i j r s hi => (by simp at hi)⟩
  | n + 1, hn, rows, h => by
    rw [List.take_succ_eq_append_getElem (by omega)] at h ⊢
    rw [rowsOf_snoc] at h
    cases h1 : rowsOf (l.take n) with
    | none => rw [h1] at h; cases h
    | some r1 =>
      rw [h1] at h
      have h2 := told_take (by omega) h1
      exact h2.step (rowsOf_hist h1) h
theorem rowsOf_told {l : List Ev} {rows : List Rw} (h : rowsOf l = some rows) : Told l rows := by
  have := told_take (l := l) (n := l.length) (Nat.le_refl _) (rows := rows) (by rwa [List.take_length])
  rwa [List.take_length] at this
/-- the places that are taken when so many rows, and of the next one its beginning if 'half', have been put -/
def Taken (rows : List Rw) (j : Nat) (half : Bool) (i : Nat) : Prop :=
  (∃ (k : Nat) (r : Rw), k < j ∧ rows[k]? = some r ∧ (r.fr = (i : Int) ∨ (r.done = true ∧ r.to = (i : Int)))) ∨ (half = true ∧ ∃ r, rows[j]? = some r ∧ r.fr = (i : Int))
def OfInv (rows : List Rw) (j : Nat) (half : Bool) (ev : Nat → Ev) (tk : Nat → Bool) : Prop :=
  ∀ evs, rowsOf evs = some rows → ∀ i : Nat, i < rows.length + (wholeOf rows).length → (tk i = true ↔ Taken rows j half i) ∧ (tk i = true → evs[i]? = some (ev i))
theorem OfInv.init (rows : List Rw) (ev : Nat → Ev) {tk : Nat → Bool} (h : ∀ i, tk i = false) : OfInv rows 0 false ev tk := by
  intro evs _ i _
  rw [h i]
  refine ⟨⟨fun h => (by cases h), fun h => ?_⟩, fun h => (by cases h)⟩
  rcases h with ⟨k, r, hk, _⟩ | ⟨h, _⟩
  · omega
  · cases h
theorem OfInv.beg {rows : List Rw} {j : Nat} {ev ev' : Nat → Ev} {tk tk' : Nat → Bool} {r : Rw} (h : OfInv rows j false ev tk) (hr : rows[j]? = some r)
    (h1 : ∀ i, ev' i = if r.fr = (i : Int) then begEv r else ev i) (h2 : ∀ i, tk' i = if r.fr = (i : Int) then true else tk i) : OfInv rows j true ev' tk' := by
  intro evs he i hi
  obtain ⟨a, b⟩ := h evs he i hi
  rw [h1, h2]
  by_cases hx : r.fr = (i : Int)
  · rw [if_pos hx, if_pos hx]
    refine ⟨⟨fun _ => .inr ⟨rfl, r, hr, hx⟩, fun _ => rfl⟩, fun _ => ?_⟩
    have := (rowsOf_told he).beg r (List.mem_of_getElem? hr)
    rwa [hx, Int.toNat_natCast] at this
  · rw [if_neg hx, if_neg hx]
    refine ⟨⟨fun ht => ?_, fun ht => ?_⟩, b⟩
    · rcases a.1 ht with h | ⟨h, _⟩
      · exact .inl h
      · cases h
    · rcases ht with h | ⟨_, s, hs, hf⟩
      · exact a.2 (.inl h)
      · rw [hr] at hs
        cases hs
        exact absurd hf hx
theorem OfInv.end {rows : List Rw} {j : Nat} {ev ev' : Nat → Ev} {tk tk' : Nat → Bool} {r : Rw} (h : OfInv rows j true ev tk) (hr : rows[j]? = some r) (hd : r.done = true)
    (h1 : ∀ i, ev' i = if r.to = (i : Int) then endEv r else ev i) (h2 : ∀ i, tk' i = if r.to = (i : Int) then true else tk i) : OfInv rows (j + 1) false ev' tk' := by
  intro evs he i hi
  obtain ⟨a, b⟩ := h evs he i hi
  rw [h1, h2]
  by_cases hx : r.to = (i : Int)
  · rw [if_pos hx, if_pos hx]
    refine ⟨⟨fun _ => .inl ⟨j, r, by omega, hr, .inr ⟨hd, hx⟩⟩, fun _ => rfl⟩, fun _ => ?_⟩
    have := (rowsOf_told he).fin r (List.mem_of_getElem? hr) hd
    rwa [hx, Int.toNat_natCast] at this
  · rw [if_neg hx, if_neg hx]
    refine ⟨⟨fun ht => ?_, fun ht => ?_⟩, b⟩
    · rcases a.1 ht with ⟨k, s, hk, hs, hf⟩ | ⟨_, s, hs, hf⟩
      · exact .inl ⟨k, s, by omega, hs, hf⟩
      · exact .inl ⟨j, s, by omega, hs, .inl hf⟩
    · rcases ht with ⟨k, s, hk, hs, hf⟩ | ⟨h, _⟩
      · by_cases hkj : k = j
        · subst hkj
          rw [hr] at hs
          cases hs
          rcases hf with hf | hf
          · exact a.2 (.inr ⟨rfl, r, hr, hf⟩)
          · exact absurd hf.2 hx
        · exact a.2 (.inl ⟨k, s, by omega, hs, hf⟩)
      · cases h
theorem OfInv.no {rows : List Rw} {j : Nat} {ev : Nat → Ev} {tk : Nat → Bool} {r : Rw} (h : OfInv rows j true ev tk) (hr : rows[j]? = some r) (hd : r.done = false) : OfInv rows (j + 1) false ev tk := by
  intro evs he i hi
  obtain ⟨a, b⟩ := h evs he i hi
  refine ⟨⟨fun ht => ?_, fun ht => ?_⟩, b⟩
  · rcases a.1 ht with ⟨k, s, hk, hs, hf⟩ | ⟨_, s, hs, hf⟩
    · exact .inl ⟨k, s, by omega, hs, hf⟩
    · exact .inl ⟨j, s, by omega, hs, .inl hf⟩
  · rcases ht with ⟨k, s, hk, hs, hf⟩ | ⟨h, _⟩
    · by_cases hkj : k = j
      · subst hkj
        rw [hr] at hs
        cases hs
        rcases hf with hf | hf
        · exact a.2 (.inr ⟨rfl, r, hr, hf⟩)
        · rw [hd] at hf
          cases hf.1
      · exact a.2 (.inl ⟨k, s, by omega, hs, hf⟩)
    · cases h
/-- of rows of a history no beginning falls out -/
theorem OfInv.begOK {rows : List Rw} {j : Nat} {ev : Nat → Ev} {tk : Nat → Bool} {r : Rw} (h : OfInv rows j false ev tk) (hr : rows[j]? = some r)
    (hbad : r.fr < 0 ∨ ((rows.length + (wholeOf rows).length : Nat) : Int) ≤ r.fr ∨ tk r.fr.toNat = true) {evs : List Ev} : rowsOf evs ≠ some rows := by
  intro he
  have hH := rowsOf_hist he
  have hT := rowsOf_told he
  have hm := List.mem_of_getElem? hr
  have h1 := hH.fr r hm
  have h2 := hT.len
  have h3 : tk r.fr.toNat = true := by rcases hbad with h | h | h <;> first | omega | exact h
  obtain ⟨a, -⟩ := h evs he r.fr.toNat (by omega)
  rcases a.1 h3 with ⟨k, s, hk, hs, hf⟩ | ⟨h, _⟩
  · rcases hf with hf | ⟨hd, hf⟩
    · have := hH.inj k j s r hs hr (by omega)
      omega
    · exact hH.apart s (List.mem_of_getElem? hs) r hm hd (by omega)
  · cases h
theorem OfInv.endOK {rows : List Rw} {j : Nat} {ev : Nat → Ev} {tk : Nat → Bool} {r : Rw} (h : OfInv rows j true ev tk) (hr : rows[j]? = some r) (hd : r.done = true)
    (hbad : r.to < 0 ∨ ((rows.length + (wholeOf rows).length : Nat) : Int) ≤ r.to ∨ tk r.to.toNat = true) {evs : List Ev} : rowsOf evs ≠ some rows := by
  intro he
  have hH := rowsOf_hist he
  have hT := rowsOf_told he
  have hm := List.mem_of_getElem? hr
  have h1 := hH.to r hm hd
  have h2 := hT.len
  have h3 : tk r.to.toNat = true := by rcases hbad with h | h | h <;> first | omega | exact h
  obtain ⟨a, -⟩ := h evs he r.to.toNat (by omega)
  rcases a.1 h3 with ⟨k, s, hk, hs, hf⟩ | ⟨_, s, hs, hf⟩
  · rcases hf with hf | ⟨hd2, hf⟩
    · exact hH.apart r hm s (List.mem_of_getElem? hs) hd (by omega)
    · have := hT.to k j s r hs hr hd2 hd (by omega)
      omega
  · rw [hr] at hs
    cases hs
    exact hH.apart r hm r hm hd (by omega)
/-- when all is put, all is told -/
theorem OfInv.all {rows : List Rw} {ev : Nat → Ev} {tk : Nat → Bool} (h : OfInv rows rows.length false ev tk) {evs : List Ev} (he : rowsOf evs = some rows) : evs = (List.range (rows.length + (wholeOf rows).length)).map ev := by
  have hT := rowsOf_told he
  apply List.ext_getElem?
  intro i
  rw [List.getElem?_map]
  by_cases hi : i < rows.length + (wholeOf rows).length
  · obtain ⟨a, b⟩ := h evs he i hi
    rw [List.getElem?_range hi]
    apply b
    apply a.2
    obtain ⟨r, r1, r2⟩ := hT.all i (by rw [← hT.len]; exact hi)
    obtain ⟨k, hk⟩ := mem_at r1
    exact .inl ⟨k, r, (List.getElem?_eq_some_iff.1 hk).1, hk, r2⟩
  · rw [List.getElem?_eq_none (by rw [← hT.len]; omega), List.getElem?_eq_none (by simp; omega)]
    rfl
end Go.Proofs.YtjhnfmfajbghbaaDoor
