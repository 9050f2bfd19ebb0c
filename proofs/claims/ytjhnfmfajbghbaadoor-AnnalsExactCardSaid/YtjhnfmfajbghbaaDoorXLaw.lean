/- 'AnnalsExact': what is common -/
import Derived.Test.YtjhnfmfajbghbaaDoorXOf
import Derived.Test.YtjhnfmfajbghbaaDoorXWE
import Derived.Test.YtjhnfmfajbghbaaDoorACo
set_option linter.unusedSimpArgs false
set_option linter.unusedVariables false
namespace Go.Proofs.YtjhnfmfajbghbaaDoor
open Go.Rex
def OfAt (q : Env) (rows : List Rw) (N : Nat) : Prop := (q.bv (N + 4) = true → OkSl q N ∧ rowsOf (recs mkEv q N) = some rows ∧ q.iv (N + 1) ≤ 200000 ∧ ∀ i : Nat, InR (q.ic (N + 3) i 0 0)) ∧
  (q.bv (N + 4) = false → q.bv N = true ∧ q.iv (N + 1) = 0 ∧ ∀ evs, rowsOf evs ≠ some rows) ∧ ∀ evs, rowsOf evs = some rows → recs mkEv q N = evs
section
variable {σ : Sub} {ρ ρ' : Env} {N : Nat}
theorem con_iv (m k : Nat) : (conEnv σ m N ρ ρ').iv (m + k) = ρ'.iv (N + k) := by
  show (if m + k < m then (σ.nenv ρ).iv (m + k) else ρ'.iv (m + k - m + N)) = _
  rw [if_neg (by omega), show m + k - m + N = N + k by omega]
theorem con_bv (m k : Nat) : (conEnv σ m N ρ ρ').bv (m + k) = ρ'.bv (N + k) := by
  show (if m + k < m then (σ.nenv ρ).bv (m + k) else ρ'.bv (m + k - m + N)) = _
  rw [if_neg (by omega), show m + k - m + N = N + k by omega]
theorem con_ic (m k : Nat) : (conEnv σ m N ρ ρ').ic (m + k) = ρ'.ic (N + k) := by
  show (if m + k < m then (σ.nenv ρ).ic (m + k) else ρ'.ic (m + k - m + N)) = _
  rw [if_neg (by omega), show m + k - m + N = N + k by omega]
theorem con_bc (m k : Nat) : (conEnv σ m N ρ ρ').bc (m + k) = ρ'.bc (N + k) := by
  show (if m + k < m then (σ.nenv ρ).bc (m + k) else ρ'.bc (m + k - m + N)) = _
  rw [if_neg (by omega), show m + k - m + N = N + k by omega]
theorem con_recs {α : Type} {mk : (Nat → Int) → (Nat → Bool) → α} (m : Nat) : recs mk (conEnv σ m N ρ ρ') m = recs mk ρ' N :=
  recs_same (con_iv m 1) fun i _ => by
    unfold recAt
    rw [con_ic m 3, con_bc m 3]
theorem con_sl (m : Nat) : OkSl (conEnv σ m N ρ ρ') m = OkSl ρ' N := by
  unfold OkSl
  rw [con_iv m 1, con_iv m 2, show (conEnv σ m N ρ ρ').bv m = ρ'.bv N from con_bv m 0]
theorem con_in {α : Type} {mk : (Nat → Int) → (Nat → Bool) → α} {m b : Nat} (h : b + 3 < m) : recs mk (conEnv σ m N ρ ρ') b = recs mk (σ.nenv ρ) b :=
  recs_same (by simp [conEnv, show b + 1 < m by omega]) fun i _ => by simp [recAt, conEnv, h]
theorem of_at (h : ofPost (conEnv σ 4 N ρ ρ')) {rows : List Rw} (he : recs mkRw (σ.nenv ρ) 0 = rows) : OfAt ρ' rows N := by
  unfold ofPost at h
  rw [show (conEnv σ 4 N ρ ρ').bv 8 = ρ'.bv (N + 4) from con_bv 4 4, con_recs 4, con_sl 4, con_in (by omega), he, show (conEnv σ 4 N ρ ρ').bv 4 = ρ'.bv N from con_bv 4 0, show (conEnv σ 4 N ρ ρ').iv 5 = ρ'.iv (N + 1) from con_iv 4 1, show (conEnv σ 4 N ρ ρ').ic 7 = ρ'.ic (N + 3) from con_ic 4 3] at h
  exact ⟨h.1, fun hb => ⟨(h.2.1 hb).1, (h.2.1 hb).2.1, (h.2.1 hb).2.2.2⟩, h.2.2⟩
theorem alike_at (h : alikePost (conEnv σ 8 N ρ ρ')) {a b : List Ev} (ha : recs mkEv (σ.nenv ρ) 0 = a) (hb : recs mkEv (σ.nenv ρ) 4 = b) : ρ'.bv N = true ↔ a = b := by
  unfold alikePost at h
  rw [show (conEnv σ 8 N ρ ρ').bv 8 = ρ'.bv N from con_bv 8 0, con_in (by omega), con_in (by omega), ha, hb] at h
  exact h
theorem equal_at (h : equalPost (conEnv σ 8 N ρ ρ')) {a b : List Rw} (ha : recs mkRw (σ.nenv ρ) 0 = a) (hb : recs mkRw (σ.nenv ρ) 4 = b) : ρ'.bv N = true ↔ a = b := by
  unfold equalPost at h
  rw [show (conEnv σ 8 N ρ ρ').bv 8 = ρ'.bv N from con_bv 8 0, con_in (by omega), con_in (by omega), ha, hb] at h
  exact h
theorem rsame_at (h : rsamePost (conEnv σ 8 N ρ ρ')) {a b : List Rw} (ha : recs mkRw (σ.nenv ρ) 0 = a) (hb : recs mkRw (σ.nenv ρ) 4 = b) : ρ'.bv N = true ↔ a = b := by
  unfold rsamePost at h
  rw [show (conEnv σ 8 N ρ ρ').bv 8 = ρ'.bv N from con_bv 8 0, con_in (by omega), con_in (by omega), ha, hb] at h
  exact h
theorem whole_at (h : wholePost (conEnv σ 4 N ρ ρ')) {rows : List Rw} (he : recs mkRw (σ.nenv ρ) 0 = rows) : OkSl ρ' N ∧ recs mkRw ρ' N = wholeOf rows := by
  unfold wholePost at h
  rw [con_recs 4, con_sl 4, con_in (by omega), he] at h
  exact h
theorem events_at (h : eventsPost (conEnv σ 4 N ρ ρ')) {bts : List Bt} (he : recs mkBt (σ.nenv ρ) 0 = bts) : OkSl ρ' N ∧ recs mkEv ρ' N = bts.flatMap evsOf := by
  unfold eventsPost at h
  rw [con_recs 4, con_sl 4, con_in (by omega), he] at h
  exact h
def ROfAt (q : Env) (rows : List Rw) (N : Nat) : Prop := OkSl q N ∧ (q.bv (N + 4) = true → rowsOf (recs mkEv q N) = some rows) ∧ (q.bv (N + 4) = false → q.iv (N + 1) = 0 ∧ ∀ evs, rowsOf evs ≠ some rows)
theorem rof_at (h : rofPost (conEnv σ 4 N ρ ρ')) {rows : List Rw} (he : recs mkRw (σ.nenv ρ) 0 = rows) : ROfAt ρ' rows N := by
  unfold rofPost at h
  rw [show (conEnv σ 4 N ρ ρ').bv 8 = ρ'.bv (N + 4) from con_bv 4 4, con_recs 4, con_sl 4, con_in (by omega), he, show (conEnv σ 4 N ρ ρ').iv 5 = ρ'.iv (N + 1) from con_iv 4 1] at h
  exact h
theorem of_six (h : ofPost (conEnv σ 4 N ρ ρ')) (hb : ρ'.bv (N + 4) = false) : ρ'.iv (N + 2) = 0 :=
  (con_iv 4 2).symm.trans (h.2.1 ((con_bv 4 4).trans hb)).2.2.1
theorem good_at (h : goodPost (conEnv σ 4 N ρ ρ')) {evs : List Ev} (he : recs mkEv (σ.nenv ρ) 0 = evs) : OkSl ρ' N ∧ rowsOf evs = some (recs mkRw ρ' N) := by
  unfold goodPost at h
  rw [con_recs 4, con_sl 4, con_in (by omega), he] at h
  exact h
end
/-- two ways to the events of rows -/
theorem of_same {q : Env} {rows : List Rw} {M N : Nat} (h1 : OfAt q rows M) (h2 : ROfAt q rows N) : q.bv (M + 4) = q.bv (N + 4) ∧ recs mkEv q M = recs mkEv q N ∧ (q.bv (M + 4) = true → OkSl q M) := by
  obtain ⟨a1, a2, a3⟩ := h1
  obtain ⟨b0, b1, b2⟩ := h2
  cases hM : q.bv (M + 4) with
  | true =>
    obtain ⟨c1, c2, -, -⟩ := a1 hM
    cases hN : q.bv (N + 4) with
    | true => exact ⟨rfl, a3 _ (b1 hN), fun _ => c1⟩
    | false => exact absurd c2 ((b2 hN).2 _)
  | false =>
    obtain ⟨c1, c2, c3⟩ := a2 hM
    cases hN : q.bv (N + 4) with
    | true => exact absurd (b1 hN) (c3 _)
    | false =>
      refine ⟨rfl, ?_, fun h => (by cases h)⟩
      have d := (b2 hN).1
      simp [recs, c2, d]
theorem OfAt.ok {q : Env} {rows : List Rw} {M : Nat} (h1 : OfAt q rows M) (h6 : q.bv (M + 4) = false → q.iv (M + 2) = 0) : OkSl q M := by
  cases hM : q.bv (M + 4) with
  | true => exact (h1.1 hM).1
  | false =>
    obtain ⟨c1, c2, c3⟩ := h1.2.1 hM
    have := h6 hM
    exact ⟨fun _ => c2, by omega, by omega, by omega⟩
def xBase (q : Env) : Prop := (OkSl q 0 ∧ OkSl q 4 ∧ OkSl q 8) ∧ (q.iv 1 ≤ 200 ∧ q.iv 5 ≤ 200 ∧ q.iv 9 ≤ 200) ∧ (∀ i : Nat, (i : Int) < q.iv 5 → InR (q.ic 7 i 0 0)) ∧ ∀ i : Nat, (i : Int) < q.iv 9 → InR (q.ic 11 i 0 0)
def shX : List (Bool × List FK) := [shBt, shEv, shRow]
abbrev lawX : Con := lawConG 26 ss5 7 shX
theorem lawX_pre {ρ : Env} (hpre : lawPre shX ρ) : (OkSl ρ 0 ∧ OkSl ρ 4 ∧ OkSl ρ 8) ∧ (∀ i : Nat, (i : Int) < ρ.iv 5 → InR (ρ.ic 7 i 0 0)) ∧ ∀ i : Nat, (i : Int) < ρ.iv 9 → InR (ρ.ic 11 i 0 0) := by
  replace hpre : ((ρ.bv 0 = true → ρ.iv 1 = 0 ∧ ρ.iv 2 = 0) ∧ 0 ≤ ρ.iv 1 ∧ ρ.iv 1 ≤ ρ.iv 2 ∧ ρ.iv 2 ≤ 9223372036854775807 ∧ KdRange ρ 3 (ρ.iv 1) kBt) ∧ ((ρ.bv 4 = true → ρ.iv 5 = 0 ∧ ρ.iv 6 = 0) ∧ 0 ≤ ρ.iv 5 ∧ ρ.iv 5 ≤ ρ.iv 6 ∧ ρ.iv 6 ≤ 9223372036854775807 ∧ KdRange ρ 7 (ρ.iv 5) kEv) ∧ ((ρ.bv 8 = true → ρ.iv 9 = 0 ∧ ρ.iv 10 = 0) ∧ 0 ≤ ρ.iv 9 ∧ ρ.iv 9 ≤ ρ.iv 10 ∧ ρ.iv 10 ≤ 9223372036854775807 ∧ KdRange ρ 11 (ρ.iv 9) kRow) ∧ True := hpre
  obtain ⟨h1, h2, h3, -⟩ := hpre
  exact ⟨⟨⟨fun h => (h1.1 h).1, h1.2.1, h1.2.2.1, h1.2.2.2.1⟩, ⟨fun h => (h2.1 h).1, h2.2.1, h2.2.2.1, h2.2.2.2.1⟩, ⟨fun h => (h3.1 h).1, h3.2.1, h3.2.2.1, h3.2.2.2.1⟩⟩, fun i hi => h2.2.2.2.2 i 0 .i64 hi rfl, fun i hi => h3.2.2.2.2 i 0 .i64 hi rfl⟩
end Go.Proofs.YtjhnfmfajbghbaaDoor
