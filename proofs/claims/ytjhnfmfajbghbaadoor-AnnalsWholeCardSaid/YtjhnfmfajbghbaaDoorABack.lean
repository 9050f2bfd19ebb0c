/- 'AnnalsBack': there and back -/
import Derived.Test.YtjhnfmfajbghbaaDoorAOf
set_option linter.unusedSimpArgs false
set_option linter.unusedVariables false
namespace Go.Proofs.YtjhnfmfajbghbaaDoor
open Go.Rex
noncomputable def backE : Ex := { sched := sched, loops := [], cons := [isCon, awakeCon, rowsCon, ofCon, alikeCon, equalCon], fin := lawConG 26 ssB 3 [shEv, shRow] }
def backOut : Out :=
  .call 1 { lo := 0, lob := 0, bk := [(1, { blk := 3 }), (0, { blk := 2 })] } 8 <|
   .ob (.or (.not (.var 0)) (.ieq (.var 1) (.lit 0))) <|
   .ob (.ile (.lit 0) (.var 1)) <|
   .ob (.or (.ilt (.lit 200) (.var 1)) (.or (.not (.var 4)) (.ieq (.var 5) (.lit 0)))) <|
   .ob (.or (.ilt (.lit 200) (.var 1)) (.ile (.lit 0) (.var 5))) <|
   .br (.or (.ilt (.lit 200) (.var 1)) (.ilt (.lit 200) (.var 5)))
   (.fin { lo := 8, lob := 6, bv := [(8, (.lit true))] })
   (.call 2 { lo := 0, lob := 0, iv := [(2, (.var 2)), (1, (.var 1))], bv := [(0, (.var 0))], ct := [(3, .up { r := 3, n1 := (.var 1), s1 := 8, ks := [.int .i64, .bool, .int .i64, .int .i64, .int .i64, .int .i64, .int .i64, .int .i64] } 0 [] (.lit 0))], bk := [(3, { blk := 3 }), (1, { blk := 1 }), (2, { blk := 2 }), (0, { blk := 0 }), (4, { blk := 4, i1 := (.lit 0), s1 := 8 })] } 8 <|
    .br (.var 12)
    (.call 3 { lo := 0, lob := 0, iv := [(2, (.var 10)), (1, (.var 9))], bv := [(0, (.var 8))], ct := [(3, .up { r := 11, n1 := (.var 9), s1 := 10, ks := [.int .i64, .int .i64, .int .i64, .int .i64, .int .i64, .int .i64, .int .i64, .int .i64, .int .i64, .bool] } 0 [] (.lit 0))], bk := [(3, { blk := 3 }), (1, { blk := 1 }), (2, { blk := 2 }), (0, { blk := 0 }), (4, { blk := 6, i1 := (.lit 0), s1 := 10 })] } 13 <|
     .br (.var 17)
     (.call 4 { lo := 0, lob := 0, iv := [(6, (.var 2)), (5, (.var 1)), (2, (.var 15)), (1, (.var 14))], bv := [(4, (.var 0)), (0, (.var 13))], ct := [(7, .up { r := 3, n1 := (.var 1), s1 := 8, ks := [.int .i64, .bool, .int .i64, .int .i64, .int .i64, .int .i64, .int .i64, .int .i64] } 0 [] (.lit 0)), (3, .up { r := 16, n1 := (.var 14), s1 := 8, ks := [.int .i64, .bool, .int .i64, .int .i64, .int .i64, .int .i64, .int .i64, .int .i64] } 0 [] (.lit 0))], bk := [(1, { blk := 4, i1 := (.lit 0), s1 := 8 }), (0, { blk := 8, i1 := (.lit 0), s1 := 8 })] } 18 <|
      .br (.not (.var 18))
      (.fin { lo := 8, lob := 6, bv := [(8, (.lit false))] })
      (.call 3 { lo := 0, lob := 0, iv := [(2, (.var 6)), (1, (.var 5))], bv := [(0, (.var 4))], ct := [(3, .up { r := 7, n1 := (.var 5), s1 := 10, ks := [.int .i64, .int .i64, .int .i64, .int .i64, .int .i64, .int .i64, .int .i64, .int .i64, .int .i64, .bool] } 0 [] (.lit 0))], bk := [(3, { blk := 3 }), (1, { blk := 1 }), (2, { blk := 2 }), (0, { blk := 0 }), (4, { blk := 5, i1 := (.lit 0), s1 := 10 })] } 19 <|
       .br (.not (.var 23))
       (.ob (.or (.not (.var 19)) (.ieq (.var 20) (.lit 0))) <|
        .ob (.ile (.lit 0) (.var 20)) <|
        .fin { lo := 8, lob := 6, bv := [(8, (.ieq (.var 20) (.lit 0)))] })
       (.call 2 { lo := 0, lob := 0, iv := [(2, (.var 21)), (1, (.var 20))], bv := [(0, (.var 19))], ct := [(3, .up { r := 22, n1 := (.var 20), s1 := 8, ks := [.int .i64, .bool, .int .i64, .int .i64, .int .i64, .int .i64, .int .i64, .int .i64] } 0 [] (.lit 0))], bk := [(3, { blk := 3 }), (1, { blk := 1 }), (2, { blk := 2 }), (0, { blk := 0 }), (4, { blk := 9, i1 := (.lit 0), s1 := 8 })] } 24 <|
        .br (.var 28)
        (.call 5 { lo := 0, lob := 0, iv := [(6, (.var 6)), (5, (.var 5)), (2, (.var 26)), (1, (.var 25))], bv := [(4, (.var 4)), (0, (.var 24))], ct := [(7, .up { r := 7, n1 := (.var 5), s1 := 10, ks := [.int .i64, .int .i64, .int .i64, .int .i64, .int .i64, .int .i64, .int .i64, .int .i64, .int .i64, .bool] } 0 [] (.lit 0)), (3, .up { r := 27, n1 := (.var 25), s1 := 10, ks := [.int .i64, .int .i64, .int .i64, .int .i64, .int .i64, .int .i64, .int .i64, .int .i64, .int .i64, .bool] } 0 [] (.lit 0))], bk := [(1, { blk := 5, i1 := (.lit 0), s1 := 10 }), (0, { blk := 10, i1 := (.lit 0), s1 := 10 })] } 29 <|
         .fin { lo := 8, lob := 6, bv := [(8, (.var 29))] })
        (.fin { lo := 8, lob := 6, bv := [(8, (.lit false))] }))))
     (.fin { lo := 8, lob := 6, bv := [(8, (.lit false))] }))
    (.ob (.or (.not (.var 8)) (.ieq (.var 9) (.lit 0))) <|
     .ob (.ile (.lit 0) (.var 9)) <|
     .br (.not (.ieq (.var 9) (.lit 0)))
     (.fin { lo := 8, lob := 6, bv := [(8, (.lit false))] })
     (.call 3 { lo := 0, lob := 0, iv := [(2, (.var 6)), (1, (.var 5))], bv := [(0, (.var 4))], ct := [(3, .up { r := 7, n1 := (.var 5), s1 := 10, ks := [.int .i64, .int .i64, .int .i64, .int .i64, .int .i64, .int .i64, .int .i64, .int .i64, .int .i64, .bool] } 0 [] (.lit 0))], bk := [(3, { blk := 3 }), (1, { blk := 1 }), (2, { blk := 2 }), (0, { blk := 0 }), (4, { blk := 5, i1 := (.lit 0), s1 := 10 })] } 13 <|
      .br (.not (.var 17))
      (.ob (.or (.not (.var 13)) (.ieq (.var 14) (.lit 0))) <|
       .ob (.ile (.lit 0) (.var 14)) <|
       .fin { lo := 8, lob := 6, bv := [(8, (.ieq (.var 14) (.lit 0)))] })
      (.call 2 { lo := 0, lob := 0, iv := [(2, (.var 15)), (1, (.var 14))], bv := [(0, (.var 13))], ct := [(3, .up { r := 16, n1 := (.var 14), s1 := 8, ks := [.int .i64, .bool, .int .i64, .int .i64, .int .i64, .int .i64, .int .i64, .int .i64] } 0 [] (.lit 0))], bk := [(3, { blk := 3 }), (1, { blk := 1 }), (2, { blk := 2 }), (0, { blk := 0 }), (4, { blk := 8, i1 := (.lit 0), s1 := 8 })] } 18 <|
       .br (.var 22)
       (.call 5 { lo := 0, lob := 0, iv := [(6, (.var 6)), (5, (.var 5)), (2, (.var 20)), (1, (.var 19))], bv := [(4, (.var 4)), (0, (.var 18))], ct := [(7, .up { r := 7, n1 := (.var 5), s1 := 10, ks := [.int .i64, .int .i64, .int .i64, .int .i64, .int .i64, .int .i64, .int .i64, .int .i64, .int .i64, .bool] } 0 [] (.lit 0)), (3, .up { r := 21, n1 := (.var 19), s1 := 10, ks := [.int .i64, .int .i64, .int .i64, .int .i64, .int .i64, .int .i64, .int .i64, .int .i64, .int .i64, .bool] } 0 [] (.lit 0))], bk := [(1, { blk := 5, i1 := (.lit 0), s1 := 10 }), (0, { blk := 9, i1 := (.lit 0), s1 := 10 })] } 23 <|
        .fin { lo := 8, lob := 6, bv := [(8, (.var 23))] })
       (.fin { lo := 8, lob := 6, bv := [(8, (.lit false))] })))))
theorem back_run : exec tab backE 8000 [] (cfg0 3 8 [] (sentGl ssB 0) (lawConG 26 ssB 3 [shEv, shRow]).hp (lawConG 26 ssB 3 [shEv, shRow]).args) = backOut := by kernel_rfl
def backSem : CSem := [(isCon, yesPre, yesPre), (awakeCon, yesPre, yesPre), (rowsCon, rowsPre, rowsPost), (ofCon, ofPre, ofPost), (alikeCon, alikePre, alikePost), (equalCon, equalPre, equalPost)]
theorem backSem_ok : ∀ k pre post, (k, pre, post) ∈ backSem → conWf k = true ∧ ConOK Tryd.prog k pre post := by
  intro k pre post h
  simp only [backSem, List.mem_cons, List.not_mem_nil, or_false, Prod.mk.injEq] at h
  rcases h with ⟨rfl, rfl, rfl⟩ | ⟨rfl, rfl, rfl⟩ | ⟨rfl, rfl, rfl⟩ | ⟨rfl, rfl, rfl⟩ | ⟨rfl, rfl, rfl⟩ | ⟨rfl, rfl, rfl⟩
  · exact ⟨by kernel_rfl, is_con⟩
  · exact ⟨by kernel_rfl, awake_con⟩
  · exact ⟨by kernel_rfl, rows_con⟩
  · exact ⟨by kernel_rfl, of_con⟩
  · exact ⟨by kernel_rfl, alike_con⟩
  · exact ⟨by kernel_rfl, equal_con⟩
def RowsAt (q : Env) (evs : List Ev) (N : Nat) : Prop := (q.bv (N + 4) = true → OkSl q N ∧ rowsOf evs = some (recs mkRw q N)) ∧ (q.bv (N + 4) = false → q.bv N = true ∧ q.iv (N + 1) = 0 ∧ rowsOf evs = none)
def OfAt (q : Env) (rows : List Rw) (N : Nat) : Prop := (q.bv (N + 4) = true → OkSl q N ∧ rowsOf (recs mkEv q N) = some rows ∧ q.iv (N + 1) ≤ 200000 ∧ ∀ i : Nat, InR (q.ic (N + 3) i 0 0)) ∧
  (q.bv (N + 4) = false → q.bv N = true ∧ q.iv (N + 1) = 0 ∧ ∀ evs, rowsOf evs ≠ some rows) ∧ ∀ evs, rowsOf evs = some rows → recs mkEv q N = evs
section
variable {σ : Sub} {ρ ρ' : Env} {N : Nat}
theorem con_iv (m k : Nat) : (conEnv σ m N ρ ρ').iv (m + k) = ρ'.iv (N + k) := by
  show (if m + k < m then (σ.nenv ρ).iv (m + k) else ρ'.iv (m + k - m + N)) = _
  rw [if_neg (by omega), show m + k - m + N = N + k by omega]
theorem con_bv (m k : Nat) : (conEnv σ m N ρ ρ').bv (m + k) = ρ'.bv (N + k) := by
  show (if m + k < m then (σ.nenv ρ).bv (m + k) else ρ'.bv (m + k - m + N)) = _
  rw [if_neg (by omega), show m + k - m + N = N + k by omega]
theorem con_ic (m k : Nat) : (conEnv σ m N ρ ρ').ic (m + k) = ρ'.ic (N + k) := by
  show (if m + k < m then (σ.nenv ρ).ic (m + k) else ρ'.ic (m + k - m + N)) = _
  rw [if_neg (by omega), show m + k - m + N = N + k by omega]
theorem con_bc (m k : Nat) : (conEnv σ m N ρ ρ').bc (m + k) = ρ'.bc (N + k) := by
  show (if m + k < m then (σ.nenv ρ).bc (m + k) else ρ'.bc (m + k - m + N)) = _
  rw [if_neg (by omega), show m + k - m + N = N + k by omega]
theorem con_recs {α : Type} {mk : (Nat → Int) → (Nat → Bool) → α} (m : Nat) : recs mk (conEnv σ m N ρ ρ') m = recs mk ρ' N :=
  recs_same (con_iv m 1) fun i _ => by
    unfold recAt
    rw [con_ic m 3, con_bc m 3]
theorem con_sl (m : Nat) : OkSl (conEnv σ m N ρ ρ') m = OkSl ρ' N := by
  unfold OkSl
  rw [con_iv m 1, con_iv m 2, show (conEnv σ m N ρ ρ').bv m = ρ'.bv N from con_bv m 0]
theorem con_in {α : Type} {mk : (Nat → Int) → (Nat → Bool) → α} {m b : Nat} (h : b + 3 < m) : recs mk (conEnv σ m N ρ ρ') b = recs mk (σ.nenv ρ) b :=
  recs_same (by simp [conEnv, show b + 1 < m by omega]) fun i _ => by simp [recAt, conEnv, h]
theorem rows_at (h : rowsPost (conEnv σ 4 N ρ ρ')) {evs : List Ev} (he : recs mkEv (σ.nenv ρ) 0 = evs) : RowsAt ρ' evs N := by
  unfold rowsPost at h
  rw [show (conEnv σ 4 N ρ ρ').bv 8 = ρ'.bv (N + 4) from con_bv 4 4, con_recs 4, con_sl 4, con_in (by omega), he, show (conEnv σ 4 N ρ ρ').bv 4 = ρ'.bv N from con_bv 4 0, show (conEnv σ 4 N ρ ρ').iv 5 = ρ'.iv (N + 1) from con_iv 4 1] at h
  exact ⟨h.1, fun hb => ⟨(h.2 hb).1, (h.2 hb).2.1, (h.2 hb).2.2.2⟩⟩
theorem of_at (h : ofPost (conEnv σ 4 N ρ ρ')) {rows : List Rw} (he : recs mkRw (σ.nenv ρ) 0 = rows) : OfAt ρ' rows N := by
  unfold ofPost at h
  rw [show (conEnv σ 4 N ρ ρ').bv 8 = ρ'.bv (N + 4) from con_bv 4 4, con_recs 4, con_sl 4, con_in (by omega), he, show (conEnv σ 4 N ρ ρ').bv 4 = ρ'.bv N from con_bv 4 0, show (conEnv σ 4 N ρ ρ').iv 5 = ρ'.iv (N + 1) from con_iv 4 1, show (conEnv σ 4 N ρ ρ').ic 7 = ρ'.ic (N + 3) from con_ic 4 3] at h
  exact ⟨h.1, fun hb => ⟨(h.2.1 hb).1, (h.2.1 hb).2.1, (h.2.1 hb).2.2.2⟩, h.2.2⟩
theorem alike_at (h : alikePost (conEnv σ 8 N ρ ρ')) {a b : List Ev} (ha : recs mkEv (σ.nenv ρ) 0 = a) (hb : recs mkEv (σ.nenv ρ) 4 = b) : ρ'.bv N = true ↔ a = b := by
  unfold alikePost at h
  rw [show (conEnv σ 8 N ρ ρ').bv 8 = ρ'.bv N from con_bv 8 0, con_in (by omega), con_in (by omega), ha, hb] at h
  exact h
theorem equal_at (h : equalPost (conEnv σ 8 N ρ ρ')) {a b : List Rw} (ha : recs mkRw (σ.nenv ρ) 0 = a) (hb : recs mkRw (σ.nenv ρ) 4 = b) : ρ'.bv N = true ↔ a = b := by
  unfold equalPost at h
  rw [show (conEnv σ 8 N ρ ρ').bv 8 = ρ'.bv N from con_bv 8 0, con_in (by omega), con_in (by omega), ha, hb] at h
  exact h
end
theorem rows_thread {evs : List Ev} {rows : List Rw} (h : rowsOf evs = some rows) (he : ∀ e ∈ evs, InR e.thread) : ∀ r ∈ rows, InR r.thread := fun r hr =>
  he (begEv r) (List.mem_of_getElem? ((rowsOf_told h).beg r hr))
def bK (q : Env) : Prop := (OkSl q 0 ∧ OkSl q 4) ∧ (q.iv 1 ≤ 200 ∧ q.iv 5 ≤ 200) ∧ (∀ i : Nat, (i : Int) < q.iv 1 → InR (q.ic 3 i 0 0)) ∧ ∀ i : Nat, (i : Int) < q.iv 5 → InR (q.ic 7 i 0 0)

set_option maxHeartbeats 2000000 in
theorem back_sat (ρ : Env) (hpre : lawPre [shEv, shRow] ρ.num) : Sat (lawPostG ssB [shEv, shRow]) backSem [] ρ backOut := by
  replace hpre : ((ρ.bv 0 = true → ρ.iv 1 = 0 ∧ ρ.iv 2 = 0) ∧ 0 ≤ ρ.iv 1 ∧ ρ.iv 1 ≤ ρ.iv 2 ∧ ρ.iv 2 ≤ 9223372036854775807 ∧ KdRange ρ 3 (ρ.iv 1) kEv) ∧ ((ρ.bv 4 = true → ρ.iv 5 = 0 ∧ ρ.iv 6 = 0) ∧ 0 ≤ ρ.iv 5 ∧ ρ.iv 5 ≤ ρ.iv 6 ∧ ρ.iv 6 ≤ 9223372036854775807 ∧ KdRange ρ 7 (ρ.iv 5) kRow) ∧ True := hpre
  have hk : (OkSl ρ 0 ∧ OkSl ρ 4) ∧ (∀ i : Nat, (i : Int) < ρ.iv 1 → InR (ρ.ic 3 i 0 0)) ∧ ∀ i : Nat, (i : Int) < ρ.iv 5 → InR (ρ.ic 7 i 0 0) :=
    ⟨⟨⟨fun h => (hpre.1.1 h).1, hpre.1.2.1, hpre.1.2.2.1, hpre.1.2.2.2.1⟩, ⟨fun h => (hpre.2.1.1 h).1, hpre.2.1.2.1, hpre.2.1.2.2.1, hpre.2.1.2.2.2.1⟩⟩, fun i hi => hpre.1.2.2.2.2 i 0 .i64 hi rfl, fun i hi => hpre.2.1.2.2.2.2 i 0 .i64 hi rfl⟩
  unfold backOut
  refine Sat.callK (c := awakeCon) rfl trivial (fun q => (OkSl q 0 ∧ OkSl q 4) ∧ (∀ i : Nat, (i : Int) < q.iv 1 → InR (q.ic 3 i 0 0)) ∧ ∀ i : Nat, (i : Int) < q.iv 5 → InR (q.ic 7 i 0 0)) (fun _ _ => hk) fun q hk => ?_
  have p1 := nilOb hk.1.1
  have p2 := hk.1.1.2.1
  have p3 := nilOb hk.1.2
  have p4 := hk.1.2.2.1
  refine Sat.ob p1 (Sat.ob (decide_eq_true p2) (Sat.ob (by rw [BE.den, p3, Bool.or_true]) (Sat.ob (by rw [BE.den, show (BE.ile (.lit 0) (.var 5)).den q = true from decide_eq_true p4, Bool.or_true]) (Sat.br (fun _ => Sat.fin rfl) (fun hb => ?_)))))
  replace hb : q.iv 1 ≤ 200 ∧ q.iv 5 ≤ 200 := by simpa only [D.le, D.lef, D.lt, D.ltf, D.eq, D.eqf, D.not, D.notf, D.and, D.andf, D.or, D.orf, D.inr, D.var, D.lit, D.cellB, D.beq, D.beqf, D.litI, D.varI, D.add, D.sub, D.mul, D.min, D.max, D.cellI, D.i64min, D.i64max, Int.toNat_zero] using hb
  replace hk : bK q := ⟨hk.1, hb, hk.2⟩
  refine Sat.callK (c := rowsCon) rfl ⟨hk.1.1, Int.le_trans hk.2.1.1 (by decide), fun i hi => ?_⟩ (fun u => bK u ∧ RowsAt u (recs mkEv u 0) 8) (fun e hq => ⟨hk, rows_at hq (recs_same rfl fun i _ => by simp [recAt, mkEv, Sub.nenv, assoc, CV.I, CV.B, upsI, upsB, Seg.I, Seg.B, SC.I, SC.B, IE.den, BE.den, Env.join])⟩) fun u hu => ?_
  · have := hk.2.2.1 i hi
    simpa [Sub.nenv, assoc, CV.I, CV.B, upsI, upsB, Seg.I, Seg.B, SC.I, SC.B, IE.den, BE.den] using this
  obtain ⟨hk, hat⟩ := hu
  refine Sat.br (fun hb => ?_) (fun hb => ?_)
  · obtain ⟨g1, g2⟩ := hat.1 hb
    have hlen : u.iv 9 ≤ 200 := by
      have := rowsOf_len g2
      rw [recs_length, recs_length] at this
      have := hk.2.1.1
      have := hk.1.1.2.1
      simp only [Nat.zero_add, Nat.reduceAdd] at *
      omega
    have hth : ∀ i : Nat, (i : Int) < u.iv 9 → InR (u.ic 11 i 0 0) := fun i hi => by
      refine rows_thread g2 (fun e he => ?_) (recAt mkRw u 11 i) (List.mem_of_getElem? (i := i) (recs_get (by simp only [Nat.reduceAdd]; omega)))
      obtain ⟨j, hj⟩ := List.getElem?_of_mem he
      have hj2 := (List.getElem?_eq_some_iff.1 hj).1
      rw [recs_length] at hj2
      rw [recs_get hj2] at hj
      cases hj
      exact hk.2.2.1 j (by simp only [Nat.zero_add] at hj2; omega)
    refine Sat.callK (c := ofCon) rfl ⟨g1, Int.le_trans hlen (by decide), fun i hi => ?_⟩ (fun v => bK v ∧ (∃ rows, rowsOf (recs mkEv v 0) = some rows ∧ OfAt v rows 13)) (fun e hq => ⟨hk, _, g2, of_at hq (recs_same rfl fun i _ => by simp [recAt, mkRw, Sub.nenv, assoc, CV.I, CV.B, upsI, upsB, Seg.I, Seg.B, SC.I, SC.B, IE.den, BE.den, Env.join])⟩) fun v hv => ?_
    · have := hth i hi
      simpa [Sub.nenv, assoc, CV.I, CV.B, upsI, upsB, Seg.I, Seg.B, SC.I, SC.B, IE.den, BE.den] using this
    clear hth hlen g1 g2 hat
    obtain ⟨hk, rows, hr, hof⟩ := hv
    have hsame := hof.2.2 _ hr
    refine Sat.br (fun hb => ?_) (fun hb => ?_)
    · have ho := (hof.1 hb).1
      refine Sat.callK (c := alikeCon) rfl ⟨ho, hk.1.1⟩ (fun x => bK x ∧ x.bv 18 = true) (fun e hq => ⟨hk, (alike_at (a := recs mkEv v 13) (b := recs mkEv v 0) hq (recs_same rfl fun i _ => by simp [recAt, mkEv, Sub.nenv, assoc, CV.I, CV.B, upsI, upsB, Seg.I, Seg.B, SC.I, SC.B, IE.den, BE.den, Env.join]) (recs_same rfl fun i _ => by simp [recAt, mkEv, Sub.nenv, assoc, CV.I, CV.B, upsI, upsB, Seg.I, Seg.B, SC.I, SC.B, IE.den, BE.den, Env.join])).2 hsame⟩) fun x hx => ?_
      obtain ⟨hk, h18⟩ := hx
      refine Sat.br (fun hb => ?_) (fun _ => ?_)
      · simp [BE.den, h18] at hb
      · refine Sat.callK (c := ofCon) rfl ⟨hk.1.2, Int.le_trans hk.2.1.2 (by decide), fun i hi => ?_⟩ (fun u => bK u ∧ OfAt u (recs mkRw u 4) 19) (fun e hq => ⟨hk, of_at hq (recs_same rfl fun i _ => by simp [recAt, mkRw, Sub.nenv, assoc, CV.I, CV.B, upsI, upsB, Seg.I, Seg.B, SC.I, SC.B, IE.den, BE.den, Env.join])⟩) fun u hu => ?_
        · have := hk.2.2.2 i hi
          simpa [Sub.nenv, assoc, CV.I, CV.B, upsI, upsB, Seg.I, Seg.B, SC.I, SC.B, IE.den, BE.den] using this
        obtain ⟨hk, hof⟩ := hu
        refine Sat.br (fun hb => ?_) (fun hb => ?_)
        · replace hb : u.bv 23 = false := by simpa [BE.den] using hb
          obtain ⟨h1, h2, -⟩ := hof.2.1 hb
          simp only [Nat.reduceAdd] at h1 h2
          exact Sat.ob (by simp [BE.den, IE.den, h2]) (Sat.ob (by simp [BE.den, IE.den, h2]) (Sat.fin (show decide _ = true by simp [IE.den, h2])))
        · replace hb : u.bv 23 = true := by simpa [BE.den] using hb
          obtain ⟨h1, h2, h3, h4⟩ := hof.1 hb
          refine Sat.callK (c := rowsCon) rfl ⟨h1, Int.le_trans h3 (by decide), fun i _ => ?_⟩ (fun v => OkSl v 4 ∧ rowsOf (recs mkEv v 19) = some (recs mkRw v 4) ∧ RowsAt v (recs mkEv v 19) 24) (fun e hq => ⟨hk.1.2, h2, rows_at hq (recs_same rfl fun i _ => by simp [recAt, mkEv, Sub.nenv, assoc, CV.I, CV.B, upsI, upsB, Seg.I, Seg.B, SC.I, SC.B, IE.den, BE.den, Env.join])⟩) fun v hv => ?_
          · have := h4 i
            simpa [Sub.nenv, assoc, CV.I, CV.B, upsI, upsB, Seg.I, Seg.B, SC.I, SC.B, IE.den, BE.den] using this
          obtain ⟨o4, hr, hat⟩ := hv
          refine Sat.br (fun hb => ?_) (fun hb => ?_)
          · obtain ⟨g1, g2⟩ := hat.1 hb
            rw [hr] at g2
            refine Sat.callK (c := equalCon) rfl ⟨g1, o4⟩ (fun x => x.bv 29 = true) (fun e hq => (equal_at (a := recs mkRw v 24) (b := recs mkRw v 4) hq (recs_same rfl fun i _ => by simp [recAt, mkRw, Sub.nenv, assoc, CV.I, CV.B, upsI, upsB, Seg.I, Seg.B, SC.I, SC.B, IE.den, BE.den, Env.join]) (recs_same rfl fun i _ => by simp [recAt, mkRw, Sub.nenv, assoc, CV.I, CV.B, upsI, upsB, Seg.I, Seg.B, SC.I, SC.B, IE.den, BE.den, Env.join])).2 ?_) fun x hx => Sat.fin hx
            exact (Option.some.inj g2).symm
          · exfalso
            rw [(hat.2 hb).2.2] at hr
            cases hr
    · exact ((hof.2.1 hb).2.2 _ hr).elim
  · obtain ⟨h1, h2, -⟩ := hat.2 hb
    simp only [Nat.reduceAdd] at h1 h2
    refine Sat.ob (by simp [BE.den, IE.den, h2]) (Sat.ob (by simp [BE.den, IE.den, h2]) (Sat.br (fun hb => ?_) (fun _ => ?_)))
    · simp [BE.den, IE.den, h2] at hb
    · refine Sat.callK (c := ofCon) rfl ⟨hk.1.2, Int.le_trans hk.2.1.2 (by decide), fun i hi => ?_⟩ (fun u => bK u ∧ OfAt u (recs mkRw u 4) 13) (fun e hq => ⟨hk, of_at hq (recs_same rfl fun i _ => by simp [recAt, mkRw, Sub.nenv, assoc, CV.I, CV.B, upsI, upsB, Seg.I, Seg.B, SC.I, SC.B, IE.den, BE.den, Env.join])⟩) fun u hu => ?_
      · have := hk.2.2.2 i hi
        simpa [Sub.nenv, assoc, CV.I, CV.B, upsI, upsB, Seg.I, Seg.B, SC.I, SC.B, IE.den, BE.den] using this
      obtain ⟨hk, hof⟩ := hu
      refine Sat.br (fun hb => ?_) (fun hb => ?_)
      · replace hb : u.bv 17 = false := by simpa [BE.den] using hb
        obtain ⟨h1, h2, -⟩ := hof.2.1 hb
        simp only [Nat.reduceAdd] at h1 h2
        exact Sat.ob (by simp [BE.den, IE.den, h2]) (Sat.ob (by simp [BE.den, IE.den, h2]) (Sat.fin (show decide _ = true by simp [IE.den, h2])))
      · replace hb : u.bv 17 = true := by simpa [BE.den] using hb
        obtain ⟨h1, h2, h3, h4⟩ := hof.1 hb
        refine Sat.callK (c := rowsCon) rfl ⟨h1, Int.le_trans h3 (by decide), fun i _ => ?_⟩ (fun v => OkSl v 4 ∧ rowsOf (recs mkEv v 13) = some (recs mkRw v 4) ∧ RowsAt v (recs mkEv v 13) 18) (fun e hq => ⟨hk.1.2, h2, rows_at hq (recs_same rfl fun i _ => by simp [recAt, mkEv, Sub.nenv, assoc, CV.I, CV.B, upsI, upsB, Seg.I, Seg.B, SC.I, SC.B, IE.den, BE.den, Env.join])⟩) fun v hv => ?_
        · have := h4 i
          simpa [Sub.nenv, assoc, CV.I, CV.B, upsI, upsB, Seg.I, Seg.B, SC.I, SC.B, IE.den, BE.den] using this
        obtain ⟨o4, hr, hat⟩ := hv
        refine Sat.br (fun hb => ?_) (fun hb => ?_)
        · obtain ⟨g1, g2⟩ := hat.1 hb
          rw [hr] at g2
          refine Sat.callK (c := equalCon) rfl ⟨g1, o4⟩ (fun x => x.bv 23 = true) (fun e hq => (equal_at (a := recs mkRw v 18) (b := recs mkRw v 4) hq (recs_same rfl fun i _ => by simp [recAt, mkRw, Sub.nenv, assoc, CV.I, CV.B, upsI, upsB, Seg.I, Seg.B, SC.I, SC.B, IE.den, BE.den, Env.join]) (recs_same rfl fun i _ => by simp [recAt, mkRw, Sub.nenv, assoc, CV.I, CV.B, upsI, upsB, Seg.I, Seg.B, SC.I, SC.B, IE.den, BE.den, Env.join])).2 ?_) fun x hx => Sat.fin hx
          exact (Option.some.inj g2).symm
        · exfalso
          rw [(hat.2 hb).2.2] at hr
          cases hr
theorem back_con : ConOK Tryd.prog (lawConG 26 ssB 3 [shEv, shRow]) (lawPre [shEv, shRow]) (lawPostG ssB [shEv, shRow]) :=
  con_ok tabOK (E := backE) (cs := backSem) rfl backSem_ok schedOK rfl back_run (by kernel_rfl) (fun ρ _ p hp => by cases hp) back_sat
end Go.Proofs.YtjhnfmfajbghbaaDoor
