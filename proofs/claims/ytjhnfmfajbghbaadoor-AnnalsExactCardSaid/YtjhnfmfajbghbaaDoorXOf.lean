/- the document's 'Of': what it leaves -/
import Derived.Test.YtjhnfmfajbghbaaDoorXRR
import Derived.Test.YtjhnfmfajbghbaaDoorXWE
import Derived.Test.YtjhnfmfajbghbaaDoorAOf
set_option linter.unusedSimpArgs false
set_option linter.unusedVariables false
namespace Go.Proofs.YtjhnfmfajbghbaaDoor
open Go.Rex
noncomputable def rofE : Ex := { sched := sched, loops := [L17a, L17b], cons := [rRowsCon, rSameCon], fin := rOfCon }
def rofOut : Out :=
  .ob (.or (.not (.var 0)) (.ieq (.var 1) (.lit 0))) <|
   .ob (.ile (.lit 0) (.var 1)) <|
   .loop 4 { lo := 4, lob := 1, iv := [(5, (.lit 0)), (4, (.var 1))] } <|
   .br (.ilt (.var 5) (.var 1))
   (.ob (.not (.var 0)) <|
    .ob (.ile (.lit 0) (.var 5)) <|
    .br (.cell 3 (.var 5) (.lit 0) 9)
    (.ob (.inr .i64 (.add (.var 4) (.lit 1))) <|
     .ob (.inr .i64 (.add (.var 5) (.lit 1))) <|
     .back 0 { lo := 4, lob := 1, iv := [(5, (.add (.var 5) (.lit 1))), (4, (.add (.var 4) (.lit 1)))] })
    (.ob (.inr .i64 (.add (.var 5) (.lit 1))) <|
     .back 0 { lo := 4, lob := 1, iv := [(5, (.add (.var 5) (.lit 1))), (4, (.var 4))] }))
   (.ob (.ile (.lit 0) (.var 4)) <|
    .ob (.ile (.mul (.var 4) (.lit 64)) (.lit 281474976710656)) <|
    .ob (.ile (.var 4) (.lit 9223372036854775807)) <|
    .ob (.ile (.mul (.var 4) (.lit 1)) (.lit 281474976710656)) <|
    .loop 6 { lo := 6, lob := 3, iv := [(6, (.lit 0))], ct := [(8, .up { r := 0, n1 := (.var 4), s1 := 1, ks := [.bool], z := true } 0 [] (.lit 0)), (7, .up { r := 0, n1 := (.var 4), s1 := 8, ks := [.int .i64, .bool, .int .i64, .int .i64, .int .i64, .int .i64, .int .i64, .int .i64], z := true } 0 [] (.lit 0))] } <|
    .br (.ilt (.var 6) (.var 1))
    (.ob (.not (.var 0)) <|
     .ob (.ile (.lit 0) (.var 6)) <|
     .ob (.or (.or (.ilt (.cell 3 (.var 6) (.lit 0) 7) (.lit 0)) (.ile (.var 4) (.cell 3 (.var 6) (.lit 0) 7))) (.ile (.lit 0) (.cell 3 (.var 6) (.lit 0) 7))) <|
     .ob (.or (.or (.ilt (.cell 3 (.var 6) (.lit 0) 7) (.lit 0)) (.ile (.var 4) (.cell 3 (.var 6) (.lit 0) 7))) (.ilt (.cell 3 (.var 6) (.lit 0) 7) (.var 4))) <|
     .br (.or (.or (.ilt (.cell 3 (.var 6) (.lit 0) 7) (.lit 0)) (.ile (.var 4) (.cell 3 (.var 6) (.lit 0) 7))) (.cell 8 (.cell 3 (.var 6) (.lit 0) 7) (.lit 0) 0))
     (.fin { lo := 4, lob := 1, iv := [(6, (.lit 0)), (5, (.lit 0))], bv := [(8, (.lit false)), (4, (.lit true))], nb := [1] })
     (.ob (.ile (.lit 0) (.cell 3 (.var 6) (.lit 0) 7)) <|
      .ob (.ilt (.cell 3 (.var 6) (.lit 0) 7) (.var 4)) <|
      .br (.not (.cell 3 (.var 6) (.lit 0) 9))
      (.ob (.inr .i64 (.add (.var 6) (.lit 1))) <|
       .back 0 { lo := 6, lob := 3, iv := [(6, (.add (.var 6) (.lit 1)))], ct := [(8, .up { r := 8, n1 := (.var 4), s1 := 1, ks := [.bool] } 0 [⟨0, (.cell 3 (.var 6) (.lit 0) 7), (.lit 0), 0, .bool (.lit true)⟩] (.lit 0)), (7, .up { r := 7, n1 := (.var 4), s1 := 8, ks := [.int .i64, .bool, .int .i64, .int .i64, .int .i64, .int .i64, .int .i64, .int .i64] } 0 [⟨0, (.cell 3 (.var 6) (.lit 0) 7), (.lit 0), 7, .int .i64 (.lit 0)⟩, ⟨0, (.cell 3 (.var 6) (.lit 0) 7), (.lit 0), 6, .int .i64 (.lit 0)⟩, ⟨0, (.cell 3 (.var 6) (.lit 0) 7), (.lit 0), 5, .int .i64 (.cell 3 (.var 6) (.lit 0) 4)⟩, ⟨0, (.cell 3 (.var 6) (.lit 0) 7), (.lit 0), 4, .int .i64 (.cell 3 (.var 6) (.lit 0) 3)⟩, ⟨0, (.cell 3 (.var 6) (.lit 0) 7), (.lit 0), 3, .int .i64 (.cell 3 (.var 6) (.lit 0) 2)⟩, ⟨0, (.cell 3 (.var 6) (.lit 0) 7), (.lit 0), 2, .int .i64 (.cell 3 (.var 6) (.lit 0) 1)⟩, ⟨0, (.cell 3 (.var 6) (.lit 0) 7), (.lit 0), 1, .bool (.lit true)⟩, ⟨0, (.cell 3 (.var 6) (.lit 0) 7), (.lit 0), 0, .int .i64 (.cell 3 (.var 6) (.lit 0) 0)⟩] (.lit 0))] })
      (.ob (.or (.or (.ilt (.cell 3 (.var 6) (.lit 0) 8) (.lit 0)) (.ile (.var 4) (.cell 3 (.var 6) (.lit 0) 8))) (.ile (.lit 0) (.cell 3 (.var 6) (.lit 0) 8))) <|
       .ob (.or (.or (.ilt (.cell 3 (.var 6) (.lit 0) 8) (.lit 0)) (.ile (.var 4) (.cell 3 (.var 6) (.lit 0) 8))) (.ilt (.cell 3 (.var 6) (.lit 0) 8) (.var 4))) <|
       .br (.not (.or (.ilt (.cell 3 (.var 6) (.lit 0) 8) (.lit 0)) (.ile (.var 4) (.cell 3 (.var 6) (.lit 0) 8))))
       (.br (.ieq (.cell 3 (.var 6) (.lit 0) 8) (.cell 3 (.var 6) (.lit 0) 7))
        (.ob (.ile (.lit 0) (.cell 3 (.var 6) (.lit 0) 8)) <|
         .ob (.ilt (.cell 3 (.var 6) (.lit 0) 8) (.var 4)) <|
         .fin { lo := 4, lob := 1, iv := [(6, (.lit 0)), (5, (.lit 0))], bv := [(8, (.lit false)), (4, (.lit true))], nb := [1] })
        (.ob (.ile (.lit 0) (.cell 3 (.var 6) (.lit 0) 8)) <|
         .ob (.ilt (.cell 3 (.var 6) (.lit 0) 8) (.var 4)) <|
         .br (.cell 8 (.cell 3 (.var 6) (.lit 0) 8) (.lit 0) 0)
         (.fin { lo := 4, lob := 1, iv := [(6, (.lit 0)), (5, (.lit 0))], bv := [(8, (.lit false)), (4, (.lit true))], nb := [1] })
         (.ob (.inr .i64 (.add (.var 6) (.lit 1))) <|
          .back 0 { lo := 6, lob := 3, iv := [(6, (.add (.var 6) (.lit 1)))], ct := [(8, .up { r := 8, n1 := (.var 4), s1 := 1, ks := [.bool] } 0 [⟨0, (.cell 3 (.var 6) (.lit 0) 8), (.lit 0), 0, .bool (.lit true)⟩, ⟨0, (.cell 3 (.var 6) (.lit 0) 7), (.lit 0), 0, .bool (.lit true)⟩] (.lit 0)), (7, .up { r := 7, n1 := (.var 4), s1 := 8, ks := [.int .i64, .bool, .int .i64, .int .i64, .int .i64, .int .i64, .int .i64, .int .i64] } 0 [⟨0, (.cell 3 (.var 6) (.lit 0) 8), (.lit 0), 7, .int .i64 (.cell 3 (.var 6) (.lit 0) 6)⟩, ⟨0, (.cell 3 (.var 6) (.lit 0) 8), (.lit 0), 6, .int .i64 (.cell 3 (.var 6) (.lit 0) 5)⟩, ⟨0, (.cell 3 (.var 6) (.lit 0) 8), (.lit 0), 5, .int .i64 (.lit 0)⟩, ⟨0, (.cell 3 (.var 6) (.lit 0) 8), (.lit 0), 4, .int .i64 (.lit 0)⟩, ⟨0, (.cell 3 (.var 6) (.lit 0) 8), (.lit 0), 3, .int .i64 (.lit 0)⟩, ⟨0, (.cell 3 (.var 6) (.lit 0) 8), (.lit 0), 2, .int .i64 (.lit 0)⟩, ⟨0, (.cell 3 (.var 6) (.lit 0) 8), (.lit 0), 1, .bool (.lit false)⟩, ⟨0, (.cell 3 (.var 6) (.lit 0) 8), (.lit 0), 0, .int .i64 (.cell 3 (.var 6) (.lit 0) 0)⟩, ⟨0, (.cell 3 (.var 6) (.lit 0) 7), (.lit 0), 7, .int .i64 (.lit 0)⟩, ⟨0, (.cell 3 (.var 6) (.lit 0) 7), (.lit 0), 6, .int .i64 (.lit 0)⟩, ⟨0, (.cell 3 (.var 6) (.lit 0) 7), (.lit 0), 5, .int .i64 (.cell 3 (.var 6) (.lit 0) 4)⟩, ⟨0, (.cell 3 (.var 6) (.lit 0) 7), (.lit 0), 4, .int .i64 (.cell 3 (.var 6) (.lit 0) 3)⟩, ⟨0, (.cell 3 (.var 6) (.lit 0) 7), (.lit 0), 3, .int .i64 (.cell 3 (.var 6) (.lit 0) 2)⟩, ⟨0, (.cell 3 (.var 6) (.lit 0) 7), (.lit 0), 2, .int .i64 (.cell 3 (.var 6) (.lit 0) 1)⟩, ⟨0, (.cell 3 (.var 6) (.lit 0) 7), (.lit 0), 1, .bool (.lit true)⟩, ⟨0, (.cell 3 (.var 6) (.lit 0) 7), (.lit 0), 0, .int .i64 (.cell 3 (.var 6) (.lit 0) 0)⟩] (.lit 0))] })))
       (.fin { lo := 4, lob := 1, iv := [(6, (.lit 0)), (5, (.lit 0))], bv := [(8, (.lit false)), (4, (.lit true))], nb := [1] }))))
    (.call 0 { lo := 0, lob := 0, iv := [(2, (.var 4)), (1, (.var 4))], bv := [(0, (.lit false))], ct := [(3, .up { r := 7, n1 := (.var 4), s1 := 8, ks := [.int .i64, .bool, .int .i64, .int .i64, .int .i64, .int .i64, .int .i64, .int .i64] } 0 [] (.lit 0))], bk := [(0, { blk := 1, i1 := (.lit 0), s1 := 8 })] } 9 <|
     .br (.ieq (.var 13) (.lit 0))
     (.call 1 { lo := 0, lob := 0, iv := [(6, (.var 2)), (5, (.var 1)), (2, (.var 11)), (1, (.var 10))], bv := [(4, (.var 0)), (0, (.var 9))], ct := [(7, .up { r := 3, n1 := (.var 1), s1 := 10, ks := [.int .i64, .int .i64, .int .i64, .int .i64, .int .i64, .int .i64, .int .i64, .int .i64, .int .i64, .bool] } 0 [] (.lit 0)), (3, .up { r := 12, n1 := (.var 10), s1 := 10, ks := [.int .i64, .int .i64, .int .i64, .int .i64, .int .i64, .int .i64, .int .i64, .int .i64, .int .i64, .bool] } 0 [] (.lit 0))], bk := [(1, { blk := 0, i1 := (.lit 0), s1 := 10 }), (0, { blk := 3, i1 := (.lit 0), s1 := 10 })] } 14 <|
      .br (.not (.var 14))
      (.fin { lo := 4, lob := 1, iv := [(6, (.lit 0)), (5, (.lit 0))], bv := [(8, (.lit false)), (4, (.lit true))], nb := [1] })
      (.fin { lo := 4, lob := 1, iv := [(6, (.var 4)), (5, (.var 4))], bv := [(8, (.lit true)), (4, (.lit false))], ct := [(7, .up { r := 7, n1 := (.var 4), s1 := 8, ks := [.int .i64, .bool, .int .i64, .int .i64, .int .i64, .int .i64, .int .i64, .int .i64] } 0 [] (.lit 0))], bk := [(1, { blk := 1, i1 := (.lit 0), s1 := 8 })] }))
     (.fin { lo := 4, lob := 1, iv := [(6, (.lit 0)), (5, (.lit 0))], bv := [(8, (.lit false)), (4, (.lit true))], nb := [1] })))
theorem rof_run : exec tab rofE 8000 [] (cfg0 17 4 [] [] rOfCon.hp rOfCon.args) = rofOut := by kernel_rfl
def rofPre (ρ : Env) : Prop := OkSl ρ 0 ∧ ρ.iv 1 ≤ 100000
def rofPost (ρ : Env) : Prop := OkSl ρ 4 ∧ (ρ.bv 8 = true → rowsOf (recs mkEv ρ 4) = some (recs mkRw ρ 0)) ∧ (ρ.bv 8 = false → ρ.iv 5 = 0 ∧ ∀ evs, rowsOf evs ≠ some (recs mkRw ρ 0))
def rofInv1 (ρ : Env) : Prop := (0 ≤ ρ.iv 5 ∧ ρ.iv 5 ≤ ρ.iv 1) ∧ ρ.iv 4 = ρ.iv 1 + ((wholeOf ((recs mkRw ρ 0).take (ρ.iv 5).toNat)).length : Int)
def rofK (ρ : Env) : Prop := rofPre ρ ∧ ρ.iv 4 = (((recs mkRw ρ 0).length + (wholeOf (recs mkRw ρ 0)).length : Nat) : Int)
def rofInv (ρ : Env) : Prop := (0 ≤ ρ.iv 6 ∧ ρ.iv 6 ≤ ρ.iv 1) ∧ OfInv (recs mkRw ρ 0) (ρ.iv 6).toNat false (recAt mkEv ρ 7) (fun i => ρ.bc 8 i 0 0)
def revL (ρ : Env) : List Ev := (List.range (ρ.iv 4).toNat).map (recAt mkEv ρ 7)
theorem rofK.len {ρ : Env} (h : rofK ρ) : 0 ≤ ρ.iv 1 ∧ 0 ≤ ρ.iv 4 ∧ ρ.iv 4 ≤ ρ.iv 1 + ρ.iv 1 ∧ ρ.iv 1 ≤ 100000 ∧ ρ.iv 4 = (((recs mkRw ρ 0).length + (wholeOf (recs mkRw ρ 0)).length : Nat) : Int) := by
  obtain ⟨⟨a, b⟩, d⟩ := h
  have h2 : (wholeOf (recs mkRw ρ 0)).length ≤ (recs mkRw ρ 0).length := List.length_filter_le _ _
  rw [recs_length] at *
  have h3 := a.2.1
  simp only [Nat.zero_add] at *
  omega
theorem rofK.row {ρ : Env} (h : rofK ρ) (h0 : 0 ≤ ρ.iv 6) (h1 : ρ.iv 6 < ρ.iv 1) : (recs mkRw ρ 0)[(ρ.iv 6).toNat]? = some (recAt mkRw ρ 3 (ρ.iv 6).toNat) := recs_get (by simp only [Nat.zero_add]; omega)
theorem rof_fail {r ρ' : Env} (h : ∀ evs, rowsOf evs ≠ some (recs mkRw r 0)) (e : recs mkRw ρ' 0 = recs mkRw r 0) (h8 : ρ'.bv 8 = false) (h4 : ρ'.bv 4 = true) (h5 : ρ'.iv 5 = 0) (h6 : ρ'.iv 6 = 0) : rofPost ρ' := by
  refine ⟨⟨fun _ => h5, ?_, ?_, ?_⟩, fun h => ?_, fun _ => ⟨h5, by rw [e]; exact h⟩⟩
  · simp only [Nat.reduceAdd]; omega
  · simp only [Nat.reduceAdd]; omega
  · simp only [Nat.reduceAdd]; omega
  · rw [h8] at h
    cases h
theorem rr_call {σ : Sub} {ρ ρ' : Env} {N : Nat} (h : rrPost (conEnv σ 4 N ρ ρ')) : ρ'.iv (N + 4) = errOf (recs mkEv (σ.nenv ρ) 0) ∧ OkSl ρ' N ∧ (ρ'.iv (N + 4) = 0 → rowsOf (recs mkEv (σ.nenv ρ) 0) = some (recs mkRw ρ' N)) ∧ (ρ'.iv (N + 4) ≠ 0 → ρ'.iv (N + 1) = 0) := by
  have e1 : ∀ k, (conEnv σ 4 N ρ ρ').iv (4 + k) = ρ'.iv (N + k) := fun k => by
    show (if 4 + k < 4 then (σ.nenv ρ).iv (4 + k) else ρ'.iv (4 + k - 4 + N)) = _
    rw [if_neg (by omega), show 4 + k - 4 + N = N + k by omega]
  have e2 : (conEnv σ 4 N ρ ρ').bv 4 = ρ'.bv N := by simp [conEnv]
  obtain ⟨h1, h2, h3, h4⟩ := h
  have h8 := e1 4
  simp only [Nat.reduceAdd] at h8
  rw [h8] at h1 h3 h4
  refine ⟨h1, ?_, fun h0 => ?_, fun h0 => (e1 1).symm.trans (h4 h0)⟩
  · unfold OkSl at h2 ⊢
    rw [e1 1, e1 2, e2] at h2
    exact h2
  · have h5 : recs mkRw (conEnv σ 4 N ρ ρ') 4 = recs mkRw ρ' N := recs_same (e1 1) fun i _ => by
      simp [recAt, conEnv, Nat.add_comm]
    rw [← h5, ← h3 h0]
    rfl
theorem rr_callE {σ : Sub} {ρ ρ' : Env} {N : Nat} (h : rrPost (conEnv σ 4 N ρ ρ')) {evs : List Ev} (he : recs mkEv (σ.nenv ρ) 0 = evs) : ρ'.iv (N + 4) = errOf evs ∧ OkSl ρ' N ∧ (ρ'.iv (N + 4) = 0 → rowsOf evs = some (recs mkRw ρ' N)) ∧ (ρ'.iv (N + 4) ≠ 0 → ρ'.iv (N + 1) = 0) := he ▸ rr_call h
def rofSem : CSem := [(rRowsCon, rrPre, rrPost), (rSameCon, rsamePre, rsamePost)]
theorem rofSem_ok : ∀ k pre post, (k, pre, post) ∈ rofSem → conWf k = true ∧ ConOK Tryd.prog k pre post := by
  intro k pre post h
  simp only [rofSem, List.mem_cons, List.not_mem_nil, or_false, Prod.mk.injEq] at h
  rcases h with ⟨rfl, rfl, rfl⟩ | ⟨rfl, rfl, rfl⟩
  · exact ⟨by kernel_rfl, rrows_con⟩
  · exact ⟨by kernel_rfl, rsame_con⟩
theorem rbeg_at {q v : Env} {k : Nat} (h0 : 0 ≤ q.ic 3 k 0 7) (h : ∀ i, recAt mkEv v 7 i = if (q.ic 3 k 0 7).toNat = i then ⟨q.ic 3 k 0 0, true, q.ic 3 k 0 1, q.ic 3 k 0 2, q.ic 3 k 0 3, q.ic 3 k 0 4, 0, 0⟩ else recAt mkEv q 7 i) :
    ∀ i : Nat, recAt mkEv v 7 i = if (recAt mkRw q 3 k).fr = (i : Int) then begEv (recAt mkRw q 3 k) else recAt mkEv q 7 i := by
  intro i
  rw [h i]
  have e : (recAt mkRw q 3 k).fr = q.ic 3 k 0 7 := rfl
  rw [e]
  by_cases hx : q.ic 3 k 0 7 = (i : Int)
  · rw [if_pos hx, if_pos (by omega)]
    rfl
  · rw [if_neg hx, if_neg (by omega)]
set_option maxHeartbeats 2000000 in
theorem rof_sat (ρ : Env) (hpre : rofPre ρ.num) : Sat rofPost rofSem [] ρ rofOut := by
  replace hpre : rofPre ρ := hpre
  unfold rofOut
  refine Sat.ob (nilOb hpre.1) (Sat.ob (decide_eq_true hpre.1.2.1) (Sat.loopK rofInv1 (fun r => (r.iv 1 - r.iv 5).toNat) rofPre ?_ (fun _ => hpre) fun r hp hI => Sat.br (fun hlt => ?_) (fun hge => ?_)))
  · have h2 := hpre.1.2.1
    simp only [Nat.zero_add] at h2
    simp [rofInv1, wholeOf, -Int.pred_toNat, Sub.nenv, assoc, CV.I, CV.B, upsI, upsB, Seg.I, Seg.B, SC.I, SC.B, IE.den, BE.den, h2]
  · replace hI : rofInv1 r := hI
    replace hlt : r.iv 5 < r.iv 1 := of_decide_eq_true hlt
    rw [show (r.num.iv 1 - r.num.iv 5).toNat = (r.iv 1 - r.iv 5).toNat from rfl]
    obtain ⟨⟨i1, i2⟩, i3⟩ := hI
    have hp2 := hp.2
    have hm : (r.iv 1 - (r.iv 5 + 1)).toNat < (r.iv 1 - r.iv 5).toNat := by omega
    have ht := recs_take (mk := mkRw) (ρ := r) (b := 0) (i := (r.iv 5).toNat) (by simp only [Nat.zero_add]; omega)
    have hle : (wholeOf ((recs mkRw r 0).take (r.iv 5).toNat)).length ≤ ((recs mkRw r 0).take (r.iv 5).toNat).length := List.length_filter_le _ _
    rw [List.length_take] at hle
    refine Sat.ob (nilLt hp.1 (by simp only [Nat.zero_add]; omega)) (Sat.ob (decide_eq_true i1) (Sat.br (fun hb => ?_) (fun hb => ?_)))
    · replace hb : (recAt mkRw r 3 (r.iv 5).toNat).done = true := hb
      refine Sat.ob (by simp only [D.le, D.lef, D.lt, D.ltf, D.eq, D.eqf, D.not, D.notf, D.and, D.andf, D.or, D.orf, D.inr, D.var, D.lit, D.cellB, D.beq, D.beqf, D.litI, D.varI, D.add, D.sub, D.mul, D.min, D.max, D.cellI, D.i64min, D.i64max, Int.toNat_zero]; omega) (Sat.ob (by simp only [D.le, D.lef, D.lt, D.ltf, D.eq, D.eqf, D.not, D.notf, D.and, D.andf, D.or, D.orf, D.inr, D.var, D.lit, D.cellB, D.beq, D.beqf, D.litI, D.varI, D.add, D.sub, D.mul, D.min, D.max, D.cellI, D.i64min, D.i64max, Int.toNat_zero]; omega) (Sat.back rfl ⟨⟨⟨?_, ?_⟩, ?_⟩, hm⟩))
      · show 0 ≤ r.iv 5 + 1
        omega
      · show r.iv 5 + 1 ≤ r.iv 1
        omega
      · show r.iv 4 + 1 = r.iv 1 + ((wholeOf ((recs mkRw r 0).take (r.iv 5 + 1).toNat)).length : Int)
        rw [show (r.iv 5 + 1).toNat = (r.iv 5).toNat + 1 by omega, ht]
        simp only [wholeOf, List.filter_append, List.length_append] at i3 ⊢
        simp [hb]
        omega
    · replace hb : (recAt mkRw r 3 (r.iv 5).toNat).done = false := hb
      refine Sat.ob (by simp only [D.le, D.lef, D.lt, D.ltf, D.eq, D.eqf, D.not, D.notf, D.and, D.andf, D.or, D.orf, D.inr, D.var, D.lit, D.cellB, D.beq, D.beqf, D.litI, D.varI, D.add, D.sub, D.mul, D.min, D.max, D.cellI, D.i64min, D.i64max, Int.toNat_zero]; omega) (Sat.back rfl ⟨⟨⟨?_, ?_⟩, ?_⟩, hm⟩)
      · show 0 ≤ r.iv 5 + 1
        omega
      · show r.iv 5 + 1 ≤ r.iv 1
        omega
      · show r.iv 4 = r.iv 1 + ((wholeOf ((recs mkRw r 0).take (r.iv 5 + 1).toNat)).length : Int)
        rw [show (r.iv 5 + 1).toNat = (r.iv 5).toNat + 1 by omega, ht]
        simp only [wholeOf, List.filter_append, List.length_append] at i3 ⊢
        simp [hb]
        omega
  replace hge : ¬ r.iv 5 < r.iv 1 := of_decide_eq_false hge
  replace hI : rofInv1 r := hI
  have hK : rofK r := by
    obtain ⟨⟨i1, i2⟩, i3⟩ := hI
    have e1 := recs_full (mk := mkRw) r 0 (n := (r.iv 5).toNat) (by simp only [Nat.zero_add]; omega)
    rw [e1] at i3
    refine ⟨hp, ?_⟩
    rw [recs_length, i3]
    simp only [Nat.zero_add]
    omega
  clear hp hI hge
  obtain ⟨l1, l2, l3, l4, l5⟩ := hK.len
  refine Sat.ob (decide_eq_true l2) (Sat.ob (by simp only [D.le, D.lef, D.lt, D.ltf, D.eq, D.eqf, D.not, D.notf, D.and, D.andf, D.or, D.orf, D.inr, D.var, D.lit, D.cellB, D.beq, D.beqf, D.litI, D.varI, D.add, D.sub, D.mul, D.min, D.max, D.cellI, D.i64min, D.i64max, Int.toNat_zero]; omega) (Sat.ob (by simp only [D.le, D.lef, D.lt, D.ltf, D.eq, D.eqf, D.not, D.notf, D.and, D.andf, D.or, D.orf, D.inr, D.var, D.lit, D.cellB, D.beq, D.beqf, D.litI, D.varI, D.add, D.sub, D.mul, D.min, D.max, D.cellI, D.i64min, D.i64max, Int.toNat_zero]; omega) (Sat.ob (by simp only [D.le, D.lef, D.lt, D.ltf, D.eq, D.eqf, D.not, D.notf, D.and, D.andf, D.or, D.orf, D.inr, D.var, D.lit, D.cellB, D.beq, D.beqf, D.litI, D.varI, D.add, D.sub, D.mul, D.min, D.max, D.cellI, D.i64min, D.i64max, Int.toNat_zero]; omega) (Sat.loopK rofInv (fun r => (r.iv 1 - r.iv 6).toNat) rofK ?_ (fun _ => hK) fun r hK hI => ?_))))
  · refine ⟨⟨Int.le_refl 0, l1⟩, OfInv.init _ _ fun i => ?_⟩
    simp [-Int.pred_toNat, Sub.nenv, assoc, CV.I, CV.B, upsI, upsB, Seg.I, Seg.B, SC.I, SC.B, IE.den, BE.den]
  replace hI : rofInv r := hI
  clear l1 l2 l3 l4 l5
  obtain ⟨l1, l2, l3, l4, l5⟩ := hK.len
  rw [show (r.num.iv 1 - r.num.iv 6).toNat = (r.iv 1 - r.iv 6).toNat from rfl]
  obtain ⟨⟨i1, i2⟩, hO⟩ := hI
  refine Sat.br (fun hlt => ?_) (fun hge => ?_)
  · replace hlt : r.iv 6 < r.iv 1 := of_decide_eq_true hlt
    have hm : (r.iv 1 - (r.iv 6 + 1)).toNat < (r.iv 1 - r.iv 6).toNat := by omega
    have hrow := hK.row i1 hlt
    have e8 : (r.iv 6 + 1).toNat = (r.iv 6).toNat + 1 := by omega
    refine Sat.ob (nilLt hK.1.1 (by simp only [Nat.zero_add]; omega)) (Sat.ob (decide_eq_true i1) (Sat.ob (by simp only [D.le, D.lef, D.lt, D.ltf, D.eq, D.eqf, D.not, D.notf, D.and, D.andf, D.or, D.orf, D.inr, D.var, D.lit, D.cellB, D.beq, D.beqf, D.litI, D.varI, D.add, D.sub, D.mul, D.min, D.max, D.cellI, D.i64min, D.i64max, Int.toNat_zero]; omega) (Sat.ob (by simp only [D.le, D.lef, D.lt, D.ltf, D.eq, D.eqf, D.not, D.notf, D.and, D.andf, D.or, D.orf, D.inr, D.var, D.lit, D.cellB, D.beq, D.beqf, D.litI, D.varI, D.add, D.sub, D.mul, D.min, D.max, D.cellI, D.i64min, D.i64max, Int.toNat_zero]; omega) (Sat.br (fun hb => ?_) (fun hb => ?_)))))
    · refine Sat.fin (rof_fail (r := r) (fun evs => hO.begOK hrow ?_) rfl rfl rfl rfl rfl)
      simp only [D.le, D.lef, D.lt, D.ltf, D.eq, D.eqf, D.not, D.notf, D.and, D.andf, D.or, D.orf, D.inr, D.var, D.lit, D.cellB, D.beq, D.beqf, D.litI, D.varI, D.add, D.sub, D.mul, D.min, D.max, D.cellI, D.i64min, D.i64max, Int.toNat_zero] at hb
      rw [← l5]
      rcases hb with (hb | hb) | hb
      · exact .inl hb
      · exact .inr (.inl hb)
      · exact .inr (.inr hb)
    · simp only [D.le, D.lef, D.lt, D.ltf, D.eq, D.eqf, D.not, D.notf, D.and, D.andf, D.or, D.orf, D.inr, D.var, D.lit, D.cellB, D.beq, D.beqf, D.litI, D.varI, D.add, D.sub, D.mul, D.min, D.max, D.cellI, D.i64min, D.i64max, Int.toNat_zero] at hb
      obtain ⟨⟨b1, b2⟩, b3⟩ : (0 ≤ r.ic 3 (r.iv 6).toNat 0 7 ∧ r.ic 3 (r.iv 6).toNat 0 7 < r.iv 4) ∧ r.bc 8 (r.ic 3 (r.iv 6).toNat 0 7).toNat 0 0 = false := ⟨⟨by omega, by omega⟩, by simpa using hb.2⟩
      have hB := fun (ev' : Nat → Ev) (tk' : Nat → Bool) => hO.beg (ev' := ev') (tk' := tk') hrow
      refine Sat.ob (decide_eq_true b1) (Sat.ob (decide_eq_true b2) (Sat.br (fun hd => ?_) (fun hd => ?_)))
      · have hd : (recAt mkRw r 3 (r.iv 6).toNat).done = false := by
          have h : (!(r.bc 3 (r.iv 6).toNat 0 9)) = true := hd
          show r.bc 3 (r.iv 6).toNat 0 9 = false
          simpa using h
        refine Sat.ob (by simp only [D.le, D.lef, D.lt, D.ltf, D.eq, D.eqf, D.not, D.notf, D.and, D.andf, D.or, D.orf, D.inr, D.var, D.lit, D.cellB, D.beq, D.beqf, D.litI, D.varI, D.add, D.sub, D.mul, D.min, D.max, D.cellI, D.i64min, D.i64max, Int.toNat_zero]; omega) (Sat.back rfl ?_)
        generalize hv : Sub.nenv _ r = v
        have w9 := rbeg_at (q := r) (v := v) (k := (r.iv 6).toNat) b1 fun i => by
          rw [← hv]
          by_cases h2 : (r.ic 3 (r.iv 6).toNat 0 7).toNat = i
          · simp [recAt, mkEv, -Int.pred_toNat, Sub.nenv, assoc, CV.I, CV.B, upsI, upsB, Seg.I, Seg.B, SC.I, SC.B, IE.den, BE.den, h2]
          · simp [recAt, mkEv, -Int.pred_toNat, Sub.nenv, assoc, CV.I, CV.B, upsI, upsB, Seg.I, Seg.B, SC.I, SC.B, IE.den, BE.den, h2]
        have w10 : ∀ i : Nat, v.bc 8 i 0 0 = if (recAt mkRw r 3 (r.iv 6).toNat).fr = (i : Int) then true else r.bc 8 i 0 0 := by
          intro i
          rw [← hv]
          have hfr : (recAt mkRw r 3 (r.iv 6).toNat).fr = r.ic 3 (r.iv 6).toNat 0 7 := rfl
          rw [hfr]
          by_cases h2 : r.ic 3 (r.iv 6).toNat 0 7 = (i : Int)
          · simp [-Int.pred_toNat, Sub.nenv, assoc, CV.I, CV.B, upsI, upsB, Seg.I, Seg.B, SC.I, SC.B, IE.den, BE.den, h2]
          · have h3 : ¬ (r.ic 3 (r.iv 6).toNat 0 7).toNat = i := by omega
            simp [-Int.pred_toNat, Sub.nenv, assoc, CV.I, CV.B, upsI, upsB, Seg.I, Seg.B, SC.I, SC.B, IE.den, BE.den, h2, h3]
        have hE := (hB (recAt mkEv v 7) (fun i => v.bc 8 i 0 0) w9 w10).no hrow hd
        refine ⟨⟨⟨by rw [← hv]; exact (by show 0 ≤ r.iv 6 + 1; omega), by rw [← hv]; exact (by show r.iv 6 + 1 ≤ r.iv 1; omega)⟩, ?_⟩, by rw [← hv]; exact hm⟩
        have : v.iv 6 = r.iv 6 + 1 := by rw [← hv]; rfl
        rw [this, e8, show recs mkRw v 0 = recs mkRw r 0 by rw [← hv]; rfl]
        exact hE
      · have hd : (recAt mkRw r 3 (r.iv 6).toNat).done = true := by
          have h : (!(r.bc 3 (r.iv 6).toNat 0 9)) = false := hd
          show r.bc 3 (r.iv 6).toNat 0 9 = true
          simpa using h
        have hB2 := hB (fun i => if (recAt mkRw r 3 (r.iv 6).toNat).fr = (i : Int) then begEv (recAt mkRw r 3 (r.iv 6).toNat) else recAt mkEv r 7 i) (fun i => if (recAt mkRw r 3 (r.iv 6).toNat).fr = (i : Int) then true else r.bc 8 i 0 0) (fun _ => rfl) (fun _ => rfl)
        have hfr : (recAt mkRw r 3 (r.iv 6).toNat).fr = r.ic 3 (r.iv 6).toNat 0 7 := rfl
        have hto : (recAt mkRw r 3 (r.iv 6).toNat).to = r.ic 3 (r.iv 6).toNat 0 8 := rfl
        refine Sat.ob (by simp only [D.le, D.lef, D.lt, D.ltf, D.eq, D.eqf, D.not, D.notf, D.and, D.andf, D.or, D.orf, D.inr, D.var, D.lit, D.cellB, D.beq, D.beqf, D.litI, D.varI, D.add, D.sub, D.mul, D.min, D.max, D.cellI, D.i64min, D.i64max, Int.toNat_zero]; omega) (Sat.ob (by simp only [D.le, D.lef, D.lt, D.ltf, D.eq, D.eqf, D.not, D.notf, D.and, D.andf, D.or, D.orf, D.inr, D.var, D.lit, D.cellB, D.beq, D.beqf, D.litI, D.varI, D.add, D.sub, D.mul, D.min, D.max, D.cellI, D.i64min, D.i64max, Int.toNat_zero]; omega) (Sat.br (fun hr => ?_) (fun hr => ?_)))
        · simp only [D.le, D.lef, D.lt, D.ltf, D.eq, D.eqf, D.not, D.notf, D.and, D.andf, D.or, D.orf, D.inr, D.var, D.lit, D.cellB, D.beq, D.beqf, D.litI, D.varI, D.add, D.sub, D.mul, D.min, D.max, D.cellI, D.i64min, D.i64max, Int.toNat_zero] at hr
          obtain ⟨c1, c2⟩ : 0 ≤ r.ic 3 (r.iv 6).toNat 0 8 ∧ r.ic 3 (r.iv 6).toNat 0 8 < r.iv 4 := by omega
          refine Sat.br (fun he => ?_) (fun he => ?_)
          · refine Sat.ob (decide_eq_true c1) (Sat.ob (decide_eq_true c2) (Sat.fin (rof_fail (r := r) (fun evs => hB2.endOK hrow hd (.inr (.inr ?_))) rfl rfl rfl rfl rfl)))
            simp only [D.le, D.lef, D.lt, D.ltf, D.eq, D.eqf, D.not, D.notf, D.and, D.andf, D.or, D.orf, D.inr, D.var, D.lit, D.cellB, D.beq, D.beqf, D.litI, D.varI, D.add, D.sub, D.mul, D.min, D.max, D.cellI, D.i64min, D.i64max, Int.toNat_zero] at he
            rw [hfr, hto]
            exact if_pos (by omega)
          · simp only [D.le, D.lef, D.lt, D.ltf, D.eq, D.eqf, D.not, D.notf, D.and, D.andf, D.or, D.orf, D.inr, D.var, D.lit, D.cellB, D.beq, D.beqf, D.litI, D.varI, D.add, D.sub, D.mul, D.min, D.max, D.cellI, D.i64min, D.i64max, Int.toNat_zero] at he
            refine Sat.ob (decide_eq_true c1) (Sat.ob (decide_eq_true c2) (Sat.br (fun ht => ?_) (fun ht => ?_)))
            · refine Sat.fin (rof_fail (r := r) (fun evs => hB2.endOK hrow hd (.inr (.inr ?_))) rfl rfl rfl rfl rfl)
              rw [hfr, hto]
              show (if _ then true else _) = true
              rw [if_neg (by omega)]
              exact ht
            · refine Sat.ob (by simp only [D.le, D.lef, D.lt, D.ltf, D.eq, D.eqf, D.not, D.notf, D.and, D.andf, D.or, D.orf, D.inr, D.var, D.lit, D.cellB, D.beq, D.beqf, D.litI, D.varI, D.add, D.sub, D.mul, D.min, D.max, D.cellI, D.i64min, D.i64max, Int.toNat_zero]; omega) (Sat.back rfl ?_)
              generalize hv : Sub.nenv _ r = v
              have w9 : ∀ i, recAt mkEv v 7 i = if (r.ic 3 (r.iv 6).toNat 0 8).toNat = i then ⟨r.ic 3 (r.iv 6).toNat 0 0, false, 0, 0, 0, 0, r.ic 3 (r.iv 6).toNat 0 5, r.ic 3 (r.iv 6).toNat 0 6⟩ else if (r.ic 3 (r.iv 6).toNat 0 7).toNat = i then ⟨r.ic 3 (r.iv 6).toNat 0 0, true, r.ic 3 (r.iv 6).toNat 0 1, r.ic 3 (r.iv 6).toNat 0 2, r.ic 3 (r.iv 6).toNat 0 3, r.ic 3 (r.iv 6).toNat 0 4, 0, 0⟩ else recAt mkEv r 7 i := by
                intro i
                rw [← hv]
                by_cases h1 : (r.ic 3 (r.iv 6).toNat 0 8).toNat = i
                · simp [recAt, mkEv, -Int.pred_toNat, Sub.nenv, assoc, CV.I, CV.B, upsI, upsB, Seg.I, Seg.B, SC.I, SC.B, IE.den, BE.den, h1]
                · by_cases h2 : (r.ic 3 (r.iv 6).toNat 0 7).toNat = i
                  · simp [recAt, mkEv, -Int.pred_toNat, Sub.nenv, assoc, CV.I, CV.B, upsI, upsB, Seg.I, Seg.B, SC.I, SC.B, IE.den, BE.den, h1, h2]
                  · simp [recAt, mkEv, -Int.pred_toNat, Sub.nenv, assoc, CV.I, CV.B, upsI, upsB, Seg.I, Seg.B, SC.I, SC.B, IE.den, BE.den, h1, h2]
              have w10 : ∀ i, v.bc 8 i 0 0 = if (r.ic 3 (r.iv 6).toNat 0 8).toNat = i then true else if (r.ic 3 (r.iv 6).toNat 0 7).toNat = i then true else r.bc 8 i 0 0 := by
                intro i
                rw [← hv]
                by_cases h1 : (r.ic 3 (r.iv 6).toNat 0 8).toNat = i
                · simp [-Int.pred_toNat, Sub.nenv, assoc, CV.I, CV.B, upsI, upsB, Seg.I, Seg.B, SC.I, SC.B, IE.den, BE.den, h1]
                · by_cases h2 : (r.ic 3 (r.iv 6).toNat 0 7).toNat = i
                  · simp [-Int.pred_toNat, Sub.nenv, assoc, CV.I, CV.B, upsI, upsB, Seg.I, Seg.B, SC.I, SC.B, IE.den, BE.den, h1, h2]
                  · simp [-Int.pred_toNat, Sub.nenv, assoc, CV.I, CV.B, upsI, upsB, Seg.I, Seg.B, SC.I, SC.B, IE.den, BE.den, h1, h2]
              have hE := hB2.end (ev' := recAt mkEv v 7) (tk' := fun i => v.bc 8 i 0 0) hrow hd (fun i => ?_) (fun i => ?_)
              · refine ⟨⟨⟨by rw [← hv]; exact (by show 0 ≤ r.iv 6 + 1; omega), by rw [← hv]; exact (by show r.iv 6 + 1 ≤ r.iv 1; omega)⟩, ?_⟩, by rw [← hv]; exact hm⟩
                have : v.iv 6 = r.iv 6 + 1 := by rw [← hv]; rfl
                rw [this, e8, show recs mkRw v 0 = recs mkRw r 0 by rw [← hv]; rfl]
                exact hE
              · rw [w9 i, hto, hfr]
                by_cases h1 : r.ic 3 (r.iv 6).toNat 0 8 = (i : Int)
                · rw [if_pos (by omega), if_pos h1]
                  rfl
                · rw [if_neg (by omega), if_neg h1]
                  by_cases h2 : r.ic 3 (r.iv 6).toNat 0 7 = (i : Int)
                  · rw [if_pos (by omega), if_pos h2]
                    rfl
                  · rw [if_neg (by omega), if_neg h2]
              · rw [w10 i, hto, hfr]
                by_cases h1 : r.ic 3 (r.iv 6).toNat 0 8 = (i : Int)
                · rw [if_pos (by omega), if_pos h1]
                · rw [if_neg (by omega), if_neg h1]
                  by_cases h2 : r.ic 3 (r.iv 6).toNat 0 7 = (i : Int)
                  · rw [if_pos (by omega), if_pos h2]
                  · rw [if_neg (by omega), if_neg h2]
        · simp only [D.le, D.lef, D.lt, D.ltf, D.eq, D.eqf, D.not, D.notf, D.and, D.andf, D.or, D.orf, D.inr, D.var, D.lit, D.cellB, D.beq, D.beqf, D.litI, D.varI, D.add, D.sub, D.mul, D.min, D.max, D.cellI, D.i64min, D.i64max, Int.toNat_zero] at hr
          refine Sat.fin (rof_fail (r := r) (fun evs => hB2.endOK hrow hd ?_) rfl rfl rfl rfl rfl)
          rw [← l5, hto]
          rcases hr with hr | hr
          · exact .inl hr
          · exact .inr (.inl hr)
  · replace hge : ¬ r.iv 6 < r.iv 1 := of_decide_eq_false hge
    have hlen : (recs mkRw r 0).length = (r.iv 1).toNat := recs_length _ _
    rw [show (r.iv 6).toNat = (recs mkRw r 0).length by rw [hlen]; omega] at hO
    have hall : ∀ evs, rowsOf evs = some (recs mkRw r 0) → evs = revL r := fun evs he => by
      rw [hO.all he]
      unfold revL
      rw [show (r.iv 4).toNat = (recs mkRw r 0).length + (wholeOf (recs mkRw r 0)).length by omega]
    refine Sat.callK (c := rRowsCon) rfl ⟨⟨fun h => (by cases h), l2, Int.le_refl _, by show r.iv 4 ≤ _; omega⟩, by show r.iv 4 ≤ 1000000; omega⟩
      (fun q => rofK q ∧ (∀ evs, rowsOf evs = some (recs mkRw q 0) → evs = revL q) ∧ OkSl q 9 ∧ (q.iv 13 = 0 → rowsOf (revL q) = some (recs mkRw q 9)) ∧ (q.iv 13 ≠ 0 → rowsOf (revL q) = none))
      (fun e hq => ?_) fun q hq => ?_
    · obtain ⟨a1, a2, a3, -⟩ := rr_callE hq (evs := revL (r.join 9 e)) (by
        unfold recs revL
        refine congr (congrArg List.map ?_) rfl
        funext i
        simp [recAt, mkEv, -Int.pred_toNat, Sub.nenv, assoc, CV.I, CV.B, upsI, upsB, Seg.I, Seg.B, SC.I, SC.B, IE.den, BE.den, Env.join])
      refine ⟨hK, hall, a2, a3, fun h13 => ?_⟩
      cases h : rowsOf (revL (r.join 9 e)) with
      | none => rfl
      | some x => exact absurd (a1.trans (errOf_zero.2 ⟨x, h⟩)) h13
    obtain ⟨hK, hall, ho, hy, hn⟩ := hq
    obtain ⟨l1, l2, l3, l4, l5⟩ := hK.len
    refine Sat.br (fun h13 => ?_) (fun h13 => ?_)
    · replace h13 : q.iv 13 = 0 := by simpa [BE.den, IE.den] using h13
      have hrows := hy h13
      refine Sat.callK (c := rSameCon) rfl ⟨ho, hK.1.1⟩ (fun u => rofK u ∧ (∀ evs, rowsOf evs = some (recs mkRw u 0) → evs = revL u) ∧ rowsOf (revL u) = some (recs mkRw u 9) ∧ (u.bv 14 = true ↔ recs mkRw u 9 = recs mkRw u 0))
        (fun e hq => ⟨hK, hall, hrows, ?_⟩) fun u hu => ?_
      · refine Iff.trans hq ?_
        rw [show recs mkRw (conEnv _ _ _ q (q.join 14 e)) 0 = recs mkRw (q.join 14 e) 9 from recs_same rfl fun i _ => by simp [recAt, mkRw, -Int.pred_toNat, Sub.nenv, assoc, CV.I, CV.B, upsI, upsB, Seg.I, Seg.B, SC.I, SC.B, IE.den, BE.den, Env.join, conEnv, rRowsCon, rSameCon],
          show recs mkRw (conEnv _ _ _ q (q.join 14 e)) 4 = recs mkRw (q.join 14 e) 0 from recs_same rfl fun i _ => by simp [recAt, mkRw, -Int.pred_toNat, Sub.nenv, assoc, CV.I, CV.B, upsI, upsB, Seg.I, Seg.B, SC.I, SC.B, IE.den, BE.den, Env.join, conEnv, rRowsCon, rSameCon]]
      obtain ⟨hK, hall, hrows, heq⟩ := hu
      obtain ⟨l1, l2, l3, l4, l5⟩ := hK.len
      refine Sat.br (fun h16 => ?_) (fun h16 => ?_)
      · refine Sat.fin (rof_fail (r := u) (fun evs he => ?_) rfl rfl rfl rfl rfl)
        rw [hall evs he, hrows] at he
        have h16' : u.bv 14 = false := by simpa [BE.den] using h16
        rw [heq.2 (Option.some.inj he)] at h16'
        cases h16'
      · have h16' : u.bv 14 = true := by simpa [BE.den] using h16
        rw [heq.1 h16'] at hrows
        refine Sat.fin ⟨⟨fun h => (by cases h), l2, Int.le_refl _, by show u.iv 4 ≤ _; omega⟩, fun _ => ?_, fun h => (by cases h)⟩
        refine Eq.trans ?_ hrows
        congr 1
        unfold recs revL
        refine congr (congrArg List.map ?_) rfl
        funext i
        simp [recAt, mkEv, -Int.pred_toNat, Sub.nenv, assoc, CV.I, CV.B, upsI, upsB, Seg.I, Seg.B, SC.I, SC.B, IE.den, BE.den]
    · replace h13 : q.iv 13 ≠ 0 := by simpa [BE.den, IE.den] using h13
      refine Sat.fin (rof_fail (r := q) (fun evs he => ?_) rfl rfl rfl rfl rfl)
      rw [hall evs he, hn h13] at he
      cases he
theorem rof_con : ConOK Tryd.prog rOfCon rofPre rofPost :=
  con_ok tabOK (E := rofE) (cs := rofSem) rfl rofSem_ok schedOK rfl rof_run (by kernel_rfl) (fun ρ _ p hp => by cases hp) rof_sat
end Go.Proofs.YtjhnfmfajbghbaaDoor
