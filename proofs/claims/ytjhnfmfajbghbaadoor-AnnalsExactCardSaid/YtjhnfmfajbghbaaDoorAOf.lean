/- 'Of': what it leaves -/
import Derived.Test.YtjhnfmfajbghbaaDoorAWholeC
set_option linter.unusedSimpArgs false
set_option linter.unusedVariables false
namespace Go.Proofs.YtjhnfmfajbghbaaDoor
open Go.Rex
noncomputable def ofE : Ex := { sched := sched, loops := [L10], cons := [isCon, rowsCon, wholeCon, equalCon], fin := ofCon }
def ofOut : Out :=
  .ob (.or (.not (.var 0)) (.ieq (.var 1) (.lit 0))) <|
   .ob (.ile (.lit 0) (.var 1)) <|
   .call 2 { lo := 0, lob := 0, iv := [(2, (.var 2)), (1, (.var 1))], bv := [(0, (.var 0))], ct := [(3, .up { r := 3, n1 := (.var 1), s1 := 10, ks := [.int .i64, .int .i64, .int .i64, .int .i64, .int .i64, .int .i64, .int .i64, .int .i64, .int .i64, .bool] } 0 [] (.lit 0))], bk := [(0, { blk := 4, i1 := (.lit 0), s1 := 10 })] } 4 <|
   .ob (.or (.not (.var 4)) (.ieq (.var 5) (.lit 0))) <|
   .ob (.ile (.lit 0) (.var 5)) <|
   .ob (.inr .i64 (.add (.var 1) (.var 5))) <|
   .ob (.ile (.lit 0) (.add (.var 1) (.var 5))) <|
   .ob (.ile (.mul (.add (.var 1) (.var 5)) (.lit 64)) (.lit 281474976710656)) <|
   .ob (.ile (.add (.var 1) (.var 5)) (.lit 9223372036854775807)) <|
   .ob (.ile (.mul (.add (.var 1) (.var 5)) (.lit 1)) (.lit 281474976710656)) <|
   .loop 8 { lo := 8, lob := 11, iv := [(8, (.lit 0))], ct := [(10, .up { r := 0, n1 := (.add (.var 1) (.var 5)), s1 := 1, ks := [.bool], z := true } 0 [] (.lit 0)), (9, .up { r := 0, n1 := (.add (.var 1) (.var 5)), s1 := 8, ks := [.int .i64, .bool, .int .i64, .int .i64, .int .i64, .int .i64, .int .i64, .int .i64], z := true } 0 [] (.lit 0))] } <|
   .br (.ilt (.var 8) (.var 1))
   (.ob (.not (.var 0)) <|
    .ob (.ile (.lit 0) (.var 8)) <|
    .ob (.or (.or (.ilt (.cell 3 (.var 8) (.lit 0) 7) (.lit 0)) (.ile (.add (.var 1) (.var 5)) (.cell 3 (.var 8) (.lit 0) 7))) (.ile (.lit 0) (.cell 3 (.var 8) (.lit 0) 7))) <|
    .ob (.or (.or (.ilt (.cell 3 (.var 8) (.lit 0) 7) (.lit 0)) (.ile (.add (.var 1) (.var 5)) (.cell 3 (.var 8) (.lit 0) 7))) (.ilt (.cell 3 (.var 8) (.lit 0) 7) (.add (.var 1) (.var 5)))) <|
    .br (.or (.or (.ilt (.cell 3 (.var 8) (.lit 0) 7) (.lit 0)) (.ile (.add (.var 1) (.var 5)) (.cell 3 (.var 8) (.lit 0) 7))) (.cell 10 (.cell 3 (.var 8) (.lit 0) 7) (.lit 0) 0))
    (.fin { lo := 4, lob := 5, iv := [(6, (.lit 0)), (5, (.lit 0))], bv := [(8, (.lit false)), (4, (.lit true))], nb := [5] })
    (.ob (.ile (.lit 0) (.cell 3 (.var 8) (.lit 0) 7)) <|
     .ob (.ilt (.cell 3 (.var 8) (.lit 0) 7) (.add (.var 1) (.var 5))) <|
     .br (.cell 3 (.var 8) (.lit 0) 9)
     (.ob (.or (.or (.ilt (.cell 3 (.var 8) (.lit 0) 8) (.lit 0)) (.ile (.add (.var 1) (.var 5)) (.cell 3 (.var 8) (.lit 0) 8))) (.ile (.lit 0) (.cell 3 (.var 8) (.lit 0) 8))) <|
      .ob (.or (.or (.ilt (.cell 3 (.var 8) (.lit 0) 8) (.lit 0)) (.ile (.add (.var 1) (.var 5)) (.cell 3 (.var 8) (.lit 0) 8))) (.ilt (.cell 3 (.var 8) (.lit 0) 8) (.add (.var 1) (.var 5)))) <|
      .br (.not (.or (.ilt (.cell 3 (.var 8) (.lit 0) 8) (.lit 0)) (.ile (.add (.var 1) (.var 5)) (.cell 3 (.var 8) (.lit 0) 8))))
      (.br (.ieq (.cell 3 (.var 8) (.lit 0) 8) (.cell 3 (.var 8) (.lit 0) 7))
       (.ob (.ile (.lit 0) (.cell 3 (.var 8) (.lit 0) 8)) <|
        .ob (.ilt (.cell 3 (.var 8) (.lit 0) 8) (.add (.var 1) (.var 5))) <|
        .fin { lo := 4, lob := 5, iv := [(6, (.lit 0)), (5, (.lit 0))], bv := [(8, (.lit false)), (4, (.lit true))], nb := [5] })
       (.ob (.ile (.lit 0) (.cell 3 (.var 8) (.lit 0) 8)) <|
        .ob (.ilt (.cell 3 (.var 8) (.lit 0) 8) (.add (.var 1) (.var 5))) <|
        .br (.cell 10 (.cell 3 (.var 8) (.lit 0) 8) (.lit 0) 0)
        (.fin { lo := 4, lob := 5, iv := [(6, (.lit 0)), (5, (.lit 0))], bv := [(8, (.lit false)), (4, (.lit true))], nb := [5] })
        (.ob (.inr .i64 (.add (.var 8) (.lit 1))) <|
         .back 0 { lo := 8, lob := 11, iv := [(8, (.add (.var 8) (.lit 1)))], ct := [(10, .up { r := 10, n1 := (.add (.var 1) (.var 5)), s1 := 1, ks := [.bool] } 0 [⟨0, (.cell 3 (.var 8) (.lit 0) 8), (.lit 0), 0, .bool (.lit true)⟩, ⟨0, (.cell 3 (.var 8) (.lit 0) 7), (.lit 0), 0, .bool (.lit true)⟩] (.lit 0)), (9, .up { r := 9, n1 := (.add (.var 1) (.var 5)), s1 := 8, ks := [.int .i64, .bool, .int .i64, .int .i64, .int .i64, .int .i64, .int .i64, .int .i64] } 0 [⟨0, (.cell 3 (.var 8) (.lit 0) 8), (.lit 0), 7, .int .i64 (.cell 3 (.var 8) (.lit 0) 6)⟩, ⟨0, (.cell 3 (.var 8) (.lit 0) 8), (.lit 0), 6, .int .i64 (.cell 3 (.var 8) (.lit 0) 5)⟩, ⟨0, (.cell 3 (.var 8) (.lit 0) 8), (.lit 0), 5, .int .i64 (.lit 0)⟩, ⟨0, (.cell 3 (.var 8) (.lit 0) 8), (.lit 0), 4, .int .i64 (.lit 0)⟩, ⟨0, (.cell 3 (.var 8) (.lit 0) 8), (.lit 0), 3, .int .i64 (.lit 0)⟩, ⟨0, (.cell 3 (.var 8) (.lit 0) 8), (.lit 0), 2, .int .i64 (.lit 0)⟩, ⟨0, (.cell 3 (.var 8) (.lit 0) 8), (.lit 0), 1, .bool (.lit false)⟩, ⟨0, (.cell 3 (.var 8) (.lit 0) 8), (.lit 0), 0, .int .i64 (.cell 3 (.var 8) (.lit 0) 0)⟩, ⟨0, (.cell 3 (.var 8) (.lit 0) 7), (.lit 0), 7, .int .i64 (.lit 0)⟩, ⟨0, (.cell 3 (.var 8) (.lit 0) 7), (.lit 0), 6, .int .i64 (.lit 0)⟩, ⟨0, (.cell 3 (.var 8) (.lit 0) 7), (.lit 0), 5, .int .i64 (.cell 3 (.var 8) (.lit 0) 4)⟩, ⟨0, (.cell 3 (.var 8) (.lit 0) 7), (.lit 0), 4, .int .i64 (.cell 3 (.var 8) (.lit 0) 3)⟩, ⟨0, (.cell 3 (.var 8) (.lit 0) 7), (.lit 0), 3, .int .i64 (.cell 3 (.var 8) (.lit 0) 2)⟩, ⟨0, (.cell 3 (.var 8) (.lit 0) 7), (.lit 0), 2, .int .i64 (.cell 3 (.var 8) (.lit 0) 1)⟩, ⟨0, (.cell 3 (.var 8) (.lit 0) 7), (.lit 0), 1, .bool (.lit true)⟩, ⟨0, (.cell 3 (.var 8) (.lit 0) 7), (.lit 0), 0, .int .i64 (.cell 3 (.var 8) (.lit 0) 0)⟩] (.lit 0))] })))
      (.fin { lo := 4, lob := 5, iv := [(6, (.lit 0)), (5, (.lit 0))], bv := [(8, (.lit false)), (4, (.lit true))], nb := [5] }))
     (.ob (.inr .i64 (.add (.var 8) (.lit 1))) <|
      .back 0 { lo := 8, lob := 11, iv := [(8, (.add (.var 8) (.lit 1)))], ct := [(10, .up { r := 10, n1 := (.add (.var 1) (.var 5)), s1 := 1, ks := [.bool] } 0 [⟨0, (.cell 3 (.var 8) (.lit 0) 7), (.lit 0), 0, .bool (.lit true)⟩] (.lit 0)), (9, .up { r := 9, n1 := (.add (.var 1) (.var 5)), s1 := 8, ks := [.int .i64, .bool, .int .i64, .int .i64, .int .i64, .int .i64, .int .i64, .int .i64] } 0 [⟨0, (.cell 3 (.var 8) (.lit 0) 7), (.lit 0), 7, .int .i64 (.lit 0)⟩, ⟨0, (.cell 3 (.var 8) (.lit 0) 7), (.lit 0), 6, .int .i64 (.lit 0)⟩, ⟨0, (.cell 3 (.var 8) (.lit 0) 7), (.lit 0), 5, .int .i64 (.cell 3 (.var 8) (.lit 0) 4)⟩, ⟨0, (.cell 3 (.var 8) (.lit 0) 7), (.lit 0), 4, .int .i64 (.cell 3 (.var 8) (.lit 0) 3)⟩, ⟨0, (.cell 3 (.var 8) (.lit 0) 7), (.lit 0), 3, .int .i64 (.cell 3 (.var 8) (.lit 0) 2)⟩, ⟨0, (.cell 3 (.var 8) (.lit 0) 7), (.lit 0), 2, .int .i64 (.cell 3 (.var 8) (.lit 0) 1)⟩, ⟨0, (.cell 3 (.var 8) (.lit 0) 7), (.lit 0), 1, .bool (.lit true)⟩, ⟨0, (.cell 3 (.var 8) (.lit 0) 7), (.lit 0), 0, .int .i64 (.cell 3 (.var 8) (.lit 0) 0)⟩] (.lit 0))] })))
   (.call 1 { lo := 0, lob := 0, iv := [(2, (.add (.var 1) (.var 5))), (1, (.add (.var 1) (.var 5)))], bv := [(0, (.lit false))], ct := [(3, .up { r := 9, n1 := (.add (.var 1) (.var 5)), s1 := 8, ks := [.int .i64, .bool, .int .i64, .int .i64, .int .i64, .int .i64, .int .i64, .int .i64] } 0 [] (.lit 0))], bk := [(3, { blk := 3 }), (2, { blk := 2 }), (1, { blk := 1 }), (0, { blk := 0 }), (4, { blk := 7, i1 := (.lit 0), s1 := 8 })] } 11 <|
    .br (.var 15)
    (.call 3 { lo := 0, lob := 0, iv := [(6, (.var 2)), (5, (.var 1)), (2, (.var 13)), (1, (.var 12))], bv := [(4, (.var 0)), (0, (.var 11))], ct := [(7, .up { r := 3, n1 := (.var 1), s1 := 10, ks := [.int .i64, .int .i64, .int .i64, .int .i64, .int .i64, .int .i64, .int .i64, .int .i64, .int .i64, .bool] } 0 [] (.lit 0)), (3, .up { r := 14, n1 := (.var 12), s1 := 10, ks := [.int .i64, .int .i64, .int .i64, .int .i64, .int .i64, .int .i64, .int .i64, .int .i64, .int .i64, .bool] } 0 [] (.lit 0))], bk := [(1, { blk := 4, i1 := (.lit 0), s1 := 10 }), (0, { blk := 11, i1 := (.lit 0), s1 := 10 })] } 16 <|
     .br (.not (.var 16))
     (.fin { lo := 4, lob := 5, iv := [(6, (.lit 0)), (5, (.lit 0))], bv := [(8, (.lit false)), (4, (.lit true))], nb := [5] })
     (.fin { lo := 4, lob := 5, iv := [(6, (.add (.var 1) (.var 5))), (5, (.add (.var 1) (.var 5)))], bv := [(8, (.lit true)), (4, (.lit false))], ct := [(7, .up { r := 9, n1 := (.add (.var 1) (.var 5)), s1 := 8, ks := [.int .i64, .bool, .int .i64, .int .i64, .int .i64, .int .i64, .int .i64, .int .i64] } 0 [] (.lit 0))], bk := [(5, { blk := 7, i1 := (.lit 0), s1 := 8 })], nb := [1] }))
    (.fin { lo := 4, lob := 5, iv := [(6, (.lit 0)), (5, (.lit 0))], bv := [(8, (.lit false)), (4, (.lit true))], nb := [5] }))
theorem of_run : exec tab ofE 8000 [] (cfg0 10 4 [] (sentGl ssB 0) ofCon.hp ofCon.args) = ofOut := by kernel_rfl
def ofPre (ρ : Env) : Prop := OkSl ρ 0 ∧ ρ.iv 1 ≤ 100000 ∧ ∀ i : Nat, (i : Int) < ρ.iv 1 → InR (ρ.ic 3 i 0 0)
def ofPost (ρ : Env) : Prop := (ρ.bv 8 = true → OkSl ρ 4 ∧ rowsOf (recs mkEv ρ 4) = some (recs mkRw ρ 0) ∧ ρ.iv 5 ≤ 200000 ∧ ∀ i : Nat, InR (ρ.ic 7 i 0 0)) ∧
  (ρ.bv 8 = false → ρ.bv 4 = true ∧ ρ.iv 5 = 0 ∧ ρ.iv 6 = 0 ∧ ∀ evs, rowsOf evs ≠ some (recs mkRw ρ 0)) ∧ ∀ evs, rowsOf evs = some (recs mkRw ρ 0) → recs mkEv ρ 4 = evs
def ofK (ρ : Env) : Prop := ofPre ρ ∧ OkSl ρ 4 ∧ ρ.iv 5 = ((wholeOf (recs mkRw ρ 0)).length : Int)
def ofInv (ρ : Env) : Prop := (0 ≤ ρ.iv 8 ∧ ρ.iv 8 ≤ ρ.iv 1) ∧ OfInv (recs mkRw ρ 0) (ρ.iv 8).toNat false (recAt mkEv ρ 9) (fun i => ρ.bc 10 i 0 0) ∧ ∀ i : Nat, InR (ρ.ic 9 i 0 0)
def evL (ρ : Env) : List Ev := (List.range (ρ.iv 1 + ρ.iv 5).toNat).map (recAt mkEv ρ 9)
theorem ofK.len {ρ : Env} (h : ofK ρ) : 0 ≤ ρ.iv 1 ∧ 0 ≤ ρ.iv 5 ∧ ρ.iv 5 ≤ ρ.iv 1 ∧ ρ.iv 1 ≤ 100000 ∧ ρ.iv 1 + ρ.iv 5 = (((recs mkRw ρ 0).length + (wholeOf (recs mkRw ρ 0)).length : Nat) : Int) := by
  obtain ⟨⟨a, b, -⟩, c, d⟩ := h
  have h2 : (wholeOf (recs mkRw ρ 0)).length ≤ (recs mkRw ρ 0).length := List.length_filter_le _ _
  rw [recs_length] at *
  have h3 := a.2.1
  simp only [Nat.zero_add] at *
  omega
theorem ofK.row {ρ : Env} (h : ofK ρ) (h0 : 0 ≤ ρ.iv 8) (h1 : ρ.iv 8 < ρ.iv 1) : (recs mkRw ρ 0)[(ρ.iv 8).toNat]? = some (recAt mkRw ρ 3 (ρ.iv 8).toNat) := recs_get (by simp only [Nat.zero_add]; omega)
theorem whole_call {σ : Sub} {ρ ρ' : Env} (h : wholePost (conEnv σ 4 4 ρ ρ')) (h1 : (σ.nenv ρ).iv 1 = ρ'.iv 1) (h2 : ∀ i, recAt mkRw (σ.nenv ρ) 3 i = recAt mkRw ρ' 3 i) : OkSl ρ' 4 ∧ ρ'.iv 5 = ((wholeOf (recs mkRw ρ' 0)).length : Int) := by
  obtain ⟨a, b⟩ := h
  have e1 : recs mkRw (conEnv σ 4 4 ρ ρ') 0 = recs mkRw ρ' 0 := recs_same (by simpa [conEnv] using h1) fun i _ => by
    rw [← h2 i]
    simp [recAt, conEnv]
  rw [e1] at b
  have hl := congrArg List.length b
  rw [recs_length] at hl
  have hi : (conEnv σ 4 4 ρ ρ').iv 5 = ρ'.iv 5 := rfl
  have ho : OkSl ρ' 4 := a
  refine ⟨ho, ?_⟩
  have h0 := ho.2.1
  simp only [Nat.reduceAdd] at hl h0
  rw [hi] at hl
  omega
theorem of_fail {r ρ' : Env} (h : ∀ evs, rowsOf evs ≠ some (recs mkRw r 0)) (e : recs mkRw ρ' 0 = recs mkRw r 0) (h8 : ρ'.bv 8 = false) (h4 : ρ'.bv 4 = true) (h5 : ρ'.iv 5 = 0) (h6 : ρ'.iv 6 = 0) : ofPost ρ' := by
  refine ⟨fun h => ?_, fun _ => ⟨h4, h5, h6, by rw [e]; exact h⟩, fun evs he => ?_⟩
  · rw [h8] at h
    cases h
  · rw [e] at he
    exact (h evs he).elim
theorem rows_callO {σ : Sub} {ρ ρ' : Env} {N : Nat} (h : rowsPost (conEnv σ 4 N ρ ρ')) (hb : ρ'.bv (N + 4) = true) : OkSl ρ' N ∧ rowsOf (recs mkEv (σ.nenv ρ) 0) = some (recs mkRw ρ' N) := by
  have e1 : ∀ k, (conEnv σ 4 N ρ ρ').iv (4 + k) = ρ'.iv (N + k) := fun k => by
    show (if 4 + k < 4 then (σ.nenv ρ).iv (4 + k) else ρ'.iv (4 + k - 4 + N)) = _
    rw [if_neg (by omega), show 4 + k - 4 + N = N + k by omega]
  have e2 : (conEnv σ 4 N ρ ρ').bv 4 = ρ'.bv N := by simp [conEnv]
  have e3 : (conEnv σ 4 N ρ ρ').bv 8 = ρ'.bv (N + 4) := by simp [conEnv, Nat.add_comm]
  obtain ⟨h1, h2⟩ := h.1 (e3.trans hb)
  refine ⟨?_, ?_⟩
  · unfold OkSl at h1 ⊢
    rw [e1 1, e1 2, e2] at h1
    exact h1
  · have h3 : recs mkRw (conEnv σ 4 N ρ ρ') 4 = recs mkRw ρ' N := recs_same (e1 1) fun i _ => by
      simp [recAt, conEnv, Nat.add_comm]
    rw [← h3, ← h2]
    rfl
def ofSem : CSem := [(isCon, yesPre, yesPre), (rowsCon, rowsPre, rowsPost), (wholeCon, wholePre, wholePost), (equalCon, equalPre, equalPost)]
theorem ofSem_ok : ∀ k pre post, (k, pre, post) ∈ ofSem → conWf k = true ∧ ConOK Tryd.prog k pre post := by
  intro k pre post h
  simp only [ofSem, List.mem_cons, List.not_mem_nil, or_false, Prod.mk.injEq] at h
  rcases h with ⟨rfl, rfl, rfl⟩ | ⟨rfl, rfl, rfl⟩ | ⟨rfl, rfl, rfl⟩ | ⟨rfl, rfl, rfl⟩
  · exact ⟨by kernel_rfl, is_con⟩
  · exact ⟨by kernel_rfl, rows_con⟩
  · exact ⟨by kernel_rfl, whole_con⟩
  · exact ⟨by kernel_rfl, equal_con⟩
/-- what stands at a place behind the beginning's store -/
theorem beg_at {q v : Env} {k : Nat} (h0 : 0 ≤ q.ic 3 k 0 7) (h : ∀ i, recAt mkEv v 9 i = if (q.ic 3 k 0 7).toNat = i then ⟨q.ic 3 k 0 0, true, q.ic 3 k 0 1, q.ic 3 k 0 2, q.ic 3 k 0 3, q.ic 3 k 0 4, 0, 0⟩ else recAt mkEv q 9 i) :
    ∀ i : Nat, recAt mkEv v 9 i = if (recAt mkRw q 3 k).fr = (i : Int) then begEv (recAt mkRw q 3 k) else recAt mkEv q 9 i := by
  intro i
  rw [h i]
  have e : (recAt mkRw q 3 k).fr = q.ic 3 k 0 7 := rfl
  rw [e]
  by_cases hx : q.ic 3 k 0 7 = (i : Int)
  · rw [if_pos hx, if_pos (by omega)]
    rfl
  · rw [if_neg hx, if_neg (by omega)]
set_option maxHeartbeats 2000000 in
theorem of_sat (ρ : Env) (hpre : ofPre ρ.num) : Sat ofPost ofSem [] ρ ofOut := by
  replace hpre : ofPre ρ := hpre
  unfold ofOut
  refine Sat.ob (nilOb hpre.1) (Sat.ob (decide_eq_true hpre.1.2.1) (Sat.callK (c := wholeCon) rfl ⟨hpre.1, Int.le_trans hpre.2.1 (by decide)⟩ ofK (fun e hq => ?_) fun q hK => ?_))
  · obtain ⟨a, b⟩ := whole_call hq rfl fun i => by simp [recAt, mkRw, -Int.pred_toNat, Sub.nenv, assoc, CV.I, CV.B, upsI, upsB, Seg.I, Seg.B, SC.I, SC.B, IE.den, BE.den, Env.join]
    exact ⟨hpre, a, b⟩
  obtain ⟨l1, l2, l3, l4, l5⟩ := hK.len
  refine Sat.ob (nilOb hK.2.1) (Sat.ob (decide_eq_true l2) (Sat.ob (by simp only [D.le, D.lef, D.lt, D.ltf, D.eq, D.eqf, D.not, D.notf, D.and, D.andf, D.or, D.orf, D.inr, D.var, D.lit, D.cellB, D.beq, D.beqf, D.litI, D.varI, D.add, D.sub, D.mul, D.min, D.max, D.cellI, D.i64min, D.i64max, Int.toNat_zero]; omega) (Sat.ob (by simp only [D.le, D.lef, D.lt, D.ltf, D.eq, D.eqf, D.not, D.notf, D.and, D.andf, D.or, D.orf, D.inr, D.var, D.lit, D.cellB, D.beq, D.beqf, D.litI, D.varI, D.add, D.sub, D.mul, D.min, D.max, D.cellI, D.i64min, D.i64max, Int.toNat_zero]; omega) (Sat.ob (by simp only [D.le, D.lef, D.lt, D.ltf, D.eq, D.eqf, D.not, D.notf, D.and, D.andf, D.or, D.orf, D.inr, D.var, D.lit, D.cellB, D.beq, D.beqf, D.litI, D.varI, D.add, D.sub, D.mul, D.min, D.max, D.cellI, D.i64min, D.i64max, Int.toNat_zero]; omega) (Sat.ob (by simp only [D.le, D.lef, D.lt, D.ltf, D.eq, D.eqf, D.not, D.notf, D.and, D.andf, D.or, D.orf, D.inr, D.var, D.lit, D.cellB, D.beq, D.beqf, D.litI, D.varI, D.add, D.sub, D.mul, D.min, D.max, D.cellI, D.i64min, D.i64max, Int.toNat_zero]; omega) (Sat.ob (by simp only [D.le, D.lef, D.lt, D.ltf, D.eq, D.eqf, D.not, D.notf, D.and, D.andf, D.or, D.orf, D.inr, D.var, D.lit, D.cellB, D.beq, D.beqf, D.litI, D.varI, D.add, D.sub, D.mul, D.min, D.max, D.cellI, D.i64min, D.i64max, Int.toNat_zero]; omega) (Sat.loopK ofInv (fun r => (r.iv 1 - r.iv 8).toNat) ofK ?_ (fun _ => hK) fun r hK hI => ?_)))))))
  · refine ⟨⟨Int.le_refl 0, l1⟩, OfInv.init _ _ fun i => ?_, fun i => ?_⟩
    · simp [-Int.pred_toNat, Sub.nenv, assoc, CV.I, CV.B, upsI, upsB, Seg.I, Seg.B, SC.I, SC.B, IE.den, BE.den]
    · simp [-Int.pred_toNat, Sub.nenv, assoc, CV.I, CV.B, upsI, upsB, Seg.I, Seg.B, SC.I, SC.B, IE.den, BE.den, InR]
  replace hI : ofInv r := hI
  obtain ⟨l1, l2, l3, l4, l5⟩ := hK.len
  rw [show (r.num.iv 1 - r.num.iv 8).toNat = (r.iv 1 - r.iv 8).toNat from rfl]
  obtain ⟨⟨i1, i2⟩, hO, hR⟩ := hI
  refine Sat.br (fun hlt => ?_) (fun hge => ?_)
  · replace hlt : r.iv 8 < r.iv 1 := of_decide_eq_true hlt
    have hm : (r.iv 1 - (r.iv 8 + 1)).toNat < (r.iv 1 - r.iv 8).toNat := by omega
    have hrow := hK.row i1 hlt
    have hin := hK.1.2.2 (r.iv 8).toNat (by omega)
    have e8 : (r.iv 8 + 1).toNat = (r.iv 8).toNat + 1 := by omega
    refine Sat.ob (nilLt hK.1.1 (by simp only [Nat.zero_add]; omega)) (Sat.ob (decide_eq_true i1) (Sat.ob (by simp only [D.le, D.lef, D.lt, D.ltf, D.eq, D.eqf, D.not, D.notf, D.and, D.andf, D.or, D.orf, D.inr, D.var, D.lit, D.cellB, D.beq, D.beqf, D.litI, D.varI, D.add, D.sub, D.mul, D.min, D.max, D.cellI, D.i64min, D.i64max, Int.toNat_zero]; omega) (Sat.ob (by simp only [D.le, D.lef, D.lt, D.ltf, D.eq, D.eqf, D.not, D.notf, D.and, D.andf, D.or, D.orf, D.inr, D.var, D.lit, D.cellB, D.beq, D.beqf, D.litI, D.varI, D.add, D.sub, D.mul, D.min, D.max, D.cellI, D.i64min, D.i64max, Int.toNat_zero]; omega) (Sat.br (fun hb => ?_) (fun hb => ?_)))))
    · refine Sat.fin (of_fail (r := r) (fun evs => hO.begOK hrow ?_) rfl rfl rfl rfl rfl)
      simp only [D.le, D.lef, D.lt, D.ltf, D.eq, D.eqf, D.not, D.notf, D.and, D.andf, D.or, D.orf, D.inr, D.var, D.lit, D.cellB, D.beq, D.beqf, D.litI, D.varI, D.add, D.sub, D.mul, D.min, D.max, D.cellI, D.i64min, D.i64max, Int.toNat_zero] at hb
      rw [← l5]
      rcases hb with (hb | hb) | hb
      · exact .inl hb
      · exact .inr (.inl hb)
      · exact .inr (.inr hb)
    · simp only [D.le, D.lef, D.lt, D.ltf, D.eq, D.eqf, D.not, D.notf, D.and, D.andf, D.or, D.orf, D.inr, D.var, D.lit, D.cellB, D.beq, D.beqf, D.litI, D.varI, D.add, D.sub, D.mul, D.min, D.max, D.cellI, D.i64min, D.i64max, Int.toNat_zero] at hb
      obtain ⟨⟨b1, b2⟩, b3⟩ : (0 ≤ r.ic 3 (r.iv 8).toNat 0 7 ∧ r.ic 3 (r.iv 8).toNat 0 7 < r.iv 1 + r.iv 5) ∧ r.bc 10 (r.ic 3 (r.iv 8).toNat 0 7).toNat 0 0 = false := ⟨⟨by omega, by omega⟩, by simpa using hb.2⟩
      have hB := fun (ev' : Nat → Ev) (tk' : Nat → Bool) => hO.beg (ev' := ev') (tk' := tk') hrow
      refine Sat.ob (decide_eq_true b1) (Sat.ob (decide_eq_true b2) (Sat.br (fun hd => ?_) (fun hd => ?_)))
      · replace hd : (recAt mkRw r 3 (r.iv 8).toNat).done = true := hd
        have hB2 := hB (fun i => if (recAt mkRw r 3 (r.iv 8).toNat).fr = (i : Int) then begEv (recAt mkRw r 3 (r.iv 8).toNat) else recAt mkEv r 9 i) (fun i => if (recAt mkRw r 3 (r.iv 8).toNat).fr = (i : Int) then true else r.bc 10 i 0 0) (fun _ => rfl) (fun _ => rfl)
        have hfr : (recAt mkRw r 3 (r.iv 8).toNat).fr = r.ic 3 (r.iv 8).toNat 0 7 := rfl
        have hto : (recAt mkRw r 3 (r.iv 8).toNat).to = r.ic 3 (r.iv 8).toNat 0 8 := rfl
        refine Sat.ob (by simp only [D.le, D.lef, D.lt, D.ltf, D.eq, D.eqf, D.not, D.notf, D.and, D.andf, D.or, D.orf, D.inr, D.var, D.lit, D.cellB, D.beq, D.beqf, D.litI, D.varI, D.add, D.sub, D.mul, D.min, D.max, D.cellI, D.i64min, D.i64max, Int.toNat_zero]; omega) (Sat.ob (by simp only [D.le, D.lef, D.lt, D.ltf, D.eq, D.eqf, D.not, D.notf, D.and, D.andf, D.or, D.orf, D.inr, D.var, D.lit, D.cellB, D.beq, D.beqf, D.litI, D.varI, D.add, D.sub, D.mul, D.min, D.max, D.cellI, D.i64min, D.i64max, Int.toNat_zero]; omega) (Sat.br (fun hr => ?_) (fun hr => ?_)))
        · simp only [D.le, D.lef, D.lt, D.ltf, D.eq, D.eqf, D.not, D.notf, D.and, D.andf, D.or, D.orf, D.inr, D.var, D.lit, D.cellB, D.beq, D.beqf, D.litI, D.varI, D.add, D.sub, D.mul, D.min, D.max, D.cellI, D.i64min, D.i64max, Int.toNat_zero] at hr
          obtain ⟨c1, c2⟩ : 0 ≤ r.ic 3 (r.iv 8).toNat 0 8 ∧ r.ic 3 (r.iv 8).toNat 0 8 < r.iv 1 + r.iv 5 := by omega
          refine Sat.br (fun he => ?_) (fun he => ?_)
          · refine Sat.ob (decide_eq_true c1) (Sat.ob (decide_eq_true c2) (Sat.fin (of_fail (r := r) (fun evs => hB2.endOK hrow hd (.inr (.inr ?_))) rfl rfl rfl rfl rfl)))
            simp only [D.le, D.lef, D.lt, D.ltf, D.eq, D.eqf, D.not, D.notf, D.and, D.andf, D.or, D.orf, D.inr, D.var, D.lit, D.cellB, D.beq, D.beqf, D.litI, D.varI, D.add, D.sub, D.mul, D.min, D.max, D.cellI, D.i64min, D.i64max, Int.toNat_zero] at he
            rw [hfr, hto]
            exact if_pos (by omega)
          · simp only [D.le, D.lef, D.lt, D.ltf, D.eq, D.eqf, D.not, D.notf, D.and, D.andf, D.or, D.orf, D.inr, D.var, D.lit, D.cellB, D.beq, D.beqf, D.litI, D.varI, D.add, D.sub, D.mul, D.min, D.max, D.cellI, D.i64min, D.i64max, Int.toNat_zero] at he
            refine Sat.ob (decide_eq_true c1) (Sat.ob (decide_eq_true c2) (Sat.br (fun ht => ?_) (fun ht => ?_)))
            · refine Sat.fin (of_fail (r := r) (fun evs => hB2.endOK hrow hd (.inr (.inr ?_))) rfl rfl rfl rfl rfl)
              rw [hfr, hto]
              show (if _ then true else _) = true
              rw [if_neg (by omega)]
              exact ht
            · refine Sat.ob (by simp only [D.le, D.lef, D.lt, D.ltf, D.eq, D.eqf, D.not, D.notf, D.and, D.andf, D.or, D.orf, D.inr, D.var, D.lit, D.cellB, D.beq, D.beqf, D.litI, D.varI, D.add, D.sub, D.mul, D.min, D.max, D.cellI, D.i64min, D.i64max, Int.toNat_zero]; omega) (Sat.back rfl ?_)
              generalize hv : Sub.nenv _ r = v
              have w9 : ∀ i, recAt mkEv v 9 i = if (r.ic 3 (r.iv 8).toNat 0 8).toNat = i then ⟨r.ic 3 (r.iv 8).toNat 0 0, false, 0, 0, 0, 0, r.ic 3 (r.iv 8).toNat 0 5, r.ic 3 (r.iv 8).toNat 0 6⟩ else if (r.ic 3 (r.iv 8).toNat 0 7).toNat = i then ⟨r.ic 3 (r.iv 8).toNat 0 0, true, r.ic 3 (r.iv 8).toNat 0 1, r.ic 3 (r.iv 8).toNat 0 2, r.ic 3 (r.iv 8).toNat 0 3, r.ic 3 (r.iv 8).toNat 0 4, 0, 0⟩ else recAt mkEv r 9 i := by
                intro i
                rw [← hv]
                by_cases h1 : (r.ic 3 (r.iv 8).toNat 0 8).toNat = i
                · simp [recAt, mkEv, -Int.pred_toNat, Sub.nenv, assoc, CV.I, CV.B, upsI, upsB, Seg.I, Seg.B, SC.I, SC.B, IE.den, BE.den, h1]
                · by_cases h2 : (r.ic 3 (r.iv 8).toNat 0 7).toNat = i
                  · simp [recAt, mkEv, -Int.pred_toNat, Sub.nenv, assoc, CV.I, CV.B, upsI, upsB, Seg.I, Seg.B, SC.I, SC.B, IE.den, BE.den, h1, h2]
                  · simp [recAt, mkEv, -Int.pred_toNat, Sub.nenv, assoc, CV.I, CV.B, upsI, upsB, Seg.I, Seg.B, SC.I, SC.B, IE.den, BE.den, h1, h2]
              have w10 : ∀ i, v.bc 10 i 0 0 = if (r.ic 3 (r.iv 8).toNat 0 8).toNat = i then true else if (r.ic 3 (r.iv 8).toNat 0 7).toNat = i then true else r.bc 10 i 0 0 := by
                intro i
                rw [← hv]
                by_cases h1 : (r.ic 3 (r.iv 8).toNat 0 8).toNat = i
                · simp [-Int.pred_toNat, Sub.nenv, assoc, CV.I, CV.B, upsI, upsB, Seg.I, Seg.B, SC.I, SC.B, IE.den, BE.den, h1]
                · by_cases h2 : (r.ic 3 (r.iv 8).toNat 0 7).toNat = i
                  · simp [-Int.pred_toNat, Sub.nenv, assoc, CV.I, CV.B, upsI, upsB, Seg.I, Seg.B, SC.I, SC.B, IE.den, BE.den, h1, h2]
                  · simp [-Int.pred_toNat, Sub.nenv, assoc, CV.I, CV.B, upsI, upsB, Seg.I, Seg.B, SC.I, SC.B, IE.den, BE.den, h1, h2]
              have hE := hB2.end (ev' := recAt mkEv v 9) (tk' := fun i => v.bc 10 i 0 0) hrow hd (fun i => ?_) (fun i => ?_)
              · refine ⟨⟨⟨by rw [← hv]; exact (by show 0 ≤ r.iv 8 + 1; omega), by rw [← hv]; exact (by show r.iv 8 + 1 ≤ r.iv 1; omega)⟩, ?_, fun i => ?_⟩, by rw [← hv]; exact hm⟩
                · have : v.iv 8 = r.iv 8 + 1 := by rw [← hv]; rfl
                  rw [this, e8, show recs mkRw v 0 = recs mkRw r 0 by rw [← hv]; rfl]
                  exact hE
                · have := congrArg Ev.thread (w9 i)
                  replace this : v.ic 9 i 0 0 = _ := this
                  rw [this]
                  split
                  · exact hin
                  · split
                    · exact hin
                    · exact hR i
              · rw [w9 i, hto, hfr]
                by_cases h1 : r.ic 3 (r.iv 8).toNat 0 8 = (i : Int)
                · rw [if_pos (by omega), if_pos h1]
                  rfl
                · rw [if_neg (by omega), if_neg h1]
                  by_cases h2 : r.ic 3 (r.iv 8).toNat 0 7 = (i : Int)
                  · rw [if_pos (by omega), if_pos h2]
                    rfl
                  · rw [if_neg (by omega), if_neg h2]
              · rw [w10 i, hto, hfr]
                by_cases h1 : r.ic 3 (r.iv 8).toNat 0 8 = (i : Int)
                · rw [if_pos (by omega), if_pos h1]
                · rw [if_neg (by omega), if_neg h1]
                  by_cases h2 : r.ic 3 (r.iv 8).toNat 0 7 = (i : Int)
                  · rw [if_pos (by omega), if_pos h2]
                  · rw [if_neg (by omega), if_neg h2]
        · simp only [D.le, D.lef, D.lt, D.ltf, D.eq, D.eqf, D.not, D.notf, D.and, D.andf, D.or, D.orf, D.inr, D.var, D.lit, D.cellB, D.beq, D.beqf, D.litI, D.varI, D.add, D.sub, D.mul, D.min, D.max, D.cellI, D.i64min, D.i64max, Int.toNat_zero] at hr
          refine Sat.fin (of_fail (r := r) (fun evs => hB2.endOK hrow hd ?_) rfl rfl rfl rfl rfl)
          rw [← l5, hto]
          rcases hr with hr | hr
          · exact .inl hr
          · exact .inr (.inl hr)
      · replace hd : (recAt mkRw r 3 (r.iv 8).toNat).done = false := hd
        refine Sat.ob (by simp only [D.le, D.lef, D.lt, D.ltf, D.eq, D.eqf, D.not, D.notf, D.and, D.andf, D.or, D.orf, D.inr, D.var, D.lit, D.cellB, D.beq, D.beqf, D.litI, D.varI, D.add, D.sub, D.mul, D.min, D.max, D.cellI, D.i64min, D.i64max, Int.toNat_zero]; omega) (Sat.back rfl ?_)
        generalize hv : Sub.nenv _ r = v
        have w9 := beg_at (q := r) (v := v) (k := (r.iv 8).toNat) b1 fun i => by
          rw [← hv]
          by_cases h2 : (r.ic 3 (r.iv 8).toNat 0 7).toNat = i
          · simp [recAt, mkEv, -Int.pred_toNat, Sub.nenv, assoc, CV.I, CV.B, upsI, upsB, Seg.I, Seg.B, SC.I, SC.B, IE.den, BE.den, h2]
          · simp [recAt, mkEv, -Int.pred_toNat, Sub.nenv, assoc, CV.I, CV.B, upsI, upsB, Seg.I, Seg.B, SC.I, SC.B, IE.den, BE.den, h2]
        have w10 : ∀ i : Nat, v.bc 10 i 0 0 = if (recAt mkRw r 3 (r.iv 8).toNat).fr = (i : Int) then true else r.bc 10 i 0 0 := by
          intro i
          rw [← hv]
          have hfr : (recAt mkRw r 3 (r.iv 8).toNat).fr = r.ic 3 (r.iv 8).toNat 0 7 := rfl
          rw [hfr]
          by_cases h2 : r.ic 3 (r.iv 8).toNat 0 7 = (i : Int)
          · simp [-Int.pred_toNat, Sub.nenv, assoc, CV.I, CV.B, upsI, upsB, Seg.I, Seg.B, SC.I, SC.B, IE.den, BE.den, h2]
          · have h3 : ¬ (r.ic 3 (r.iv 8).toNat 0 7).toNat = i := by omega
            simp [-Int.pred_toNat, Sub.nenv, assoc, CV.I, CV.B, upsI, upsB, Seg.I, Seg.B, SC.I, SC.B, IE.den, BE.den, h2, h3]
        have hE := (hB (recAt mkEv v 9) (fun i => v.bc 10 i 0 0) w9 w10).no hrow hd
        refine ⟨⟨⟨by rw [← hv]; exact (by show 0 ≤ r.iv 8 + 1; omega), by rw [← hv]; exact (by show r.iv 8 + 1 ≤ r.iv 1; omega)⟩, ?_, fun i => ?_⟩, by rw [← hv]; exact hm⟩
        · have : v.iv 8 = r.iv 8 + 1 := by rw [← hv]; rfl
          rw [this, e8, show recs mkRw v 0 = recs mkRw r 0 by rw [← hv]; rfl]
          exact hE
        · have := congrArg Ev.thread (w9 i)
          replace this : v.ic 9 i 0 0 = _ := this
          rw [this]
          split
          · exact hin
          · exact hR i
  · replace hge : ¬ r.iv 8 < r.iv 1 := of_decide_eq_false hge
    have hlen : (recs mkRw r 0).length = (r.iv 1).toNat := recs_length _ _
    rw [show (r.iv 8).toNat = (recs mkRw r 0).length by rw [hlen]; omega] at hO
    have hall : ∀ evs, rowsOf evs = some (recs mkRw r 0) → evs = evL r := fun evs he => by
      rw [hO.all he]
      unfold evL
      rw [show (r.iv 1 + r.iv 5).toNat = (recs mkRw r 0).length + (wholeOf (recs mkRw r 0)).length by omega]
    refine Sat.callK (c := rowsCon) rfl ⟨⟨fun h => (by cases h), by show 0 ≤ r.iv 1 + r.iv 5; omega, Int.le_refl _, by show r.iv 1 + r.iv 5 ≤ _; omega⟩, by show r.iv 1 + r.iv 5 ≤ 1000000; omega, fun i _ => ?_⟩
      (fun q => ofK q ∧ (∀ evs, rowsOf evs = some (recs mkRw q 0) → evs = evL q) ∧ (∀ i : Nat, InR (q.ic 9 i 0 0)) ∧ (q.bv 15 = true → OkSl q 11 ∧ rowsOf (evL q) = some (recs mkRw q 11)) ∧ (q.bv 15 = false → rowsOf (evL q) = none))
      (fun e hq => ⟨hK, hall, hR, fun h15 => ?_, fun h15 => ?_⟩) fun q hq => ?_
    · have := hR i
      simpa [-Int.pred_toNat, Sub.nenv, assoc, CV.I, CV.B, upsI, upsB, Seg.I, Seg.B, SC.I, SC.B, IE.den, BE.den] using this
    · obtain ⟨a, b⟩ := rows_callO hq h15
      refine ⟨a, ?_⟩
      rw [← b]
      congr 1
      unfold recs evL
      refine congr (congrArg List.map ?_) rfl
      funext i
      simp [recAt, mkEv, -Int.pred_toNat, Sub.nenv, assoc, CV.I, CV.B, upsI, upsB, Seg.I, Seg.B, SC.I, SC.B, IE.den, BE.den, Env.join]
    · have h2 := (hq.2 h15).2.2.2
      rw [← h2]
      congr 1
      unfold recs evL
      refine congr (congrArg List.map ?_) rfl
      funext i
      simp [recAt, mkEv, -Int.pred_toNat, Sub.nenv, assoc, CV.I, CV.B, upsI, upsB, Seg.I, Seg.B, SC.I, SC.B, IE.den, BE.den, Env.join, conEnv, rowsCon, equalCon]
    obtain ⟨hK, hall, hR, hy, hn⟩ := hq
    obtain ⟨l1, l2, l3, l4, l5⟩ := hK.len
    refine Sat.br (fun h15 => ?_) (fun h15 => ?_)
    · obtain ⟨ho, hrows⟩ := hy h15
      refine Sat.callK (c := equalCon) rfl ⟨ho, hK.1.1⟩ (fun u => ofK u ∧ (∀ evs, rowsOf evs = some (recs mkRw u 0) → evs = evL u) ∧ (∀ i : Nat, InR (u.ic 9 i 0 0)) ∧ rowsOf (evL u) = some (recs mkRw u 11) ∧ (u.bv 16 = true ↔ recs mkRw u 11 = recs mkRw u 0))
        (fun e hq => ⟨hK, hall, hR, hrows, ?_⟩) fun u hu => ?_
      · have e1 : ∀ (f : Nat), f = 0 → True := fun _ _ => trivial
        refine Iff.trans hq ?_
        rw [show recs mkRw (conEnv _ _ _ q (q.join 16 e)) 0 = recs mkRw (q.join 16 e) 11 from recs_same rfl fun i _ => by simp [recAt, mkRw, -Int.pred_toNat, Sub.nenv, assoc, CV.I, CV.B, upsI, upsB, Seg.I, Seg.B, SC.I, SC.B, IE.den, BE.den, Env.join, conEnv, rowsCon, equalCon],
          show recs mkRw (conEnv _ _ _ q (q.join 16 e)) 4 = recs mkRw (q.join 16 e) 0 from recs_same rfl fun i _ => by simp [recAt, mkRw, -Int.pred_toNat, Sub.nenv, assoc, CV.I, CV.B, upsI, upsB, Seg.I, Seg.B, SC.I, SC.B, IE.den, BE.den, Env.join, conEnv, rowsCon, equalCon]]
      obtain ⟨hK, hall, hR, hrows, heq⟩ := hu
      obtain ⟨l1, l2, l3, l4, l5⟩ := hK.len
      refine Sat.br (fun h16 => ?_) (fun h16 => ?_)
      · refine Sat.fin (of_fail (r := u) (fun evs he => ?_) rfl rfl rfl rfl rfl)
        rw [hall evs he, hrows] at he
        have h16' : u.bv 16 = false := by simpa [BE.den] using h16
        rw [heq.2 (Option.some.inj he)] at h16'
        cases h16'
      · have h16' : u.bv 16 = true := by simpa [BE.den] using h16
        rw [heq.1 h16'] at hrows
        refine Sat.fin ⟨fun _ => ⟨⟨fun h => (by cases h), by show 0 ≤ u.iv 1 + u.iv 5; omega, Int.le_refl _, by show u.iv 1 + u.iv 5 ≤ _; omega⟩, ?_, by show u.iv 1 + u.iv 5 ≤ 200000; omega, fun i => ?_⟩, fun h => (by cases h), fun evs he => ?_⟩
        · refine Eq.trans ?_ hrows
          congr 1
          unfold recs evL
          refine congr (congrArg List.map ?_) rfl
          funext i
          simp [recAt, mkEv, -Int.pred_toNat, Sub.nenv, assoc, CV.I, CV.B, upsI, upsB, Seg.I, Seg.B, SC.I, SC.B, IE.den, BE.den]
        · have := hR i
          simpa [-Int.pred_toNat, Sub.nenv, assoc, CV.I, CV.B, upsI, upsB, Seg.I, Seg.B, SC.I, SC.B, IE.den, BE.den] using this
        · refine Eq.trans ?_ (hall evs he).symm
          unfold recs evL
          refine congr (congrArg List.map ?_) rfl
          funext i
          simp [recAt, mkEv, -Int.pred_toNat, Sub.nenv, assoc, CV.I, CV.B, upsI, upsB, Seg.I, Seg.B, SC.I, SC.B, IE.den, BE.den]
    · refine Sat.fin (of_fail (r := q) (fun evs he => ?_) rfl rfl rfl rfl rfl)
      rw [hall evs he, hn h15] at he
      cases he
theorem of_con : ConOK Tryd.prog ofCon ofPre ofPost :=
  con_ok tabOK (E := ofE) (cs := ofSem) rfl ofSem_ok schedOK rfl of_run (by kernel_rfl) (fun ρ _ p hp => by cases hp) of_sat
end Go.Proofs.YtjhnfmfajbghbaaDoor
