/- 'Rows': what it leaves -/
import Derived.Test.YtjhnfmfajbghbaaDoorAEv
import Derived.Test.YtjhnfmfajbghbaaDoorAPl
set_option linter.unusedSimpArgs false
set_option linter.unusedVariables false
namespace Go.Proofs.YtjhnfmfajbghbaaDoor
open Go.Rex
noncomputable def rowsE : Ex := { sched := sched, loops := [L9], cons := [isCon], fin := rowsCon }
def rowsOut : Out :=
  .ob (.or (.not (.var 0)) (.ieq (.var 1) (.lit 0))) <|
   .ob (.ile (.lit 0) (.var 1)) <|
   .loop 4 { lo := 4, lob := 6, iv := [(8, (.lit 0)), (6, (.lit 0)), (5, (.lit 0))], bv := [(4, (.lit true))], ct := [(9, .up { r := 0, n1 := (.lit 18446744073709551616), s1 := 2, ks := [.bool, .int .i64], z := true } 0 [] (.lit 0))], nb := [6] } <|
   .br (.ilt (.var 8) (.var 1))
   (.ob (.not (.var 0)) <|
    .ob (.ile (.lit 0) (.var 8)) <|
    .br (.not (.and (.cell 3 (.var 8) (.lit 0) 1) (.not (.and (.ieq (.cell 3 (.var 8) (.lit 0) 6) (.lit 0)) (.ieq (.cell 3 (.var 8) (.lit 0) 7) (.lit 0))))))
    (.br (.not (.cell 3 (.var 8) (.lit 0) 1))
     (.br (.not (.and (.ieq (.cell 3 (.var 8) (.lit 0) 2) (.lit 0)) (.and (.ieq (.cell 3 (.var 8) (.lit 0) 3) (.lit 0)) (.and (.ieq (.cell 3 (.var 8) (.lit 0) 4) (.lit 0)) (.ieq (.cell 3 (.var 8) (.lit 0) 5) (.lit 0))))))
      (.fin { lo := 4, lob := 5, iv := [(6, (.lit 0)), (5, (.lit 0))], bv := [(8, (.lit false)), (4, (.lit true))], bk := [(6, { blk := 8 })], nb := [5] })
      (.br (.cell 9 (.add (.cell 3 (.var 8) (.lit 0) 0) (.lit 9223372036854775808)) (.lit 0) 0)
       (.ob (.ile (.lit 0) (.add (.cell 3 (.var 8) (.lit 0) 0) (.lit 9223372036854775808))) <|
        .ob (.ilt (.add (.cell 3 (.var 8) (.lit 0) 0) (.lit 9223372036854775808)) (.lit 18446744073709551616)) <|
        .ob (.not (.var 4)) <|
        .ob (.ile (.lit 0) (.cell 9 (.add (.cell 3 (.var 8) (.lit 0) 0) (.lit 9223372036854775808)) (.lit 0) 1)) <|
        .ob (.ilt (.cell 9 (.add (.cell 3 (.var 8) (.lit 0) 0) (.lit 9223372036854775808)) (.lit 0) 1) (.var 5)) <|
        .ob (.inr .i64 (.add (.var 8) (.lit 1))) <|
        .back 0 { lo := 4, lob := 6, iv := [(8, (.add (.var 8) (.lit 1))), (6, (.var 6)), (5, (.var 5))], bv := [(4, (.var 4))], ct := [(7, .up { r := 7, n1 := (.var 5), s1 := 10, ks := [.int .i64, .int .i64, .int .i64, .int .i64, .int .i64, .int .i64, .int .i64, .int .i64, .int .i64, .bool] } 0 [⟨0, (.cell 9 (.add (.cell 3 (.var 8) (.lit 0) 0) (.lit 9223372036854775808)) (.lit 0) 1), (.lit 0), 9, .bool (.lit true)⟩, ⟨0, (.cell 9 (.add (.cell 3 (.var 8) (.lit 0) 0) (.lit 9223372036854775808)) (.lit 0) 1), (.lit 0), 8, .int .i64 (.var 8)⟩, ⟨0, (.cell 9 (.add (.cell 3 (.var 8) (.lit 0) 0) (.lit 9223372036854775808)) (.lit 0) 1), (.lit 0), 6, .int .i64 (.cell 3 (.var 8) (.lit 0) 7)⟩, ⟨0, (.cell 9 (.add (.cell 3 (.var 8) (.lit 0) 0) (.lit 9223372036854775808)) (.lit 0) 1), (.lit 0), 5, .int .i64 (.cell 3 (.var 8) (.lit 0) 6)⟩] (.lit 0)), (9, .up { r := 9, n1 := (.lit 18446744073709551616), s1 := 2, ks := [.bool, .int .i64] } 0 [⟨0, (.add (.cell 3 (.var 8) (.lit 0) 0) (.lit 9223372036854775808)), (.lit 0), 0, .bool (.lit false)⟩, ⟨0, (.add (.cell 3 (.var 8) (.lit 0) 0) (.lit 9223372036854775808)), (.lit 0), 1, .int .i64 (.lit 0)⟩] (.lit 0))], bk := [(6, { blk := 6, i1 := (.lit 0), s1 := 10 })] })
       (.ob (.ile (.lit 0) (.add (.cell 3 (.var 8) (.lit 0) 0) (.lit 9223372036854775808))) <|
        .ob (.ilt (.add (.cell 3 (.var 8) (.lit 0) 0) (.lit 9223372036854775808)) (.lit 18446744073709551616)) <|
        .fin { lo := 4, lob := 5, iv := [(6, (.lit 0)), (5, (.lit 0))], bv := [(8, (.lit false)), (4, (.lit true))], bk := [(6, { blk := 8 })], nb := [5] })))
     (.br (.cell 9 (.add (.cell 3 (.var 8) (.lit 0) 0) (.lit 9223372036854775808)) (.lit 0) 0)
      (.ob (.ile (.lit 0) (.add (.cell 3 (.var 8) (.lit 0) 0) (.lit 9223372036854775808))) <|
       .ob (.ilt (.add (.cell 3 (.var 8) (.lit 0) 0) (.lit 9223372036854775808)) (.lit 18446744073709551616)) <|
       .fin { lo := 4, lob := 5, iv := [(6, (.lit 0)), (5, (.lit 0))], bv := [(8, (.lit false)), (4, (.lit true))], bk := [(6, { blk := 8 })], nb := [5] })
      (.ob (.ile (.lit 0) (.add (.cell 3 (.var 8) (.lit 0) 0) (.lit 9223372036854775808))) <|
       .ob (.ilt (.add (.cell 3 (.var 8) (.lit 0) 0) (.lit 9223372036854775808)) (.lit 18446744073709551616)) <|
       .ob (.or (.not (.var 4)) (.ieq (.var 5) (.lit 0))) <|
       .ob (.ile (.lit 0) (.var 5)) <|
       .ob (.ile (.mul (.add (.var 5) (.lit 1)) (.lit 80)) (.lit 140737488355328)) <|
       .ob (.ile (.var 5) (.var 6)) <|
       .ob (.ile (.var 6) (.lit 9223372036854775807)) <|
       .new 10 [.be (.and (.ile (.add (.var 5) (.lit 1)) (.var 10)) (.ile (.var 10) (.lit 9223372036854775807)))] <|
       .ob (.inr .i64 (.add (.var 8) (.lit 1))) <|
       .back 0 { lo := 4, lob := 6, iv := [(8, (.add (.var 8) (.lit 1))), (6, (.var 10)), (5, (.add (.var 5) (.lit 1)))], bv := [(4, (.lit false))], ct := [(7, .up { r := 7, n1 := (.add (.var 5) (.lit 1)), s1 := 10, ks := [.int .i64, .int .i64, .int .i64, .int .i64, .int .i64, .int .i64, .int .i64, .int .i64, .int .i64, .bool] } 0 [⟨0, (.var 5), (.lit 0), 0, .int .i64 (.cell 3 (.var 8) (.lit 0) 0)⟩, ⟨0, (.var 5), (.lit 0), 1, .int .i64 (.cell 3 (.var 8) (.lit 0) 2)⟩, ⟨0, (.var 5), (.lit 0), 2, .int .i64 (.cell 3 (.var 8) (.lit 0) 3)⟩, ⟨0, (.var 5), (.lit 0), 3, .int .i64 (.cell 3 (.var 8) (.lit 0) 4)⟩, ⟨0, (.var 5), (.lit 0), 4, .int .i64 (.cell 3 (.var 8) (.lit 0) 5)⟩, ⟨0, (.var 5), (.lit 0), 5, .int .i64 (.lit 0)⟩, ⟨0, (.var 5), (.lit 0), 6, .int .i64 (.lit 0)⟩, ⟨0, (.var 5), (.lit 0), 7, .int .i64 (.var 8)⟩, ⟨0, (.var 5), (.lit 0), 8, .int .i64 (.lit 0)⟩, ⟨0, (.var 5), (.lit 0), 9, .bool (.lit false)⟩] (.lit 0)), (9, .up { r := 9, n1 := (.lit 18446744073709551616), s1 := 2, ks := [.bool, .int .i64] } 0 [⟨0, (.add (.cell 3 (.var 8) (.lit 0) 0) (.lit 9223372036854775808)), (.lit 0), 0, .bool (.lit true)⟩, ⟨0, (.add (.cell 3 (.var 8) (.lit 0) 0) (.lit 9223372036854775808)), (.lit 0), 1, .int .i64 (.var 5)⟩] (.lit 0))], bk := [(6, { blk := 9, i1 := (.lit 0), s1 := 10 })] })))
    (.fin { lo := 4, lob := 5, iv := [(6, (.lit 0)), (5, (.lit 0))], bv := [(8, (.lit false)), (4, (.lit true))], bk := [(6, { blk := 8 })], nb := [5] }))
   (.fin { lo := 4, lob := 5, iv := [(6, (.var 6)), (5, (.var 5))], bv := [(8, (.lit true)), (4, (.var 4))], ct := [(7, .up { r := 7, n1 := (.var 5), s1 := 10, ks := [.int .i64, .int .i64, .int .i64, .int .i64, .int .i64, .int .i64, .int .i64, .int .i64, .int .i64, .bool] } 0 [] (.lit 0))], bk := [(5, { blk := 6, i1 := (.lit 0), s1 := 10 })], nb := [6] })
theorem rows_run : exec tab rowsE 8000 [] (cfg0 9 4 [] (sentGl ssB 0) rowsCon.hp rowsCon.args) = rowsOut := by kernel_rfl
def InR (t : Int) : Prop := -9223372036854775808 ≤ t ∧ t ≤ 9223372036854775807
def rowsPre (ρ : Env) : Prop := OkSl ρ 0 ∧ ρ.iv 1 ≤ 1000000 ∧ ∀ i : Nat, (i : Int) < ρ.iv 1 → InR (ρ.ic 3 i 0 0)
def rowsPost (ρ : Env) : Prop := (ρ.bv 8 = true → OkSl ρ 4 ∧ rowsOf (recs mkEv ρ 0) = some (recs mkRw ρ 4)) ∧ (ρ.bv 8 = false → ρ.bv 4 = true ∧ ρ.iv 5 = 0 ∧ ρ.iv 6 = 0 ∧ rowsOf (recs mkEv ρ 0) = none)
def MapIs (ρ : Env) (rows : List Rw) : Prop := ∀ t, InR t → ρ.bc 9 (t + 9223372036854775808).toNat 0 0 = (openAt rows t).isSome ∧ ∀ k : Nat, openAt rows t = some k → ρ.ic 9 (t + 9223372036854775808).toNat 0 1 = k
def rowsInv (ρ : Env) : Prop := (0 ≤ ρ.iv 8 ∧ ρ.iv 8 ≤ ρ.iv 1) ∧ OkSl ρ 4 ∧ rowsOf ((recs mkEv ρ 0).take (ρ.iv 8).toNat) = some (recs mkRw ρ 4) ∧ Uniq (recs mkRw ρ 4) ∧ MapIs ρ (recs mkRw ρ 4)
def rowsAt (ρ : Env) : Prop := rowsPre ρ ∧ rowsInv ρ ∧ ρ.iv 8 < ρ.iv 1
theorem rowsAt.len {ρ : Env} (h : rowsAt ρ) : ρ.iv 5 ≤ ρ.iv 8 := by
  obtain ⟨_, ⟨⟨i1, i2⟩, o, n, _⟩, hlt⟩ := h
  have := rowsOf_len n
  rw [recs_length, List.length_take, recs_length] at this
  have := o.2.1
  simp only [Nat.reduceAdd] at *
  omega
theorem rowsAt.take {ρ : Env} (h : rowsAt ρ) : rowsOf ((recs mkEv ρ 0).take (ρ.iv 8 + 1).toNat) = stepRows (ρ.iv 8) (recs mkRw ρ 4) (recAt mkEv ρ 3 (ρ.iv 8).toNat) := by
  obtain ⟨_, ⟨⟨i1, i2⟩, o, n, _⟩, hlt⟩ := h
  rw [show (ρ.iv 8 + 1).toNat = (ρ.iv 8).toNat + 1 by omega, recs_take (by simp only [Nat.zero_add]; omega), rowsOf_snoc, n]
  simp only [Option.bind_some]
  rw [List.length_take, recs_length]
  simp only [Nat.zero_add]
  rw [show ((min (ρ.iv 8).toNat (ρ.iv 1).toNat : Nat) : Int) = ρ.iv 8 by omega]
/-- a step that ends in an error -/
theorem rowsAt.bad {ρ : Env} (h : rowsAt ρ) (hs : stepRows (ρ.iv 8) (recs mkRw ρ 4) (recAt mkEv ρ 3 (ρ.iv 8).toNat) = none) : rowsOf (recs mkEv ρ 0) = none := by
  have h1 := h.take
  rw [hs] at h1
  have := rowsOf_none h1 ((recs mkEv ρ 0).drop (ρ.iv 8 + 1).toNat)
  rwa [List.take_append_drop] at this
theorem rowsAt.step {ρ ρ' : Env} (h : rowsAt ρ) (h1 : ρ'.iv 1 = ρ.iv 1) (h3 : ρ'.ic 3 = ρ.ic 3) (h4 : ρ'.bc 3 = ρ.bc 3) (h8 : ρ'.iv 8 = ρ.iv 8 + 1) (ho : OkSl ρ' 4)
    (hs : stepRows (ρ.iv 8) (recs mkRw ρ 4) (recAt mkEv ρ 3 (ρ.iv 8).toNat) = some (recs mkRw ρ' 4)) (hu : Uniq (recs mkRw ρ' 4)) (hm : MapIs ρ' (recs mkRw ρ' 4)) : rowsInv ρ' := by
  have ht := h.take
  obtain ⟨_, ⟨⟨i1, i2⟩, o, n, _⟩, hlt⟩ := h
  have e : recs mkEv ρ' 0 = recs mkEv ρ 0 := recs_same (by simpa using h1) fun i _ => by simp [recAt, h3, h4]
  refine ⟨⟨by omega, by omega⟩, ho, ?_, hu, hm⟩
  rw [e, h8, ht, hs]
theorem recs_modify {ρ ρ' : Env} {b b' k : Nat} {f : Rw → Rw} (h1 : ρ'.iv (b' + 1) = ρ.iv (b + 1)) (h2 : ∀ i, i < (ρ.iv (b + 1)).toNat → i ≠ k → recAt mkRw ρ' (b' + 3) i = recAt mkRw ρ (b + 3) i)
    (h3 : recAt mkRw ρ' (b' + 3) k = f (recAt mkRw ρ (b + 3) k)) : recs mkRw ρ' b' = (recs mkRw ρ b).modify k f := by
  apply List.ext_getElem?
  intro a
  rw [List.getElem?_modify]
  by_cases ha : a < (ρ.iv (b + 1)).toNat
  · rw [recs_get (by rw [h1]; exact ha), recs_get ha]
    by_cases hk : k = a
    · subst hk
      simp [h3]
    · simp [hk, h2 a ha (fun e => hk e.symm)]
  · rw [List.getElem?_eq_none (by rw [recs_length, h1]; omega), List.getElem?_eq_none (by rw [recs_length]; omega)]
    rfl
theorem wrong_op {e : Ev} (hb : e.begins = false) : wrongEv e = true ↔ ¬ (e.kind = 0 ∧ e.key = 0 ∧ e.val = 0 ∧ e.tall = 0) := by
  unfold wrongEv
  rw [hb]
  by_cases h1 : e.kind = 0 <;> by_cases h2 : e.key = 0 <;> by_cases h3 : e.val = 0 <;> by_cases h4 : e.tall = 0 <;> simp [h1, h2, h3, h4]
theorem wrong_ans {e : Ev} (hb : e.begins = true) : wrongEv e = true ↔ ¬ (e.code = 0 ∧ e.ans = 0) := by
  unfold wrongEv
  rw [hb]
  by_cases h1 : e.code = 0 <;> by_cases h2 : e.ans = 0 <;> simp [h1, h2]
theorem step_wrong {i : Int} {rows : List Rw} {e : Ev} (h : wrongEv e = true) : stepRows i rows e = none := by simp [stepRows, h]
theorem step_end {i : Int} {rows : List Rw} {e : Ev} {k : Nat} (h : wrongEv e = false) (hb : e.begins = false) (ho : openAt rows e.thread = some k) : stepRows i rows e = some (rows.modify k (endRw i e)) := by simp [stepRows, h, hb, ho]
theorem step_endno {i : Int} {rows : List Rw} {e : Ev} (h : wrongEv e = false) (hb : e.begins = false) (ho : openAt rows e.thread = none) : stepRows i rows e = none := by simp [stepRows, h, hb, ho]
theorem step_busy {i : Int} {rows : List Rw} {e : Ev} {k : Nat} (h : wrongEv e = false) (hb : e.begins = true) (ho : openAt rows e.thread = some k) : stepRows i rows e = none := by simp [stepRows, h, hb, ho]
theorem step_beg {i : Int} {rows : List Rw} {e : Ev} (h : wrongEv e = false) (hb : e.begins = true) (ho : openAt rows e.thread = none) : stepRows i rows e = some (rows ++ [begRw i e]) := by simp [stepRows, h, hb, ho]
set_option maxHeartbeats 2000000 in
theorem rows_sat (ρ : Env) (hpre : rowsPre ρ.num) : Sat rowsPost [] [] ρ rowsOut := by
  replace hpre : rowsPre ρ := hpre
  unfold rowsOut
  refine Sat.ob (nilOb hpre.1) (Sat.ob (decide_eq_true hpre.1.2.1) (Sat.loop rowsInv (fun r => (r.iv 1 - r.iv 8).toNat) ?_ fun e hI => Sat.br (fun hlt => ?_) (fun hge => ?_)))
  · have h2 := hpre.1.2.1
    simp only [Nat.zero_add] at h2
    refine ⟨⟨Int.le_refl 0, h2⟩, ⟨fun _ => rfl, Int.le_refl 0, Int.le_refl 0, by show (0 : Int) ≤ _; decide⟩, rfl, fun i j r s hi => (by simp [recs, Sub.nenv, assoc, CV.I, CV.B, upsI, upsB, Seg.I, Seg.B, SC.I, SC.B, IE.den, BE.den] at hi), fun t _ => ⟨rfl, fun k hk => (by simp [openAt, recs, Sub.nenv, assoc, CV.I, CV.B, upsI, upsB, Seg.I, Seg.B, SC.I, SC.B, IE.den, BE.den] at hk)⟩⟩
  · replace hpre : rowsPre (ρ.join 4 e) := hpre
    replace hI : rowsInv (ρ.join 4 e) := hI
    replace hlt : (ρ.join 4 e).iv 8 < (ρ.join 4 e).iv 1 := of_decide_eq_true hlt
    have hat : rowsAt (ρ.join 4 e) := ⟨hpre, hI, hlt⟩
    clear hpre hI hlt
    rw [show ((ρ.join 4 e).num.iv 1 - (ρ.join 4 e).num.iv 8).toNat = ((ρ.join 4 e).iv 1 - (ρ.join 4 e).iv 8).toNat from rfl]
    generalize ρ.join 4 e = r at *
    have hlen := hat.len
    have hp := hat.1
    obtain ⟨⟨i1, i2⟩, ⟨o1, o2, o3, o4⟩, -, hu, hM⟩ := hat.2.1
    have hlt := hat.2.2
    have hp2 := hp.2.1
    simp only [Nat.reduceAdd] at o1 o2 o3 o4
    have hm : (r.iv 1 - (r.iv 8 + 1)).toNat < (r.iv 1 - r.iv 8).toNat := by omega
    have hnl := nilLt hp.1 (by simp only [Nat.zero_add]; omega)
    have hth := hp.2.2 (r.iv 8).toNat (by omega)
    have hthr : (recAt mkEv r 3 (r.iv 8).toNat).thread = r.ic 3 (r.iv 8).toNat 0 0 := rfl
    have hbeg : (recAt mkEv r 3 (r.iv 8).toNat).begins = r.bc 3 (r.iv 8).toNat 0 1 := rfl
    obtain ⟨m1, m2⟩ := hM _ hth
    have k1 : (BE.ile (.lit 0) (.add (.cell 3 (.var 8) (.lit 0) 0) (.lit 9223372036854775808))).den r = true := decide_eq_true (by show (0 : Int) ≤ r.ic 3 (r.iv 8).toNat 0 0 + 9223372036854775808; have := hth.1; omega)
    have k2 : (BE.ilt (.add (.cell 3 (.var 8) (.lit 0) 0) (.lit 9223372036854775808)) (.lit 18446744073709551616)).den r = true := decide_eq_true (by show r.ic 3 (r.iv 8).toNat 0 0 + 9223372036854775808 < (18446744073709551616 : Int); have := hth.2; omega)
    refine Sat.ob hnl (Sat.ob (decide_eq_true i1) (Sat.br (fun ha => ?_) (fun ha => ?_)))
    · refine Sat.br (fun hb => ?_) (fun hb => ?_)
      · have hb0 : r.bc 3 (r.iv 8).toNat 0 1 = false := by simpa [BE.den, IE.den] using hb
        replace hb : (recAt mkEv r 3 (r.iv 8).toNat).begins = false := hb0
        refine Sat.br (fun hc => ?_) (fun hc => ?_)
        · have hc0 : ¬ (r.ic 3 (r.iv 8).toNat 0 2 = 0 ∧ r.ic 3 (r.iv 8).toNat 0 3 = 0 ∧ r.ic 3 (r.iv 8).toNat 0 4 = 0 ∧ r.ic 3 (r.iv 8).toNat 0 5 = 0) := by
            rintro ⟨c1, c2, c3, c4⟩
            simp [BE.den, IE.den, c1, c2, c3, c4] at hc
          have hw : wrongEv (recAt mkEv r 3 (r.iv 8).toNat) = true := (wrong_op hb).2 hc0
          exact Sat.fin ⟨fun h => (by cases h), fun _ => ⟨rfl, rfl, rfl, hat.bad (step_wrong hw)⟩⟩
        · have hc0 : r.ic 3 (r.iv 8).toNat 0 2 = 0 ∧ r.ic 3 (r.iv 8).toNat 0 3 = 0 ∧ r.ic 3 (r.iv 8).toNat 0 4 = 0 ∧ r.ic 3 (r.iv 8).toNat 0 5 = 0 := by simpa [BE.den, IE.den] using hc
          have hw : wrongEv (recAt mkEv r 3 (r.iv 8).toNat) = false := Bool.eq_false_iff.2 fun h => (wrong_op hb).1 h hc0
          refine Sat.br (fun hd => ?_) (fun hd => ?_)
          · replace hd : (openAt (recs mkRw r 4) (r.ic 3 (r.iv 8).toNat 0 0)).isSome = true := m1.symm.trans hd
            obtain ⟨k, hk⟩ := Option.isSome_iff_exists.1 hd
            have hk9 := m2 k hk
            obtain ⟨x, x1, x2, x3⟩ := openAt_some hk
            have hkl := (List.getElem?_eq_some_iff.1 x1).1
            rw [recs_length] at hkl
            simp only [Nat.reduceAdd] at hkl
            have hst := step_end (i := r.iv 8) hw hb hk
            have hrows : ∀ {ρ' : Env}, ρ'.iv 5 = r.iv 5 → (∀ i, i < (r.iv 5).toNat → i ≠ k → recAt mkRw ρ' 7 i = recAt mkRw r 7 i) → recAt mkRw ρ' 7 k = endRw (r.iv 8) (recAt mkEv r 3 (r.iv 8).toNat) (recAt mkRw r 7 k) → recs mkRw ρ' 4 = (recs mkRw r 4).modify k (endRw (r.iv 8) (recAt mkEv r 3 (r.iv 8).toNat)) := fun h1 h2 h3 => recs_modify (b := 4) (b' := 4) h1 h2 h3
            refine Sat.ob k1 (Sat.ob k2 (Sat.ob (nilLt hat.2.1.2.1 (by simp only [Nat.reduceAdd]; omega)) (Sat.ob (decide_eq_true ?_) (Sat.ob (decide_eq_true ?_) (Sat.ob (by simp only [D.le, D.lef, D.lt, D.ltf, D.eq, D.eqf, D.not, D.notf, D.and, D.andf, D.or, D.orf, D.inr, D.var, D.lit, D.cellB, D.beq, D.beqf, D.litI, D.varI, D.add, D.sub, D.mul, D.min, D.max, D.cellI, D.i64min, D.i64max]; omega) (Sat.back rfl ?_))))))
            · show (0 : Int) ≤ r.ic 9 (r.ic 3 (r.iv 8).toNat 0 0 + 9223372036854775808).toNat 0 1
              rw [hk9]
              omega
            · show r.ic 9 (r.ic 3 (r.iv 8).toNat 0 0 + 9223372036854775808).toNat 0 1 < r.iv 5
              rw [hk9]
              omega
            generalize hv : Sub.nenv _ r = v
            have v7 : ∀ i, i ≠ k → recAt mkRw v 7 i = recAt mkRw r 7 i := fun i hi => by
              rw [← hv]
              simp [recAt, mkRw, Sub.nenv, assoc, CV.I, CV.B, upsI, upsB, Seg.I, Seg.B, SC.I, SC.B, IE.den, BE.den, hk9, Ne.symm hi]
            have v7k : recAt mkRw v 7 k = endRw (r.iv 8) (recAt mkEv r 3 (r.iv 8).toNat) (recAt mkRw r 7 k) := by
              rw [← hv]
              simp [recAt, mkRw, endRw, mkEv, Sub.nenv, assoc, CV.I, CV.B, upsI, upsB, Seg.I, Seg.B, SC.I, SC.B, IE.den, BE.den, hk9]
            have v9 : MapIs v ((recs mkRw r 4).modify k (endRw (r.iv 8) (recAt mkEv r 3 (r.iv 8).toNat))) := by
              intro t ht
              obtain ⟨t1, t2⟩ := hM t ht
              have hoe := openAt_end hu (i := r.iv 8) (e := recAt mkEv r 3 (r.iv 8).toNat) hk t
              rw [hoe, ← hv]
              by_cases h : t = (recAt mkEv r 3 (r.iv 8).toNat).thread
              · rw [if_pos h]
                refine ⟨?_, fun k hk => (by cases hk)⟩
                have h' : t = r.ic 3 (r.iv 8).toNat 0 0 := h
                simp [Sub.nenv, assoc, CV.I, CV.B, upsI, upsB, Seg.I, Seg.B, SC.I, SC.B, IE.den, BE.den, h']
              · rw [if_neg h]
                have h' : ¬ (r.ic 3 (r.iv 8).toNat 0 0 + 9223372036854775808).toNat = (t + 9223372036854775808).toNat := by
                  have h0 : ¬ t = r.ic 3 (r.iv 8).toNat 0 0 := h
                  have g1 := ht.1
                  have g2 := hth.1
                  omega
                refine ⟨?_, fun k hk => ?_⟩
                · simp [Sub.nenv, assoc, CV.I, CV.B, upsI, upsB, Seg.I, Seg.B, SC.I, SC.B, IE.den, BE.den, h', t1]
                · have := t2 k hk
                  simp [Sub.nenv, assoc, CV.I, CV.B, upsI, upsB, Seg.I, Seg.B, SC.I, SC.B, IE.den, BE.den, h', this]
            have v5 : v.iv 5 = r.iv 5 := by rw [← hv]; rfl
            have hr' := hrows v5 (fun i _ hi => v7 i hi) v7k
            refine ⟨hat.step (by rw [← hv]; rfl) (by rw [← hv]; rfl) (by rw [← hv]; rfl) (by rw [← hv]; rfl) (by rw [← hv]; exact ⟨o1, o2, o3, o4⟩) (by rw [hr']; exact hst) (by rw [hr']; exact uniq_end hu) (by rw [hr']; exact v9), by rw [← hv]; exact hm⟩
          · replace hd : (openAt (recs mkRw r 4) (r.ic 3 (r.iv 8).toNat 0 0)).isSome = false := m1.symm.trans hd
            have hk : openAt (recs mkRw r 4) (r.ic 3 (r.iv 8).toNat 0 0) = none := by simpa using hd
            exact Sat.ob k1 (Sat.ob k2 (Sat.fin ⟨fun h => (by cases h), fun _ => ⟨rfl, rfl, rfl, hat.bad (step_endno hw hb hk)⟩⟩))
      · have hb2 : r.bc 3 (r.iv 8).toNat 0 1 = true := by simpa [BE.den, IE.den] using hb
        replace hb : (recAt mkEv r 3 (r.iv 8).toNat).begins = true := hb2
        have ha0 : r.ic 3 (r.iv 8).toNat 0 6 = 0 ∧ r.ic 3 (r.iv 8).toNat 0 7 = 0 := by simpa [BE.den, IE.den, hb2] using ha
        have hw : wrongEv (recAt mkEv r 3 (r.iv 8).toNat) = false := Bool.eq_false_iff.2 fun h => (wrong_ans hb).1 h ha0
        refine Sat.br (fun hd => ?_) (fun hd => ?_)
        · replace hd : (openAt (recs mkRw r 4) (r.ic 3 (r.iv 8).toNat 0 0)).isSome = true := m1.symm.trans hd
          obtain ⟨k, hk⟩ := Option.isSome_iff_exists.1 hd
          exact Sat.ob k1 (Sat.ob k2 (Sat.fin ⟨fun h => (by cases h), fun _ => ⟨rfl, rfl, rfl, hat.bad (step_busy hw hb hk)⟩⟩))
        · replace hd : (openAt (recs mkRw r 4) (r.ic 3 (r.iv 8).toNat 0 0)).isSome = false := m1.symm.trans hd
          have hk : openAt (recs mkRw r 4) (r.ic 3 (r.iv 8).toNat 0 0) = none := by simpa using hd
          have hst := step_beg (i := r.iv 8) hw hb hk
          refine Sat.ob k1 (Sat.ob k2 (Sat.ob (nilOb hat.2.1.2.1) (Sat.ob (decide_eq_true o2) (Sat.ob (by simp only [D.le, D.lef, D.lt, D.ltf, D.eq, D.eqf, D.not, D.notf, D.and, D.andf, D.or, D.orf, D.inr, D.var, D.lit, D.cellB, D.beq, D.beqf, D.litI, D.varI, D.add, D.sub, D.mul, D.min, D.max, D.cellI, D.i64min, D.i64max]; omega) (Sat.ob (decide_eq_true o3) (Sat.ob (decide_eq_true o4) (Sat.new fun e1 hf => ?_)))))))
          have hf1 := hf _ (List.mem_singleton.2 rfl)
          simp only [D.be, D.le, D.lef, D.lt, D.ltf, D.eq, D.eqf, D.not, D.notf, D.and, D.andf, D.or, D.orf, D.inr, D.var, D.lit, D.cellB, D.beq, D.beqf, D.litI, D.varI, D.add, D.sub, D.mul, D.min, D.max, D.cellI, D.i64min, D.i64max] at hf1
          replace hf1 : r.iv 5 + 1 ≤ (r.join 10 e1).iv 10 ∧ (r.join 10 e1).iv 10 ≤ 9223372036854775807 := hf1
          replace hat : rowsAt (r.join 10 e1) := hat
          replace hst : stepRows ((r.join 10 e1).iv 8) (recs mkRw (r.join 10 e1) 4) (recAt mkEv (r.join 10 e1) 3 ((r.join 10 e1).iv 8).toNat) = some (recs mkRw (r.join 10 e1) 4 ++ [begRw ((r.join 10 e1).iv 8) (recAt mkEv (r.join 10 e1) 3 ((r.join 10 e1).iv 8).toNat)]) := hst
          replace hu : Uniq (recs mkRw (r.join 10 e1) 4) := hu
          replace hM : MapIs (r.join 10 e1) (recs mkRw (r.join 10 e1) 4) := hM
          replace hk : openAt (recs mkRw (r.join 10 e1) 4) ((r.join 10 e1).ic 3 ((r.join 10 e1).iv 8).toNat 0 0) = none := hk
          replace hth : InR ((r.join 10 e1).ic 3 ((r.join 10 e1).iv 8).toNat 0 0) := hth
          replace hf1 : (r.join 10 e1).iv 5 + 1 ≤ (r.join 10 e1).iv 10 ∧ (r.join 10 e1).iv 10 ≤ 9223372036854775807 := hf1
          replace hm : ((r.join 10 e1).iv 1 - ((r.join 10 e1).iv 8 + 1)).toNat < (r.iv 1 - r.iv 8).toNat := hm
          replace o2 : 0 ≤ (r.join 10 e1).iv 5 := o2
          replace i1 : 0 ≤ (r.join 10 e1).iv 8 := i1
          replace hlt : (r.join 10 e1).iv 8 < (r.join 10 e1).iv 1 := hlt
          replace hp2 : (r.join 10 e1).iv 1 ≤ 1000000 := hp2
          clear hf o1 o3 o4 hnl hp i2 hlen hthr hbeg m1 m2 k1 k2 ha hb hb2 hw hd
          generalize r.join 10 e1 = q at *
          have hr' : ∀ {ρ' : Env}, ρ'.iv 5 = q.iv 5 + 1 → (∀ i, i < (q.iv 5).toNat → recAt mkRw ρ' 7 i = recAt mkRw q 7 i) → recAt mkRw ρ' 7 (q.iv 5).toNat = begRw (q.iv 8) (recAt mkEv q 3 (q.iv 8).toNat) → recs mkRw ρ' 4 = recs mkRw q 4 ++ [begRw (q.iv 8) (recAt mkEv q 3 (q.iv 8).toNat)] := fun h1 h2 h3 => recs_push (b := 4) (b' := 4) o2 h1 h2 h3
          have n1 : ∀ i, i < (q.iv 5).toNat → ¬ (q.iv 5).toNat = i := fun i hi => by omega
          refine Sat.ob (by simp only [D.le, D.lef, D.lt, D.ltf, D.eq, D.eqf, D.not, D.notf, D.and, D.andf, D.or, D.orf, D.inr, D.var, D.lit, D.cellB, D.beq, D.beqf, D.litI, D.varI, D.add, D.sub, D.mul, D.min, D.max, D.cellI, D.i64min, D.i64max]; omega) (Sat.back rfl ?_)
          generalize hv : Sub.nenv _ q = v
          have v7 : ∀ i, i < (q.iv 5).toNat → recAt mkRw v 7 i = recAt mkRw q 7 i := fun i hi => by
            rw [← hv]
            simp [recAt, mkRw, Sub.nenv, assoc, CV.I, CV.B, upsI, upsB, Seg.I, Seg.B, SC.I, SC.B, IE.den, BE.den, n1 i hi]
          have v7k : recAt mkRw v 7 (q.iv 5).toNat = begRw (q.iv 8) (recAt mkEv q 3 (q.iv 8).toNat) := by
            rw [← hv]
            simp [recAt, mkRw, begRw, mkEv, Sub.nenv, assoc, CV.I, CV.B, upsI, upsB, Seg.I, Seg.B, SC.I, SC.B, IE.den, BE.den]
          have v9 : MapIs v (recs mkRw q 4 ++ [begRw (q.iv 8) (recAt mkEv q 3 (q.iv 8).toNat)]) := by
            intro t ht
            obtain ⟨t1, t2⟩ := hM t ht
            have hoe := openAt_push hu (x := begRw (q.iv 8) (recAt mkEv q 3 (q.iv 8).toNat)) hk rfl t
            rw [hoe, recs_length, ← hv]
            by_cases h : t = (begRw (q.iv 8) (recAt mkEv q 3 (q.iv 8).toNat)).thread
            · rw [if_pos h]
              have h' : t = q.ic 3 (q.iv 8).toNat 0 0 := h
              refine ⟨?_, fun k hk => ?_⟩
              · simp [Sub.nenv, assoc, CV.I, CV.B, upsI, upsB, Seg.I, Seg.B, SC.I, SC.B, IE.den, BE.den, h']
              · simp only [Option.some.injEq, Nat.reduceAdd] at hk
                subst hk
                simp [Sub.nenv, assoc, CV.I, CV.B, upsI, upsB, Seg.I, Seg.B, SC.I, SC.B, IE.den, BE.den, h']
                omega
            · rw [if_neg h]
              have h' : ¬ (q.ic 3 (q.iv 8).toNat 0 0 + 9223372036854775808).toNat = (t + 9223372036854775808).toNat := by
                have h0 : ¬ t = q.ic 3 (q.iv 8).toNat 0 0 := h
                have g1 := ht.1
                have g2 := hth.1
                omega
              refine ⟨?_, fun k hk => ?_⟩
              · simp [Sub.nenv, assoc, CV.I, CV.B, upsI, upsB, Seg.I, Seg.B, SC.I, SC.B, IE.den, BE.den, h', t1]
              · have := t2 k hk
                simp [Sub.nenv, assoc, CV.I, CV.B, upsI, upsB, Seg.I, Seg.B, SC.I, SC.B, IE.den, BE.den, h', this]
          have v5 : v.iv 5 = q.iv 5 + 1 := by rw [← hv]; rfl
          have hrr := hr' v5 v7 v7k
          refine ⟨hat.step (by rw [← hv]; rfl) (by rw [← hv]; rfl) (by rw [← hv]; rfl) (by rw [← hv]; rfl) (by rw [← hv]; exact ⟨fun h => (by cases h), by show 0 ≤ q.iv 5 + 1; omega, hf1.1, hf1.2⟩) (by rw [hrr]; exact hst) (by rw [hrr]; exact uniq_push hu hk) (by rw [hrr]; exact v9), by rw [← hv]; exact hm⟩
    · have hx : r.bc 3 (r.iv 8).toNat 0 1 = true ∧ ¬ (r.ic 3 (r.iv 8).toNat 0 6 = 0 ∧ r.ic 3 (r.iv 8).toNat 0 7 = 0) := by
        refine ⟨?_, ?_⟩
        · cases h : r.bc 3 (r.iv 8).toNat 0 1
          · simp [BE.den, IE.den, h] at ha
          · rfl
        · rintro ⟨c1, c2⟩
          simp [BE.den, IE.den, c1, c2] at ha
      have hw : wrongEv (recAt mkEv r 3 (r.iv 8).toNat) = true := (wrong_ans hx.1).2 hx.2
      exact Sat.fin ⟨fun h => (by cases h), fun _ => ⟨rfl, rfl, rfl, hat.bad (step_wrong hw)⟩⟩
  · replace hge : ¬ (ρ.join 4 e).iv 8 < (ρ.join 4 e).iv 1 := of_decide_eq_false hge
    replace hpre : rowsPre (ρ.join 4 e) := hpre
    replace hI : rowsInv (ρ.join 4 e) := hI
    generalize ρ.join 4 e = r at *
    obtain ⟨⟨i1, i2⟩, ho, hn, -, -⟩ := hI
    have e1 := recs_full (mk := mkEv) r 0 (n := (r.iv 8).toNat) (by simp only [Nat.zero_add]; omega)
    rw [e1] at hn
    refine Sat.fin ⟨fun _ => ⟨ho, hn.trans (congrArg some (Eq.symm (recs_same (ρ := r) (b := 4) rfl fun i _ => ?_)))⟩, fun h => (by cases h)⟩
    simp [recAt, mkRw, Sub.nenv, assoc, CV.I, CV.B, upsI, upsB, Seg.I, Seg.B, SC.I, SC.B, IE.den, BE.den]
theorem rows_con : ConOK Tryd.prog rowsCon rowsPre rowsPost :=
  con_ok tabOK (E := rowsE) (cs := [(isCon, yesPre, yesPre)]) rfl (fun k pre post h => by
    cases h with
    | head => exact ⟨by kernel_rfl, is_con⟩
    | tail _ h => cases h) schedOK rfl rows_run (by kernel_rfl) (fun ρ _ p hp => by cases hp) rows_sat
end Go.Proofs.YtjhnfmfajbghbaaDoor
