/- 'AnnalsParts': beats in two goes -/
import Derived.Test.YtjhnfmfajbghbaaDoorAEvs
set_option linter.unusedSimpArgs false
set_option linter.unusedVariables false
namespace Go.Proofs.YtjhnfmfajbghbaaDoor
open Go.Rex
noncomputable def partsE : Ex := { sched := sched, loops := [L6], cons := [isCon, awakeCon, eventsCon, alikeCon], fin := lawConG 26 ssS 6 [shBt, shInt] }
def partsTail : Out :=
  .ob (.ile (.mul (.add (.var 12) (.var 16)) (.lit 64)) (.lit 140737488355328)) <|
   .ob (.ile (.lit 0) (.var 12)) <|
   .ob (.ile (.var 12) (.var 13)) <|
   .ob (.ile (.var 13) (.lit 9223372036854775807)) <|
   .ob (.or (.not (.var 11)) (.ieq (.var 12) (.lit 0))) <|
   .ob (.or (.not (.var 15)) (.ieq (.var 16) (.lit 0))) <|
   .ob (.ile (.lit 0) (.var 16)) <|
   .new 19 [.be (.and (.ile (.add (.var 12) (.var 16)) (.var 19)) (.ile (.var 19) (.lit 9223372036854775807))), .be (.or (.not (.and (.var 11) (.ieq (.var 16) (.lit 0)))) (.ieq (.add (.var 12) (.var 16)) (.lit 0))), .be (.or (.not (.and (.var 11) (.ieq (.var 16) (.lit 0)))) (.ieq (.var 19) (.lit 0))), .cat 20 (.var 12) (.up { r := 14, n1 := (.var 12), s1 := 8, ks := [.int .i64, .bool, .int .i64, .int .i64, .int .i64, .int .i64, .int .i64, .int .i64] } 0 [] (.lit 0)) (.var 16) (.up { r := 18, n1 := (.var 16), s1 := 8, ks := [.int .i64, .bool, .int .i64, .int .i64, .int .i64, .int .i64, .int .i64, .int .i64] } 0 [] (.lit 0))] <|
   .call 3 { lo := 0, lob := 0, iv := [(6, (.var 9)), (5, (.var 8)), (2, (.var 19)), (1, (.add (.var 12) (.var 16)))], bv := [(4, (.var 7)), (0, (.and (.var 11) (.ieq (.var 16) (.lit 0))))], ct := [(7, .up { r := 10, n1 := (.var 8), s1 := 8, ks := [.int .i64, .bool, .int .i64, .int .i64, .int .i64, .int .i64, .int .i64, .int .i64] } 0 [] (.lit 0)), (3, .up { r := 20, n1 := (.add (.var 12) (.var 16)), s1 := 8, ks := [.int .i64, .bool, .int .i64, .int .i64, .int .i64, .int .i64, .int .i64, .int .i64] } 0 [] (.lit 0))], bk := [(1, { blk := 3, i1 := (.lit 0), s1 := 8 }), (0, { blk := 6, i1 := (.lit 0), s1 := 8 })] } 21 <|
   .fin { lo := 5, lob := 3, bv := [(5, (.var 21))] }
def partsOut : Out :=
  .call 1 { lo := 0, lob := 0, bk := [(1, { blk := 1 }), (0, { blk := 0 })] } 5 <|
   .ob (.or (.not (.var 0)) (.ieq (.var 1) (.lit 0))) <|
   .ob (.ile (.lit 0) (.var 1)) <|
   .br (.ilt (.lit 200) (.var 1))
   (.fin { lo := 5, lob := 3, bv := [(5, (.lit true))] })
   (.ob (.inr .i64 (.add (.var 1) (.lit 1))) <|
    .ob (.not (.ieq (.wrap .u64 (.add (.var 1) (.lit 1))) (.lit 0))) <|
    .ob (.inr .i64 (.mod (.wrap .u64 (.var 4)) (.wrap .u64 (.add (.var 1) (.lit 1))))) <|
    .loop 5 { lo := 5, lob := 3, iv := [(6, (.lit 0)), (5, (.lit 0))] } <|
    .br (.ilt (.var 6) (.var 1))
    (.ob (.not (.var 0)) <|
     .ob (.ile (.lit 0) (.var 6)) <|
     .br (.cell 3 (.var 6) (.lit 0) 1)
     (.ob (.inr .i64 (.add (.var 5) (.lit 1))) <|
      .br (.cell 3 (.var 6) (.lit 0) 7)
      (.ob (.inr .i64 (.add (.add (.var 5) (.lit 1)) (.lit 1))) <|
       .ob (.inr .i64 (.add (.var 6) (.lit 1))) <|
       .back 0 { lo := 5, lob := 3, iv := [(6, (.add (.var 6) (.lit 1))), (5, (.add (.add (.var 5) (.lit 1)) (.lit 1)))] })
      (.ob (.inr .i64 (.add (.var 6) (.lit 1))) <|
       .back 0 { lo := 5, lob := 3, iv := [(6, (.add (.var 6) (.lit 1))), (5, (.add (.var 5) (.lit 1)))] }))
     (.br (.cell 3 (.var 6) (.lit 0) 7)
      (.ob (.inr .i64 (.add (.var 5) (.lit 1))) <|
       .ob (.inr .i64 (.add (.var 6) (.lit 1))) <|
       .back 0 { lo := 5, lob := 3, iv := [(6, (.add (.var 6) (.lit 1))), (5, (.add (.var 5) (.lit 1)))] })
      (.ob (.inr .i64 (.add (.var 6) (.lit 1))) <|
       .back 0 { lo := 5, lob := 3, iv := [(6, (.add (.var 6) (.lit 1))), (5, (.var 5))] })))
    (.call 2 { lo := 0, lob := 0, iv := [(2, (.var 2)), (1, (.var 1))], bv := [(0, (.var 0))], ct := [(3, .up { r := 3, n1 := (.var 1), s1 := 10, ks := [.int .i64, .bool, .int .i64, .int .i64, .int .i64, .int .i64, .bool, .bool, .int .i64, .int .i64] } 0 [] (.lit 0))], bk := [(0, { blk := 2, i1 := (.lit 0), s1 := 10 })] } 7 <|
     .ob (.or (.not (.var 7)) (.ieq (.var 8) (.lit 0))) <|
     .ob (.ile (.lit 0) (.var 8)) <|
     .br (.ieq (.var 8) (.var 5))
     (.br (.var 0)
      (.ob (.ile (.lit 0) (.mod (.wrap .u64 (.var 4)) (.wrap .u64 (.add (.var 1) (.lit 1))))) <|
       .ob (.ile (.mod (.wrap .u64 (.var 4)) (.wrap .u64 (.add (.var 1) (.lit 1)))) (.lit 0)) <|
       .call 2 { lo := 0, lob := 0, iv := [(2, (.lit 0)), (1, (.lit 0))], bv := [(0, (.lit true))], nb := [0] } 11 <|
       .call 2 { lo := 0, lob := 0, iv := [(2, (.lit 0)), (1, (.lit 0))], bv := [(0, (.lit true))], nb := [0] } 15 <|
       partsTail)
      (.ob (.ile (.lit 0) (.mod (.wrap .u64 (.var 4)) (.wrap .u64 (.add (.var 1) (.lit 1))))) <|
       .ob (.ile (.mod (.wrap .u64 (.var 4)) (.wrap .u64 (.add (.var 1) (.lit 1)))) (.var 2)) <|
       .br (.ieq (.mod (.wrap .u64 (.var 4)) (.wrap .u64 (.add (.var 1) (.lit 1)))) (.var 2))
       (.ob (.ile (.mod (.wrap .u64 (.var 4)) (.wrap .u64 (.add (.var 1) (.lit 1)))) (.var 1)) <|
        .ob (.ile (.var 1) (.var 2)) <|
        .call 2 { lo := 0, lob := 0, iv := [(2, (.var 2)), (1, (.mod (.wrap .u64 (.var 4)) (.wrap .u64 (.add (.var 1) (.lit 1)))))], bv := [(0, (.var 0))], ct := [(3, .up { r := 3, n1 := (.var 1), s1 := 10, ks := [.int .i64, .bool, .int .i64, .int .i64, .int .i64, .int .i64, .bool, .bool, .int .i64, .int .i64] } 0 [] (.lit 0))], bk := [(0, { blk := 2, i1 := (.lit 0), s1 := 10 })] } 11 <|
        .ob (.ile (.sub (.var 1) (.mod (.wrap .u64 (.var 4)) (.wrap .u64 (.add (.var 1) (.lit 1))))) (.var 1)) <|
        .call 2 { lo := 0, lob := 0, iv := [(2, (.sub (.var 2) (.mod (.wrap .u64 (.var 4)) (.wrap .u64 (.add (.var 1) (.lit 1)))))), (1, (.sub (.var 1) (.mod (.wrap .u64 (.var 4)) (.wrap .u64 (.add (.var 1) (.lit 1))))))], bv := [(0, (.var 0))], ct := [(3, .up { r := 3, n1 := (.var 1), s1 := 10, ks := [.int .i64, .bool, .int .i64, .int .i64, .int .i64, .int .i64, .bool, .bool, .int .i64, .int .i64] } 0 [] (.lit 0))], bk := [(0, { blk := 2, i1 := (.lit 0), s1 := 10 })] } 15 <|
        partsTail)
       (.ob (.ile (.mod (.wrap .u64 (.var 4)) (.wrap .u64 (.add (.var 1) (.lit 1)))) (.var 1)) <|
        .ob (.ile (.var 1) (.var 2)) <|
        .call 2 { lo := 0, lob := 0, iv := [(2, (.var 2)), (1, (.mod (.wrap .u64 (.var 4)) (.wrap .u64 (.add (.var 1) (.lit 1)))))], bv := [(0, (.var 0))], ct := [(3, .up { r := 3, n1 := (.var 1), s1 := 10, ks := [.int .i64, .bool, .int .i64, .int .i64, .int .i64, .int .i64, .bool, .bool, .int .i64, .int .i64] } 0 [] (.lit 0))], bk := [(0, { blk := 2, i1 := (.lit 0), s1 := 10 })] } 11 <|
        .ob (.ile (.add (.mod (.wrap .u64 (.var 4)) (.wrap .u64 (.add (.var 1) (.lit 1)))) (.sub (.var 1) (.mod (.wrap .u64 (.var 4)) (.wrap .u64 (.add (.var 1) (.lit 1)))))) (.var 1)) <|
        .call 2 { lo := 0, lob := 0, iv := [(2, (.sub (.var 2) (.mod (.wrap .u64 (.var 4)) (.wrap .u64 (.add (.var 1) (.lit 1)))))), (1, (.sub (.var 1) (.mod (.wrap .u64 (.var 4)) (.wrap .u64 (.add (.var 1) (.lit 1))))))], bv := [(0, (.var 0))], ct := [(3, .up { r := 3, n1 := (.var 1), s1 := 10, ks := [.int .i64, .bool, .int .i64, .int .i64, .int .i64, .int .i64, .bool, .bool, .int .i64, .int .i64] } 0 [] (.mod (.wrap .u64 (.var 4)) (.wrap .u64 (.add (.var 1) (.lit 1)))))], bk := [(0, { blk := 2, i1 := (.mod (.wrap .u64 (.var 4)) (.wrap .u64 (.add (.var 1) (.lit 1)))), s1 := 10 })] } 15 <|
        partsTail)))
     (.fin { lo := 5, lob := 3, bv := [(5, (.lit false))] })))
theorem parts_run : exec tab partsE 8000 [] (cfg0 6 5 [] (sentGl ssS 0) (lawConG 26 ssS 6 [shBt, shInt]).hp (lawConG 26 ssS 6 [shBt, shInt]).args) = partsOut := by kernel_rfl
def annSem : CSem := [(isCon, yesPre, yesPre), (awakeCon, yesPre, yesPre), (eventsCon, eventsPre, eventsPost), (alikeCon, alikePre, alikePost)]
theorem annSem_ok : ∀ k pre post, (k, pre, post) ∈ annSem → conWf k = true ∧ ConOK Tryd.prog k pre post := by
  intro k pre post h
  simp only [annSem, List.mem_cons, List.not_mem_nil, or_false, Prod.mk.injEq] at h
  rcases h with ⟨rfl, rfl, rfl⟩ | ⟨rfl, rfl, rfl⟩ | ⟨rfl, rfl, rfl⟩ | ⟨rfl, rfl, rfl⟩
  · exact ⟨by kernel_rfl, is_con⟩
  · exact ⟨by kernel_rfl, awake_con⟩
  · exact ⟨by kernel_rfl, events_con⟩
  · exact ⟨by kernel_rfl, alike_con⟩
theorem events_call {σ : Sub} {ρ ρ' : Env} {N : Nat} (h : eventsPost (conEnv σ 4 N ρ ρ')) : OkSl ρ' N ∧ recs mkEv ρ' N = (recs mkBt (σ.nenv ρ) 0).flatMap evsOf := by
  obtain ⟨h1, h2⟩ := h
  have e1 : ∀ k, (conEnv σ 4 N ρ ρ').iv (4 + k) = ρ'.iv (N + k) := fun k => by
    show (if 4 + k < 4 then (σ.nenv ρ).iv (4 + k) else ρ'.iv (4 + k - 4 + N)) = _
    rw [if_neg (by omega), show 4 + k - 4 + N = N + k by omega]
  have e2 : (conEnv σ 4 N ρ ρ').bv 4 = ρ'.bv N := by simp [conEnv]
  refine ⟨?_, ?_⟩
  · unfold OkSl at h1 ⊢
    rw [e1 1, e1 2, e2] at h1
    exact h1
  · have h3 : recs mkEv (conEnv σ 4 N ρ ρ') 4 = recs mkEv ρ' N := recs_same (e1 1) fun i _ => by
      simp [recAt, conEnv, Nat.add_comm]
    rw [← h3, h2]
    rfl
def tailPre (q : Env) : Prop := OkSl q 7 ∧ OkSl q 11 ∧ OkSl q 15 ∧ q.iv 12 ≤ 400 ∧ q.iv 16 ≤ 400 ∧ recs mkEv q 11 ++ recs mkEv q 15 = recs mkEv q 7
theorem tail_sat (q : Env) (h : tailPre q) {Γ : List (Env → Prop)} : Sat (lawPostG ssS [shBt, shInt]) annSem Γ q partsTail := by
  obtain ⟨h7, h11, h15, b12, b16, hcat⟩ := h
  have k7 := h7; have k11 := h11; have k15 := h15
  unfold OkSl at k7 k11 k15
  simp only [Nat.reduceAdd] at k7 k11 k15
  unfold partsTail
  refine Sat.ob (by simp only [D.le, D.lef, D.lt, D.ltf, D.eq, D.eqf, D.not, D.notf, D.and, D.andf, D.or, D.orf, D.inr, D.var, D.lit, D.cellB, D.beq, D.beqf, D.litI, D.varI, D.add, D.sub, D.mul, D.min, D.max, D.cellI, D.i64min, D.i64max]; omega) (Sat.ob (by simp only [D.le, D.lef, D.lt, D.ltf, D.eq, D.eqf, D.not, D.notf, D.and, D.andf, D.or, D.orf, D.inr, D.var, D.lit, D.cellB, D.beq, D.beqf, D.litI, D.varI, D.add, D.sub, D.mul, D.min, D.max, D.cellI, D.i64min, D.i64max]; omega) (Sat.ob (by simp only [D.le, D.lef, D.lt, D.ltf, D.eq, D.eqf, D.not, D.notf, D.and, D.andf, D.or, D.orf, D.inr, D.var, D.lit, D.cellB, D.beq, D.beqf, D.litI, D.varI, D.add, D.sub, D.mul, D.min, D.max, D.cellI, D.i64min, D.i64max]; omega) (Sat.ob (by simp only [D.le, D.lef, D.lt, D.ltf, D.eq, D.eqf, D.not, D.notf, D.and, D.andf, D.or, D.orf, D.inr, D.var, D.lit, D.cellB, D.beq, D.beqf, D.litI, D.varI, D.add, D.sub, D.mul, D.min, D.max, D.cellI, D.i64min, D.i64max]; omega) (Sat.ob (nilOb h11) (Sat.ob (nilOb h15) (Sat.ob (by simp only [D.le, D.lef, D.lt, D.ltf, D.eq, D.eqf, D.not, D.notf, D.and, D.andf, D.or, D.orf, D.inr, D.var, D.lit, D.cellB, D.beq, D.beqf, D.litI, D.varI, D.add, D.sub, D.mul, D.min, D.max, D.cellI, D.i64min, D.i64max]; omega) (Sat.new fun e hf => ?_)))))))
  have f1 := hf _ (List.mem_cons_self ..)
  have f2 := hf _ (List.mem_cons_of_mem _ (List.mem_cons_self ..))
  have f3 := hf _ (List.mem_cons_of_mem _ (List.mem_cons_of_mem _ (List.mem_cons_self ..)))
  have f4 := hf _ (List.mem_cons_of_mem _ (List.mem_cons_of_mem _ (List.mem_cons_of_mem _ (List.mem_cons_self ..))))
  clear hf
  replace h7 : OkSl (q.join 19 e) 7 := h7
  replace hcat : recs mkEv (q.join 19 e) 11 ++ recs mkEv (q.join 19 e) 15 = recs mkEv (q.join 19 e) 7 := hcat
  replace k7 : ((q.join 19 e).bv 7 = true → (q.join 19 e).iv 8 = 0) ∧ 0 ≤ (q.join 19 e).iv 8 ∧ (q.join 19 e).iv 8 ≤ (q.join 19 e).iv 9 ∧ (q.join 19 e).iv 9 ≤ 9223372036854775807 := k7
  replace k11 : ((q.join 19 e).bv 11 = true → (q.join 19 e).iv 12 = 0) ∧ 0 ≤ (q.join 19 e).iv 12 ∧ (q.join 19 e).iv 12 ≤ (q.join 19 e).iv 13 ∧ (q.join 19 e).iv 13 ≤ 9223372036854775807 := k11
  replace k15 : ((q.join 19 e).bv 15 = true → (q.join 19 e).iv 16 = 0) ∧ 0 ≤ (q.join 19 e).iv 16 ∧ (q.join 19 e).iv 16 ≤ (q.join 19 e).iv 17 ∧ (q.join 19 e).iv 17 ≤ 9223372036854775807 := k15
  clear h11 h15 b12 b16
  generalize q.join 19 e = u at *
  clear h7
  simp only [D.be, D.and, D.or, D.not, D.andf, D.eqf, D.notf, D.eq, D.le, D.add, D.var, D.varI, D.litI] at f1 f2 f3
  refine Sat.call rfl ⟨⟨fun hb => ?_, ?_, f1.1, f1.2⟩, ⟨k7.1, k7.2.1, k7.2.2.1, k7.2.2.2⟩⟩ fun e2 hp => Sat.fin (Eq.trans (b := (u.join 21 e2).bv 21) rfl ?_)
  · show u.iv 12 + u.iv 16 = 0
    replace hb : (u.bv 11 && (u.iv 16 == 0)) = true := hb
    simp at hb
    have := k11.1 hb.1
    omega
  · show 0 ≤ u.iv 12 + u.iv 16
    omega
  · refine hp.2 ?_
    refine (recs_cat (mk := mkEv) (ρ := u) (b := 11) (c := 15) k11.2.1 k15.2.1 ?_ ?_ ?_).trans (hcat.trans ?_)
    · simp [conEnv, Sub.nenv, assoc, CV.I, CV.B, upsI, upsB, Seg.I, Seg.B, SC.I, SC.B, IE.den, BE.den, alikeCon]
    · intro i hi
      have a := fun j => (f4 i j).1 hi
      simp [CV.I, CV.B, upsI, upsB, Seg.I, Seg.B, IE.den] at a
      simp [recAt, mkEv, conEnv, Sub.nenv, assoc, CV.I, CV.B, upsI, upsB, Seg.I, Seg.B, SC.I, SC.B, IE.den, BE.den, alikeCon, a]
    · intro i hi
      have a := fun j => (f4 i j).2 hi
      simp [CV.I, CV.B, upsI, upsB, Seg.I, Seg.B, IE.den] at a
      simp [recAt, mkEv, conEnv, Sub.nenv, assoc, CV.I, CV.B, upsI, upsB, Seg.I, Seg.B, SC.I, SC.B, IE.den, BE.den, alikeCon, a]
    · refine Eq.symm (recs_same ?_ fun i hi => ?_)
      · simp [conEnv, Sub.nenv, assoc, CV.I, CV.B, upsI, upsB, Seg.I, Seg.B, SC.I, SC.B, IE.den, BE.den, alikeCon]
      · simp [recAt, mkEv, conEnv, Sub.nenv, assoc, CV.I, CV.B, upsI, upsB, Seg.I, Seg.B, SC.I, SC.B, IE.den, BE.den, alikeCon]
abbrev kT : IE := .mod (.wrap .u64 (.var 4)) (.wrap .u64 (.add (.var 1) (.lit 1)))
theorem kT_den {q : Env} (h0 : 0 ≤ q.iv 1) (h1 : q.iv 1 ≤ 200) : 0 ≤ kT.den q ∧ kT.den q ≤ q.iv 1 ∧ (IE.wrap .u64 (.add (.var 1) (.lit 1))).den q = q.iv 1 + 1 := by
  have e1 : (IE.wrap .u64 (.add (.var 1) (.lit 1))).den q = q.iv 1 + 1 := by
    simp only [D.wrap, D.add, D.varI, D.litI, IntKind.wrap_u64]
    omega
  have e2 : kT.den q = (IntKind.u64.wrap (q.iv 4)).tmod (q.iv 1 + 1) := by
    show (IntKind.u64.wrap (q.iv 4)).tmod ((IE.wrap .u64 (.add (.var 1) (.lit 1))).den q) = _
    rw [e1]
  have e3 : 0 ≤ IntKind.u64.wrap (q.iv 4) := by rw [IntKind.wrap_u64]; omega
  rw [e2, Int.tmod_eq_emod_of_nonneg e3]
  have := Int.emod_nonneg (IntKind.u64.wrap (q.iv 4)) (show q.iv 1 + 1 ≠ 0 by omega)
  have := Int.emod_lt_of_pos (IntKind.u64.wrap (q.iv 4)) (show 0 < q.iv 1 + 1 by omega)
  exact ⟨by omega, by omega, e1⟩
def partsPre (q : Env) : Prop := OkSl q 0 ∧ q.iv 1 ≤ 200
def partsInv (q : Env) : Prop := (0 ≤ q.iv 6 ∧ q.iv 6 ≤ q.iv 1) ∧ q.iv 5 = (((recs mkBt q 0).take (q.iv 6).toNat).flatMap evsOf).length
theorem evsOf_length (b : Bt) : (evsOf b).length = (if b.begins then 1 else 0) + if b.ends then 1 else 0 := by
  unfold evsOf
  cases b.begins <;> cases b.ends <;> simp
theorem partsInv.step {r : Env} (hp : partsPre r) (h : partsInv r) (hlt : r.iv 6 < r.iv 1) :
    ((((recs mkBt r 0).take (r.iv 6 + 1).toNat).flatMap evsOf).length : Int) = r.iv 5 + ((if (recAt mkBt r 3 (r.iv 6).toNat).begins then 1 else 0) + if (recAt mkBt r 3 (r.iv 6).toNat).ends then 1 else 0) := by
  obtain ⟨⟨i1, i2⟩, i3⟩ := h
  rw [show (r.iv 6 + 1).toNat = (r.iv 6).toNat + 1 by omega, recs_take (by simp only [Nat.zero_add]; omega), List.flatMap_append, List.length_append, i3]
  simp only [List.flatMap_cons, List.flatMap_nil, List.append_nil, evsOf_length]
  split <;> split <;> simp
/-- behind the two calls -/
theorem parts_end {u : Env} {l : List Bt} {k : Nat} (hl : l.length ≤ 200) (h7 : OkSl u 7) (e7 : recs mkEv u 7 = l.flatMap evsOf) (h11 : OkSl u 11) (e11 : recs mkEv u 11 = (l.take k).flatMap evsOf) (h15 : OkSl u 15) (e15 : recs mkEv u 15 = (l.drop k).flatMap evsOf) : tailPre u := by
  have l11 := congrArg List.length e11
  have l15 := congrArg List.length e15
  rw [recs_length] at l11 l15
  have f11 := flat_len (l.take k)
  have f15 := flat_len (l.drop k)
  rw [List.length_take] at f11
  rw [List.length_drop] at f15
  have o11 := h11.2.1
  have o15 := h15.2.1
  simp only [Nat.reduceAdd] at *
  refine ⟨h7, h11, h15, by omega, by omega, ?_⟩
  rw [e11, e15, e7, ← List.flatMap_append, List.take_append_drop]
set_option maxHeartbeats 2000000 in
theorem parts_sat (ρ : Env) (hpre : lawPre [shBt, shInt] ρ.num) : Sat (lawPostG ssS [shBt, shInt]) annSem [] ρ partsOut := by
  replace hpre : ((ρ.bv 0 = true → ρ.iv 1 = 0 ∧ ρ.iv 2 = 0) ∧ 0 ≤ ρ.iv 1 ∧ ρ.iv 1 ≤ ρ.iv 2 ∧ ρ.iv 2 ≤ 9223372036854775807 ∧ KdRange ρ 3 (ρ.iv 1) kBt) ∧ (IntKind.i64.min ≤ ρ.iv 4 ∧ ρ.iv 4 ≤ IntKind.i64.max) ∧ True := hpre
  have hsl : OkSl ρ 0 := ⟨fun h => (hpre.1.1 h).1, hpre.1.2.1, hpre.1.2.2.1, hpre.1.2.2.2.1⟩
  clear hpre
  unfold partsOut
  refine Sat.call rfl trivial fun e0 _ => ?_
  replace hsl : OkSl (ρ.join 5 e0) 0 := hsl
  generalize ρ.join 5 e0 = q at *
  refine Sat.ob (nilOb hsl) (Sat.ob (decide_eq_true hsl.2.1) (Sat.br (fun _ => Sat.fin rfl) (fun hle => ?_)))
  replace hle : q.iv 1 ≤ 200 := by simpa only [D.le, D.lef, D.lt, D.ltf, D.eq, D.eqf, D.not, D.notf, D.and, D.andf, D.or, D.orf, D.inr, D.var, D.lit, D.cellB, D.beq, D.beqf, D.litI, D.varI, D.add, D.sub, D.mul, D.min, D.max, D.cellI, D.i64min, D.i64max] using hle
  have h0 : 0 ≤ q.iv 1 := hsl.2.1
  obtain ⟨k1, k2, k3⟩ := kT_den h0 hle
  refine Sat.ob (by simp only [D.le, D.lef, D.lt, D.ltf, D.eq, D.eqf, D.not, D.notf, D.and, D.andf, D.or, D.orf, D.inr, D.var, D.lit, D.cellB, D.beq, D.beqf, D.litI, D.varI, D.add, D.sub, D.mul, D.min, D.max, D.cellI, D.i64min, D.i64max]; omega) (Sat.ob ?_ (Sat.ob ?_ (Sat.loop partsInv (fun r => (r.iv 1 - r.iv 6).toNat) ?_ fun e hI => ?_)))
  · simp only [D.not, D.eqf, D.litI]
    rw [k3]
    omega
  · show (BE.inr .i64 kT).den q = true
    simp only [D.inr, D.i64min, D.i64max]
    omega
  · refine ⟨⟨Int.le_refl 0, h0⟩, rfl⟩
  replace hsl : OkSl (q.join 5 e) 0 := hsl
  replace hle : (q.join 5 e).iv 1 ≤ 200 := hle
  replace hI : partsInv (q.join 5 e) := hI
  rw [show ((q.join 5 e).num.iv 1 - (q.join 5 e).num.iv 6).toNat = ((q.join 5 e).iv 1 - (q.join 5 e).iv 6).toNat from rfl]
  clear h0 k1 k2 k3
  generalize q.join 5 e = r at *
  have h0 : 0 ≤ r.iv 1 := hsl.2.1
  refine Sat.br (fun hlt => ?_) (fun hge => ?_)
  · replace hlt : r.iv 6 < r.iv 1 := of_decide_eq_true hlt
    have hst := partsInv.step ⟨hsl, hle⟩ hI hlt
    obtain ⟨⟨i1, i2⟩, i3⟩ := hI
    have hb5 : 0 ≤ r.iv 5 ∧ r.iv 5 ≤ 400 := by
      have := flat_len ((recs mkBt r 0).take (r.iv 6).toNat)
      rw [List.length_take] at this
      omega
    have hm : (r.iv 1 - (r.iv 6 + 1)).toNat < (r.iv 1 - r.iv 6).toNat := by omega
    refine Sat.ob (nilLt hsl (by simp only [Nat.zero_add]; omega)) (Sat.ob (decide_eq_true i1) (Sat.br (fun hb => ?_) (fun hb => ?_)))
    · replace hb : (recAt mkBt r 3 (r.iv 6).toNat).begins = true := hb
      refine Sat.ob (by simp only [D.le, D.lef, D.lt, D.ltf, D.eq, D.eqf, D.not, D.notf, D.and, D.andf, D.or, D.orf, D.inr, D.var, D.lit, D.cellB, D.beq, D.beqf, D.litI, D.varI, D.add, D.sub, D.mul, D.min, D.max, D.cellI, D.i64min, D.i64max]; omega) (Sat.br (fun hd => ?_) (fun hd => ?_))
      · replace hd : (recAt mkBt r 3 (r.iv 6).toNat).ends = true := hd
        rw [hb, hd] at hst
        refine Sat.ob (by simp only [D.le, D.lef, D.lt, D.ltf, D.eq, D.eqf, D.not, D.notf, D.and, D.andf, D.or, D.orf, D.inr, D.var, D.lit, D.cellB, D.beq, D.beqf, D.litI, D.varI, D.add, D.sub, D.mul, D.min, D.max, D.cellI, D.i64min, D.i64max]; omega) (Sat.ob (by simp only [D.le, D.lef, D.lt, D.ltf, D.eq, D.eqf, D.not, D.notf, D.and, D.andf, D.or, D.orf, D.inr, D.var, D.lit, D.cellB, D.beq, D.beqf, D.litI, D.varI, D.add, D.sub, D.mul, D.min, D.max, D.cellI, D.i64min, D.i64max]; omega) (Sat.back rfl ⟨⟨⟨?_, ?_⟩, ?_⟩, hm⟩))
        · show 0 ≤ r.iv 6 + 1
          omega
        · show r.iv 6 + 1 ≤ r.iv 1
          omega
        · exact (show r.iv 5 + 1 + 1 = _ by rw [Int.add_assoc]; exact hst.symm)
      · replace hd : (recAt mkBt r 3 (r.iv 6).toNat).ends = false := hd
        rw [hb, hd] at hst
        refine Sat.ob (by simp only [D.le, D.lef, D.lt, D.ltf, D.eq, D.eqf, D.not, D.notf, D.and, D.andf, D.or, D.orf, D.inr, D.var, D.lit, D.cellB, D.beq, D.beqf, D.litI, D.varI, D.add, D.sub, D.mul, D.min, D.max, D.cellI, D.i64min, D.i64max]; omega) (Sat.back rfl ⟨⟨⟨?_, ?_⟩, ?_⟩, hm⟩)
        · show 0 ≤ r.iv 6 + 1
          omega
        · show r.iv 6 + 1 ≤ r.iv 1
          omega
        · exact (show r.iv 5 + 1 = _ from hst.symm)
    · replace hb : (recAt mkBt r 3 (r.iv 6).toNat).begins = false := hb
      refine Sat.br (fun hd => ?_) (fun hd => ?_)
      · replace hd : (recAt mkBt r 3 (r.iv 6).toNat).ends = true := hd
        rw [hb, hd] at hst
        refine Sat.ob (by simp only [D.le, D.lef, D.lt, D.ltf, D.eq, D.eqf, D.not, D.notf, D.and, D.andf, D.or, D.orf, D.inr, D.var, D.lit, D.cellB, D.beq, D.beqf, D.litI, D.varI, D.add, D.sub, D.mul, D.min, D.max, D.cellI, D.i64min, D.i64max]; omega) (Sat.ob (by simp only [D.le, D.lef, D.lt, D.ltf, D.eq, D.eqf, D.not, D.notf, D.and, D.andf, D.or, D.orf, D.inr, D.var, D.lit, D.cellB, D.beq, D.beqf, D.litI, D.varI, D.add, D.sub, D.mul, D.min, D.max, D.cellI, D.i64min, D.i64max]; omega) (Sat.back rfl ⟨⟨⟨?_, ?_⟩, ?_⟩, hm⟩))
        · show 0 ≤ r.iv 6 + 1
          omega
        · show r.iv 6 + 1 ≤ r.iv 1
          omega
        · exact (show r.iv 5 + 1 = _ from hst.symm)
      · replace hd : (recAt mkBt r 3 (r.iv 6).toNat).ends = false := hd
        rw [hb, hd] at hst
        refine Sat.ob (by simp only [D.le, D.lef, D.lt, D.ltf, D.eq, D.eqf, D.not, D.notf, D.and, D.andf, D.or, D.orf, D.inr, D.var, D.lit, D.cellB, D.beq, D.beqf, D.litI, D.varI, D.add, D.sub, D.mul, D.min, D.max, D.cellI, D.i64min, D.i64max]; omega) (Sat.back rfl ⟨⟨⟨?_, ?_⟩, ?_⟩, hm⟩)
        · show 0 ≤ r.iv 6 + 1
          omega
        · show r.iv 6 + 1 ≤ r.iv 1
          omega
        · have h2 : ((((recs mkBt r 0).take (r.iv 6 + 1).toNat).flatMap evsOf).length : Int) = r.iv 5 := hst.trans (by simp)
          exact (show r.iv 5 = _ from h2.symm)
  · replace hge : ¬ r.iv 6 < r.iv 1 := of_decide_eq_false hge
    obtain ⟨⟨i1, i2⟩, i3⟩ := hI
    have hfull : (recs mkBt r 0).take (r.iv 6).toNat = recs mkBt r 0 := recs_full r 0 (by simp only [Nat.zero_add]; omega)
    rw [hfull] at i3
    clear hfull i1 i2 hge
    refine Sat.call rfl ⟨hsl, Int.le_trans hle (by decide)⟩ fun e1 hp => ?_
    obtain ⟨o7, n7⟩ := events_call hp
    replace n7 : recs mkEv (r.join 7 e1) 7 = (recs mkBt r 0).flatMap evsOf := n7.trans (congrArg (List.flatMap evsOf) (recs_same rfl fun i _ => by simp [recAt, mkBt, Sub.nenv, assoc, CV.I, CV.B, upsI, upsB, Seg.I, Seg.B, SC.I, SC.B, IE.den, BE.den]))
    replace n7 : recs mkEv (r.join 7 e1) 7 = (recs mkBt (r.join 7 e1) 0).flatMap evsOf := n7
    replace hsl : OkSl (r.join 7 e1) 0 := hsl
    replace hle : (r.join 7 e1).iv 1 ≤ 200 := hle
    replace h0 : 0 ≤ (r.join 7 e1).iv 1 := h0
    replace i3 : (r.join 7 e1).iv 5 = ((recs mkBt (r.join 7 e1) 0).flatMap evsOf).length := i3
    clear hp
    generalize r.join 7 e1 = s at *
    refine Sat.ob (nilOb o7) (Sat.ob (decide_eq_true o7.2.1) (Sat.br (fun heq => ?_) (fun hne => ?_)))
    · clear heq i3
      obtain ⟨k1, k2, k3⟩ := kT_den h0 hle
      have hlen : (recs mkBt s 0).length ≤ 200 := by rw [recs_length]; simp only [Nat.zero_add]; omega
      refine Sat.br (fun hnil => ?_) (fun hnil => ?_)
      · have hz : s.iv 1 = 0 := hsl.1 hnil
        have hnone : recs mkBt s 0 = [] := by
          refine List.eq_nil_of_length_eq_zero ?_
          rw [recs_length]
          simp only [Nat.zero_add]
          omega
        refine Sat.ob (decide_eq_true k1) (Sat.ob (decide_eq_true (by show kT.den s ≤ 0; omega)) (Sat.call rfl ⟨⟨fun _ => rfl, Int.le_refl 0, Int.le_refl 0, by show (0 : Int) ≤ _; decide⟩, by show (0 : Int) ≤ _; decide⟩ fun e2 hp => ?_))
        obtain ⟨o11, n11⟩ := events_call hp
        replace n11 : recs mkEv (s.join 11 e2) 11 = [] := n11
        replace o7 : OkSl (s.join 11 e2) 7 := o7
        replace n7 : recs mkEv (s.join 11 e2) 7 = (recs mkBt (s.join 11 e2) 0).flatMap evsOf := n7
        replace hnone : recs mkBt (s.join 11 e2) 0 = [] := hnone
        clear hp hlen hz hsl hle h0 k1 k2 k3 hnil
        generalize s.join 11 e2 = t at *
        refine Sat.call rfl ⟨⟨fun _ => rfl, Int.le_refl 0, Int.le_refl 0, by show (0 : Int) ≤ _; decide⟩, by show (0 : Int) ≤ _; decide⟩ fun e3 hp => ?_
        obtain ⟨o15, n15⟩ := events_call hp
        replace n15 : recs mkEv (t.join 15 e3) 15 = [] := n15
        replace o7 : OkSl (t.join 15 e3) 7 := o7
        replace o11 : OkSl (t.join 15 e3) 11 := o11
        replace n7 : recs mkEv (t.join 15 e3) 7 = (recs mkBt (t.join 15 e3) 0).flatMap evsOf := n7
        replace n11 : recs mkEv (t.join 15 e3) 11 = [] := n11
        replace hnone : recs mkBt (t.join 15 e3) 0 = [] := hnone
        exact tail_sat _ (parts_end (l := []) (k := 0) (by decide) o7 (by rw [n7, hnone]) o11 n11 o15 n15)
      · have hcap := hsl.2.2.1
        have hcm := hsl.2.2.2
        simp only [Nat.zero_add] at hcap hcm
        refine Sat.ob (decide_eq_true k1) (Sat.ob (decide_eq_true (by show kT.den s ≤ s.iv 2; omega)) (Sat.br (fun hc => ?_) (fun hc => ?_)))
        · replace hc : kT.den s = s.iv 2 := by simpa only [D.eq, D.varI] using hc
          refine Sat.ob (decide_eq_true k2) (Sat.ob (decide_eq_true hcap) (Sat.call rfl ⟨⟨fun h => absurd (show s.bv 0 = true from h) (by rw [show s.bv 0 = false from hnil]; decide), k1, by show kT.den s ≤ s.iv 2; omega, hcm⟩, by show kT.den s ≤ 1000000; omega⟩ fun e2 hp => ?_))
          obtain ⟨o11, n11⟩ := events_call hp
          replace n11 : recs mkEv (s.join 11 e2) 11 = ((recs mkBt s 0).take (kT.den s).toNat).flatMap evsOf := by
            refine n11.trans (congrArg (List.flatMap evsOf) ((recs_piece (ρ := s) (b := 0) (s := 0) (n := (kT.den s).toNat) rfl ?_ fun i _ => ?_).trans (by simp)))
            · simp only [Nat.zero_add]; omega
            · simp [recAt, mkBt, Sub.nenv, assoc, CV.I, CV.B, upsI, upsB, Seg.I, Seg.B, SC.I, SC.B, IE.den, BE.den]
          replace o7 : OkSl (s.join 11 e2) 7 := o7
          replace n11 : recs mkEv (s.join 11 e2) 11 = ((recs mkBt (s.join 11 e2) 0).take (kT.den (s.join 11 e2)).toNat).flatMap evsOf := n11
          replace n7 : recs mkEv (s.join 11 e2) 7 = (recs mkBt (s.join 11 e2) 0).flatMap evsOf := n7
          replace hlen : (recs mkBt (s.join 11 e2) 0).length ≤ 200 := hlen
          replace hle : (s.join 11 e2).iv 1 ≤ 200 := hle
          replace h0 : 0 ≤ (s.join 11 e2).iv 1 := h0
          replace k1 : 0 ≤ kT.den (s.join 11 e2) := k1
          replace k2 : kT.den (s.join 11 e2) ≤ (s.join 11 e2).iv 1 := k2
          replace hnil : (s.join 11 e2).bv 0 = false := hnil
          replace hcap : (s.join 11 e2).iv 1 ≤ (s.join 11 e2).iv 2 := hcap
          replace hcm : (s.join 11 e2).iv 2 ≤ 9223372036854775807 := hcm
          replace hc : kT.den (s.join 11 e2) = (s.join 11 e2).iv 2 := hc
          clear hp hsl k3
          generalize s.join 11 e2 = t at *
          refine Sat.ob (decide_eq_true (by show t.iv 1 - kT.den t ≤ t.iv 1; omega)) (Sat.call rfl ⟨⟨fun h => absurd (show t.bv 0 = true from h) (by rw [hnil]; decide), by show 0 ≤ t.iv 1 - kT.den t; omega, by show t.iv 1 - kT.den t ≤ t.iv 2 - kT.den t; omega, by show t.iv 2 - kT.den t ≤ _; omega⟩, by show t.iv 1 - kT.den t ≤ 1000000; omega⟩ fun e3 hp => ?_)
          obtain ⟨o15, n15⟩ := events_call hp
          replace n15 : recs mkEv (t.join 15 e3) 15 = ((recs mkBt t 0).drop (kT.den t).toNat).flatMap evsOf := by
            refine n15.trans (congrArg (List.flatMap evsOf) ((recs_piece (ρ := t) (b := 0) (s := (kT.den t).toNat) (n := (t.iv 1 - kT.den t).toNat) rfl ?_ fun i hi => ?_).trans (List.take_of_length_le ?_)))
            · simp only [Nat.zero_add]; omega
            · exfalso; omega
            · rw [List.length_drop, recs_length]
              simp only [Nat.zero_add]
              omega
          replace o7 : OkSl (t.join 15 e3) 7 := o7
          replace o11 : OkSl (t.join 15 e3) 11 := o11
          replace n7 : recs mkEv (t.join 15 e3) 7 = (recs mkBt t 0).flatMap evsOf := n7
          replace n11 : recs mkEv (t.join 15 e3) 11 = ((recs mkBt t 0).take (kT.den t).toNat).flatMap evsOf := n11
          exact tail_sat _ (parts_end hlen o7 n7 o11 n11 o15 n15)
        · clear hc
          have hc : True := trivial
          refine Sat.ob (decide_eq_true k2) (Sat.ob (decide_eq_true hcap) (Sat.call rfl ⟨⟨fun h => absurd (show s.bv 0 = true from h) (by rw [show s.bv 0 = false from hnil]; decide), k1, by show kT.den s ≤ s.iv 2; omega, hcm⟩, by show kT.den s ≤ 1000000; omega⟩ fun e2 hp => ?_))
          obtain ⟨o11, n11⟩ := events_call hp
          replace n11 : recs mkEv (s.join 11 e2) 11 = ((recs mkBt s 0).take (kT.den s).toNat).flatMap evsOf := by
            refine n11.trans (congrArg (List.flatMap evsOf) ((recs_piece (ρ := s) (b := 0) (s := 0) (n := (kT.den s).toNat) rfl ?_ fun i _ => ?_).trans (by simp)))
            · simp only [Nat.zero_add]; omega
            · simp [recAt, mkBt, Sub.nenv, assoc, CV.I, CV.B, upsI, upsB, Seg.I, Seg.B, SC.I, SC.B, IE.den, BE.den]
          replace o7 : OkSl (s.join 11 e2) 7 := o7
          replace n11 : recs mkEv (s.join 11 e2) 11 = ((recs mkBt (s.join 11 e2) 0).take (kT.den (s.join 11 e2)).toNat).flatMap evsOf := n11
          replace n7 : recs mkEv (s.join 11 e2) 7 = (recs mkBt (s.join 11 e2) 0).flatMap evsOf := n7
          replace hlen : (recs mkBt (s.join 11 e2) 0).length ≤ 200 := hlen
          replace hle : (s.join 11 e2).iv 1 ≤ 200 := hle
          replace h0 : 0 ≤ (s.join 11 e2).iv 1 := h0
          replace k1 : 0 ≤ kT.den (s.join 11 e2) := k1
          replace k2 : kT.den (s.join 11 e2) ≤ (s.join 11 e2).iv 1 := k2
          replace hnil : (s.join 11 e2).bv 0 = false := hnil
          replace hcap : (s.join 11 e2).iv 1 ≤ (s.join 11 e2).iv 2 := hcap
          replace hcm : (s.join 11 e2).iv 2 ≤ 9223372036854775807 := hcm
          clear hp hsl k3 hc
          generalize s.join 11 e2 = t at *
          refine Sat.ob (decide_eq_true (by show kT.den t + (t.iv 1 - kT.den t) ≤ t.iv 1; omega)) (Sat.call rfl ⟨⟨fun h => absurd (show t.bv 0 = true from h) (by rw [hnil]; decide), by show 0 ≤ t.iv 1 - kT.den t; omega, by show t.iv 1 - kT.den t ≤ t.iv 2 - kT.den t; omega, by show t.iv 2 - kT.den t ≤ _; omega⟩, by show t.iv 1 - kT.den t ≤ 1000000; omega⟩ fun e3 hp => ?_)
          obtain ⟨o15, n15⟩ := events_call hp
          replace n15 : recs mkEv (t.join 15 e3) 15 = ((recs mkBt t 0).drop (kT.den t).toNat).flatMap evsOf := by
            refine n15.trans (congrArg (List.flatMap evsOf) ((recs_piece (ρ := t) (b := 0) (s := (kT.den t).toNat) (n := (t.iv 1 - kT.den t).toNat) rfl ?_ fun i hi => ?_).trans (List.take_of_length_le ?_)))
            · simp only [Nat.zero_add]; omega
            · simp [recAt, mkBt, Sub.nenv, assoc, CV.I, CV.B, upsI, upsB, Seg.I, Seg.B, SC.I, SC.B, IE.den, BE.den]
            · rw [List.length_drop, recs_length]
              simp only [Nat.zero_add]
              omega
          replace o7 : OkSl (t.join 15 e3) 7 := o7
          replace o11 : OkSl (t.join 15 e3) 11 := o11
          replace n7 : recs mkEv (t.join 15 e3) 7 = (recs mkBt t 0).flatMap evsOf := n7
          replace n11 : recs mkEv (t.join 15 e3) 11 = ((recs mkBt t 0).take (kT.den t).toNat).flatMap evsOf := n11
          exact tail_sat _ (parts_end hlen o7 n7 o11 n11 o15 n15)
    · exfalso
      have l7 := congrArg List.length n7
      rw [recs_length] at l7
      have := o7.2.1
      simp only [D.le, D.lef, D.lt, D.ltf, D.eq, D.eqf, D.not, D.notf, D.and, D.andf, D.or, D.orf, D.inr, D.var, D.lit, D.cellB, D.beq, D.beqf, D.litI, D.varI, D.add, D.sub, D.mul, D.min, D.max, D.cellI, D.i64min, D.i64max, Nat.reduceAdd] at *
      omega
theorem parts_con : ConOK Tryd.prog (lawConG 26 ssS 6 [shBt, shInt]) (lawPre [shBt, shInt]) (lawPostG ssS [shBt, shInt]) :=
  con_ok tabOK (E := partsE) (cs := annSem) rfl annSem_ok schedOK rfl parts_run (by kernel_rfl) (fun ρ _ p hp => by cases hp) parts_sat
end Go.Proofs.YtjhnfmfajbghbaaDoor
