/- 'AnnalsOrders': an order of operations -/
import Derived.Test.YtjhnfmfajbghbaaDoorARows
import Derived.Test.YtjhnfmfajbghbaaDoorAOrdPlain
set_option linter.unusedSimpArgs false
set_option linter.unusedVariables false
namespace Go.Proofs.YtjhnfmfajbghbaaDoor
open Go.Rex
noncomputable def ordersE : Ex := { sched := sched, loops := [L4a, L4b, L4c], cons := [isCon, awakeCon, rowsCon], fin := lawConG 26 ssB 4 [shEv] }
def ordersOut : Out :=
  .call 1 { lo := 0, lob := 0, bk := [(1, { blk := 3 }), (0, { blk := 2 })] } 4 <|
   .ob (.or (.not (.var 0)) (.ieq (.var 1) (.lit 0))) <|
   .ob (.ile (.lit 0) (.var 1)) <|
   .br (.ilt (.lit 60) (.var 1))
   (.fin { lo := 4, lob := 5, bv := [(4, (.lit true))] })
   (.call 2 { lo := 0, lob := 0, iv := [(2, (.var 2)), (1, (.var 1))], bv := [(0, (.var 0))], ct := [(3, .up { r := 3, n1 := (.var 1), s1 := 8, ks := [.int .i64, .bool, .int .i64, .int .i64, .int .i64, .int .i64, .int .i64, .int .i64] } 0 [] (.lit 0))], bk := [(3, { blk := 3 }), (1, { blk := 1 }), (2, { blk := 2 }), (0, { blk := 0 }), (4, { blk := 4, i1 := (.lit 0), s1 := 8 })] } 4 <|
    .br (.not (.var 8))
    (.fin { lo := 4, lob := 5, bv := [(4, (.lit true))] })
    (.loop 9 { lo := 9, lob := 7, iv := [(9, (.lit 0))] } <|
     .ob (.or (.not (.var 4)) (.ieq (.var 5) (.lit 0))) <|
     .ob (.ile (.lit 0) (.var 5)) <|
     .br (.ilt (.var 9) (.var 5))
     (.loop 10 { lo := 10, lob := 7, iv := [(10, (.lit 0))] } <|
      .br (.ilt (.var 10) (.var 5))
      (.ob (.not (.var 4)) <|
       .ob (.ile (.lit 0) (.var 9)) <|
       .ob (.ile (.lit 0) (.var 10)) <|
       .br (.and (.cell 7 (.var 9) (.lit 0) 9) (.ilt (.cell 7 (.var 9) (.lit 0) 8) (.cell 7 (.var 10) (.lit 0) 7)))
       (.br (.and (.not (.and (.cell 7 (.var 10) (.lit 0) 9) (.ilt (.cell 7 (.var 10) (.lit 0) 8) (.cell 7 (.var 9) (.lit 0) 7)))) (.and (.ilt (.var 9) (.var 10)) (.ieq (.cell 7 (.var 9) (.lit 0) 0) (.cell 7 (.var 10) (.lit 0) 0))))
        (.loop 11 { lo := 11, lob := 13, iv := [(11, (.lit 0))] } <|
         .br (.ilt (.var 11) (.var 5))
         (.ob (.ile (.lit 0) (.var 11)) <|
          .br (.and (.cell 7 (.var 10) (.lit 0) 9) (.ilt (.cell 7 (.var 10) (.lit 0) 8) (.cell 7 (.var 11) (.lit 0) 7)))
          (.br (.not (.ilt (.cell 7 (.var 9) (.lit 0) 8) (.cell 7 (.var 11) (.lit 0) 7)))
           (.fin { lo := 4, lob := 5, bv := [(4, (.lit false))] })
           (.ob (.inr .i64 (.add (.var 11) (.lit 1))) <|
            .back 0 { lo := 11, lob := 13, iv := [(11, (.add (.var 11) (.lit 1)))] }))
          (.ob (.inr .i64 (.add (.var 11) (.lit 1))) <|
           .back 0 { lo := 11, lob := 13, iv := [(11, (.add (.var 11) (.lit 1)))] }))
         (.ob (.inr .i64 (.add (.var 10) (.lit 1))) <|
          .back 1 { lo := 10, lob := 7, iv := [(10, (.add (.var 10) (.lit 1)))] }))
        (.br (.not (.and (.cell 7 (.var 10) (.lit 0) 9) (.ilt (.cell 7 (.var 10) (.lit 0) 8) (.cell 7 (.var 9) (.lit 0) 7))))
         (.br (.and (.ilt (.var 9) (.var 10)) (.ieq (.cell 7 (.var 9) (.lit 0) 0) (.cell 7 (.var 10) (.lit 0) 0)))
          (.bad 11)
          (.loop 11 { lo := 11, lob := 11, iv := [(11, (.lit 0))] } <|
           .br (.ilt (.var 11) (.var 5))
           (.ob (.ile (.lit 0) (.var 11)) <|
            .br (.and (.cell 7 (.var 10) (.lit 0) 9) (.ilt (.cell 7 (.var 10) (.lit 0) 8) (.cell 7 (.var 11) (.lit 0) 7)))
            (.br (.not (.ilt (.cell 7 (.var 9) (.lit 0) 8) (.cell 7 (.var 11) (.lit 0) 7)))
             (.fin { lo := 4, lob := 5, bv := [(4, (.lit false))] })
             (.ob (.inr .i64 (.add (.var 11) (.lit 1))) <|
              .back 0 { lo := 11, lob := 11, iv := [(11, (.add (.var 11) (.lit 1)))] }))
            (.ob (.inr .i64 (.add (.var 11) (.lit 1))) <|
             .back 0 { lo := 11, lob := 11, iv := [(11, (.add (.var 11) (.lit 1)))] }))
           (.ob (.inr .i64 (.add (.var 10) (.lit 1))) <|
            .back 1 { lo := 10, lob := 7, iv := [(10, (.add (.var 10) (.lit 1)))] })))
         (.fin { lo := 4, lob := 5, bv := [(4, (.lit false))] })))
       (.br (.and (.ilt (.var 9) (.var 10)) (.ieq (.cell 7 (.var 9) (.lit 0) 0) (.cell 7 (.var 10) (.lit 0) 0)))
        (.fin { lo := 4, lob := 5, bv := [(4, (.lit false))] })
        (.loop 11 { lo := 11, lob := 9, iv := [(11, (.lit 0))] } <|
         .br (.ilt (.var 11) (.var 5))
         (.ob (.inr .i64 (.add (.var 11) (.lit 1))) <|
          .back 0 { lo := 11, lob := 9, iv := [(11, (.add (.var 11) (.lit 1)))] })
         (.ob (.inr .i64 (.add (.var 10) (.lit 1))) <|
          .back 1 { lo := 10, lob := 7, iv := [(10, (.add (.var 10) (.lit 1)))] }))))
      (.ob (.inr .i64 (.add (.var 9) (.lit 1))) <|
       .back 1 { lo := 9, lob := 7, iv := [(9, (.add (.var 9) (.lit 1)))] }))
     (.fin { lo := 4, lob := 5, bv := [(4, (.lit true))] })))
theorem orders_run : exec tab ordersE 8000 [] (cfg0 4 4 [] (sentGl ssB 0) (lawConG 26 ssB 4 [shEv]).hp (lawConG 26 ssB 4 [shEv]).args) = ordersOut := by kernel_rfl
def ordSem : CSem := [(isCon, yesPre, yesPre), (awakeCon, yesPre, yesPre), (rowsCon, rowsPre, rowsPost)]
theorem ordSem_ok : ∀ k pre post, (k, pre, post) ∈ ordSem → conWf k = true ∧ ConOK Tryd.prog k pre post := by
  intro k pre post h
  simp only [ordSem, List.mem_cons, List.not_mem_nil, or_false, Prod.mk.injEq] at h
  rcases h with ⟨rfl, rfl, rfl⟩ | ⟨rfl, rfl, rfl⟩ | ⟨rfl, rfl, rfl⟩
  · exact ⟨by kernel_rfl, is_con⟩
  · exact ⟨by kernel_rfl, awake_con⟩
  · exact ⟨by kernel_rfl, rows_con⟩
theorem rows_call {σ : Sub} {ρ ρ' : Env} {N : Nat} (h : rowsPost (conEnv σ 4 N ρ ρ')) (hb : ρ'.bv (N + 4) = true) : OkSl ρ' N ∧ rowsOf (recs mkEv (σ.nenv ρ) 0) = some (recs mkRw ρ' N) := by
  have e1 : ∀ k, (conEnv σ 4 N ρ ρ').iv (4 + k) = ρ'.iv (N + k) := fun k => by
    show (if 4 + k < 4 then (σ.nenv ρ).iv (4 + k) else ρ'.iv (4 + k - 4 + N)) = _
    rw [if_neg (by omega), show 4 + k - 4 + N = N + k by omega]
  have e2 : (conEnv σ 4 N ρ ρ').bv 4 = ρ'.bv N := by simp [conEnv]
  have e3 : (conEnv σ 4 N ρ ρ').bv 8 = ρ'.bv (N + 4) := by simp [conEnv, Nat.add_comm]
  obtain ⟨h1, h2⟩ := h.1 (e3.trans hb)
  refine ⟨?_, ?_⟩
  · unfold OkSl at h1 ⊢
    rw [e1 1, e1 2, e2] at h1
    exact h1
  · have h3 : recs mkRw (conEnv σ 4 N ρ ρ') 4 = recs mkRw ρ' N := recs_same (e1 1) fun i _ => by
      simp [recAt, conEnv, Nat.add_comm]
    rw [← h3, ← h2]
    rfl
def OG (ρ : Env) : Prop := OkSl ρ 4 ∧ ∃ n, Good n (recs mkRw ρ 4)
theorem og_fr {ρ : Env} (h : OG ρ) {x : Int} (h0 : 0 ≤ x) (h1 : x < ρ.iv 5) (hd : ρ.bc 7 x.toNat 0 9 = true) : ρ.ic 7 x.toNat 0 7 < ρ.ic 7 x.toNat 0 8 := by
  obtain ⟨_, n, hg⟩ := h
  exact ((hg.fr x.toNat (recAt mkRw ρ 7 x.toNat) (recs_get (by simp only [Nat.reduceAdd]; omega))).2 hd).1
theorem og_ord {ρ : Env} (h : OG ρ) {x y : Int} (h0 : 0 ≤ x) (h1 : x < y) (h2 : y < ρ.iv 5) (ht : ρ.ic 7 x.toNat 0 0 = ρ.ic 7 y.toNat 0 0) : ρ.bc 7 x.toNat 0 9 = true ∧ ρ.ic 7 x.toNat 0 8 < ρ.ic 7 y.toNat 0 7 := by
  obtain ⟨_, n, hg⟩ := h
  exact hg.ord x.toNat y.toNat (recAt mkRw ρ 7 x.toNat) (recAt mkRw ρ 7 y.toNat) (recs_get (by simp only [Nat.reduceAdd]; omega)) (recs_get (by simp only [Nat.reduceAdd]; omega)) (by omega) ht
def Inv0 (ρ : Env) : Prop := OG ρ ∧ 0 ≤ ρ.iv 9 ∧ ρ.iv 9 ≤ ρ.iv 5
def Inv1 (ρ : Env) : Prop := OG ρ ∧ (0 ≤ ρ.iv 9 ∧ ρ.iv 9 < ρ.iv 5) ∧ 0 ≤ ρ.iv 10 ∧ ρ.iv 10 ≤ ρ.iv 5
def Inv2 (ρ : Env) : Prop := OG ρ ∧ (0 ≤ ρ.iv 9 ∧ ρ.iv 9 < ρ.iv 5) ∧ (0 ≤ ρ.iv 10 ∧ ρ.iv 10 < ρ.iv 5) ∧ (0 ≤ ρ.iv 11 ∧ ρ.iv 11 ≤ ρ.iv 5) ∧ ρ.bc 7 (ρ.iv 9).toNat 0 9 = true ∧ ρ.ic 7 (ρ.iv 9).toNat 0 8 < ρ.ic 7 (ρ.iv 10).toNat 0 7
def Inv3 (ρ : Env) : Prop := OG ρ ∧ (0 ≤ ρ.iv 9 ∧ ρ.iv 9 < ρ.iv 5) ∧ (0 ≤ ρ.iv 10 ∧ ρ.iv 10 < ρ.iv 5) ∧ (0 ≤ ρ.iv 11 ∧ ρ.iv 11 ≤ ρ.iv 5)
set_option maxHeartbeats 2000000 in
theorem orders_sat (ρ : Env) (hpre : lawPre [shEv] ρ.num) : Sat (lawPostG ssB [shEv]) ordSem [] ρ ordersOut := by
  replace hpre : ((ρ.bv 0 = true → ρ.iv 1 = 0 ∧ ρ.iv 2 = 0) ∧ 0 ≤ ρ.iv 1 ∧ ρ.iv 1 ≤ ρ.iv 2 ∧ ρ.iv 2 ≤ 9223372036854775807 ∧ KdRange ρ 3 (ρ.iv 1) kEv) ∧ True := hpre
  have hsl : OkSl ρ 0 := ⟨fun h => (hpre.1.1 h).1, hpre.1.2.1, hpre.1.2.2.1, hpre.1.2.2.2.1⟩
  have hrg : ∀ i : Nat, (i : Int) < ρ.iv 1 → InR (ρ.ic 3 i 0 0) := fun i hi => hpre.1.2.2.2.2 i 0 .i64 hi rfl
  clear hpre
  unfold ordersOut
  refine Sat.call rfl trivial fun e0 _ => ?_
  replace hsl : OkSl (ρ.join 4 e0) 0 := hsl
  replace hrg : ∀ i : Nat, (i : Int) < (ρ.join 4 e0).iv 1 → InR ((ρ.join 4 e0).ic 3 i 0 0) := hrg
  generalize ρ.join 4 e0 = q at *
  refine Sat.ob (nilOb hsl) (Sat.ob (decide_eq_true hsl.2.1) (Sat.br (fun _ => Sat.fin rfl) (fun hle => ?_)))
  replace hle : q.iv 1 ≤ 60 := by simpa only [D.le, D.lef, D.lt, D.ltf, D.eq, D.eqf, D.not, D.notf, D.and, D.andf, D.or, D.orf, D.inr, D.var, D.lit, D.cellB, D.beq, D.beqf, D.litI, D.varI, D.add, D.sub, D.mul, D.min, D.max, D.cellI, D.i64min, D.i64max, Int.toNat_zero] using hle
  refine Sat.call rfl ⟨hsl, Int.le_trans hle (by decide), fun i hi => ?_⟩ fun e1 hp => ?_
  · have := hrg i hi
    simpa [Sub.nenv, assoc, CV.I, CV.B, upsI, upsB, Seg.I, Seg.B, SC.I, SC.B, IE.den, BE.den] using this
  refine Sat.br (fun _ => Sat.fin rfl) (fun hok => ?_)
  have hb8 : (q.join 4 e1).bv 8 = true := by simpa [BE.den] using hok
  obtain ⟨hs4, hrows⟩ := rows_call hp hb8
  have hOG : OG (q.join 4 e1) := ⟨hs4, _, rowsOf_good hrows⟩
  clear hp hok hb8 hrows hs4 hsl hle hrg
  generalize q.join 4 e1 = s at *
  have hn0 : 0 ≤ s.iv 5 := hOG.1.2.1
  refine Sat.loop Inv0 (fun r => (r.iv 5 - r.iv 9).toNat) ⟨hOG, Int.le_refl 0, hn0⟩ fun e hI => ?_
  replace hI : Inv0 (s.join 9 e) := hI
  rw [show ((s.join 9 e).num.iv 5 - (s.join 9 e).num.iv 9).toNat = ((s.join 9 e).iv 5 - (s.join 9 e).iv 9).toNat from rfl]
  clear hOG hn0
  generalize s.join 9 e = t at *
  obtain ⟨hO, hi0, hi1⟩ := hI
  refine Sat.ob (nilOb hO.1) (Sat.ob (decide_eq_true hO.1.2.1) (Sat.br (fun hlt => ?_) (fun _ => Sat.fin rfl)))
  replace hlt : t.iv 9 < t.iv 5 := of_decide_eq_true hlt
  have hm0 : (t.iv 5 - (t.iv 9 + 1)).toNat < (t.iv 5 - t.iv 9).toNat := by omega
  refine Sat.loop Inv1 (fun r => (r.iv 5 - r.iv 10).toNat) ⟨hO, ⟨hi0, hlt⟩, Int.le_refl 0, hO.1.2.1⟩ fun e hI => ?_
  replace hI : Inv1 (t.join 10 e) := hI
  replace hm0 : ((t.join 10 e).iv 5 - ((t.join 10 e).iv 9 + 1)).toNat < (t.iv 5 - t.iv 9).toNat := hm0
  rw [show ((t.join 10 e).num.iv 5 - (t.join 10 e).num.iv 10).toNat = ((t.join 10 e).iv 5 - (t.join 10 e).iv 10).toNat from rfl]
  clear hO hi0 hi1 hlt
  generalize t.join 10 e = r at *
  obtain ⟨hO, hi, hj0, hj1⟩ := hI
  have hn : 0 ≤ r.iv 5 := hO.1.2.1
  have hbd := hO.1.2.2
  simp only [Nat.reduceAdd] at hbd
  refine Sat.br (fun hlt => ?_) (fun _ => ?_)
  · replace hlt : r.iv 10 < r.iv 5 := of_decide_eq_true hlt
    have hj : 0 ≤ r.iv 10 ∧ r.iv 10 < r.iv 5 := ⟨hj0, hlt⟩
    have hm1 : (r.iv 5 - (r.iv 10 + 1)).toNat < (r.iv 5 - r.iv 10).toNat := by omega
    have fI := og_fr hO hi.1 hi.2
    have fJ := og_fr hO hj.1 hj.2
    refine Sat.ob (nilLt hO.1 (by simp only [Nat.reduceAdd]; omega)) (Sat.ob (decide_eq_true hi.1) (Sat.ob (decide_eq_true hj.1) (Sat.br (fun hA => ?_) (fun hA => ?_))))
    · replace hA : r.bc 7 (r.iv 9).toNat 0 9 = true ∧ r.ic 7 (r.iv 9).toNat 0 8 < r.ic 7 (r.iv 10).toNat 0 7 := by simpa only [D.le, D.lef, D.lt, D.ltf, D.eq, D.eqf, D.not, D.notf, D.and, D.andf, D.or, D.orf, D.inr, D.var, D.lit, D.cellB, D.beq, D.beqf, D.litI, D.varI, D.add, D.sub, D.mul, D.min, D.max, D.cellI, D.i64min, D.i64max, Int.toNat_zero] using hA
      refine Sat.br (fun _ => ?_) (fun hB => Sat.br (fun hC => Sat.br (fun hD => ?_) (fun _ => ?_)) (fun hC => ?_))
      · clear hm0 fI fJ
        refine Sat.loop Inv2 (fun r => (r.iv 5 - r.iv 11).toNat) ⟨hO, ⟨hi.1, hi.2⟩, ⟨hj.1, hj.2⟩, ⟨Int.le_refl 0, hn⟩, hA⟩ fun e2 hI2 => ?_
        replace hI2 : Inv2 (r.join 11 e2) := hI2
        replace hm1 : ((r.join 11 e2).iv 5 - ((r.join 11 e2).iv 10 + 1)).toNat < (r.iv 5 - r.iv 10).toNat := hm1
        rw [show ((r.join 11 e2).num.iv 5 - (r.join 11 e2).num.iv 11).toNat = ((r.join 11 e2).iv 5 - (r.join 11 e2).iv 11).toNat from rfl]
        generalize r.join 11 e2 = u at *
        obtain ⟨hO2, hi2, hj2, hk2, hA2⟩ := hI2
        have hb2 := hO2.1.2.2
        simp only [Nat.reduceAdd] at hb2
        refine Sat.br (fun hlt => ?_) (fun _ => ?_)
        · replace hlt : u.iv 11 < u.iv 5 := of_decide_eq_true hlt
          have hm2 : (u.iv 5 - (u.iv 11 + 1)).toNat < (u.iv 5 - u.iv 11).toNat := by omega
          refine Sat.ob (decide_eq_true hk2.1) (Sat.br (fun hE => ?_) (fun _ => ?_))
          · refine Sat.br (fun hF => ?_) (fun _ => ?_)
            · exfalso
              have f1 := og_fr hO2 hj2.1 hj2.2
              simp only [D.le, D.lef, D.lt, D.ltf, D.eq, D.eqf, D.not, D.notf, D.and, D.andf, D.or, D.orf, D.inr, D.var, D.lit, D.cellB, D.beq, D.beqf, D.litI, D.varI, D.add, D.sub, D.mul, D.min, D.max, D.cellI, D.i64min, D.i64max, Int.toNat_zero] at hE hF
              have := f1 hE.1
              omega
            · exact Sat.ob (by simp only [D.le, D.lef, D.lt, D.ltf, D.eq, D.eqf, D.not, D.notf, D.and, D.andf, D.or, D.orf, D.inr, D.var, D.lit, D.cellB, D.beq, D.beqf, D.litI, D.varI, D.add, D.sub, D.mul, D.min, D.max, D.cellI, D.i64min, D.i64max]; omega) (Sat.back rfl ⟨⟨hO2, hi2, hj2, ⟨by show 0 ≤ u.iv 11 + 1; omega, by show u.iv 11 + 1 ≤ u.iv 5; omega⟩, hA2⟩, hm2⟩)
          · exact Sat.ob (by simp only [D.le, D.lef, D.lt, D.ltf, D.eq, D.eqf, D.not, D.notf, D.and, D.andf, D.or, D.orf, D.inr, D.var, D.lit, D.cellB, D.beq, D.beqf, D.litI, D.varI, D.add, D.sub, D.mul, D.min, D.max, D.cellI, D.i64min, D.i64max]; omega) (Sat.back rfl ⟨⟨hO2, hi2, hj2, ⟨by show 0 ≤ u.iv 11 + 1; omega, by show u.iv 11 + 1 ≤ u.iv 5; omega⟩, hA2⟩, hm2⟩)
        · exact Sat.ob (by simp only [D.le, D.lef, D.lt, D.ltf, D.eq, D.eqf, D.not, D.notf, D.and, D.andf, D.or, D.orf, D.inr, D.var, D.lit, D.cellB, D.beq, D.beqf, D.litI, D.varI, D.add, D.sub, D.mul, D.min, D.max, D.cellI, D.i64min, D.i64max]; omega) (Sat.back rfl ⟨⟨hO2, hi2, ⟨by show 0 ≤ u.iv 10 + 1; omega, by show u.iv 10 + 1 ≤ u.iv 5; omega⟩⟩, hm1⟩)
      · exfalso
        simp only [D.le, D.lef, D.lt, D.ltf, D.eq, D.eqf, D.not, D.notf, D.and, D.andf, D.or, D.orf, D.inr, D.var, D.lit, D.cellB, D.beq, D.beqf, D.litI, D.varI, D.add, D.sub, D.mul, D.min, D.max, D.cellI, D.i64min, D.i64max, Int.toNat_zero] at hB hC hD
        rcases hB with h | h | h
        · rcases hC with hc | hc
          · rw [hc] at h; exact absurd h.1 (by decide)
          · omega
        · omega
        · exact h hD.2
      · clear hm0 fI fJ
        refine Sat.loop Inv2 (fun r => (r.iv 5 - r.iv 11).toNat) ⟨hO, ⟨hi.1, hi.2⟩, ⟨hj.1, hj.2⟩, ⟨Int.le_refl 0, hn⟩, hA⟩ fun e2 hI2 => ?_
        replace hI2 : Inv2 (r.join 11 e2) := hI2
        replace hm1 : ((r.join 11 e2).iv 5 - ((r.join 11 e2).iv 10 + 1)).toNat < (r.iv 5 - r.iv 10).toNat := hm1
        rw [show ((r.join 11 e2).num.iv 5 - (r.join 11 e2).num.iv 11).toNat = ((r.join 11 e2).iv 5 - (r.join 11 e2).iv 11).toNat from rfl]
        generalize r.join 11 e2 = u at *
        obtain ⟨hO2, hi2, hj2, hk2, hA2⟩ := hI2
        have hb2 := hO2.1.2.2
        simp only [Nat.reduceAdd] at hb2
        refine Sat.br (fun hlt => ?_) (fun _ => ?_)
        · replace hlt : u.iv 11 < u.iv 5 := of_decide_eq_true hlt
          have hm2 : (u.iv 5 - (u.iv 11 + 1)).toNat < (u.iv 5 - u.iv 11).toNat := by omega
          refine Sat.ob (decide_eq_true hk2.1) (Sat.br (fun hE => ?_) (fun _ => ?_))
          · refine Sat.br (fun hF => ?_) (fun _ => ?_)
            · exfalso
              have f1 := og_fr hO2 hj2.1 hj2.2
              simp only [D.le, D.lef, D.lt, D.ltf, D.eq, D.eqf, D.not, D.notf, D.and, D.andf, D.or, D.orf, D.inr, D.var, D.lit, D.cellB, D.beq, D.beqf, D.litI, D.varI, D.add, D.sub, D.mul, D.min, D.max, D.cellI, D.i64min, D.i64max, Int.toNat_zero] at hE hF
              have := f1 hE.1
              omega
            · exact Sat.ob (by simp only [D.le, D.lef, D.lt, D.ltf, D.eq, D.eqf, D.not, D.notf, D.and, D.andf, D.or, D.orf, D.inr, D.var, D.lit, D.cellB, D.beq, D.beqf, D.litI, D.varI, D.add, D.sub, D.mul, D.min, D.max, D.cellI, D.i64min, D.i64max]; omega) (Sat.back rfl ⟨⟨hO2, hi2, hj2, ⟨by show 0 ≤ u.iv 11 + 1; omega, by show u.iv 11 + 1 ≤ u.iv 5; omega⟩, hA2⟩, hm2⟩)
          · exact Sat.ob (by simp only [D.le, D.lef, D.lt, D.ltf, D.eq, D.eqf, D.not, D.notf, D.and, D.andf, D.or, D.orf, D.inr, D.var, D.lit, D.cellB, D.beq, D.beqf, D.litI, D.varI, D.add, D.sub, D.mul, D.min, D.max, D.cellI, D.i64min, D.i64max]; omega) (Sat.back rfl ⟨⟨hO2, hi2, hj2, ⟨by show 0 ≤ u.iv 11 + 1; omega, by show u.iv 11 + 1 ≤ u.iv 5; omega⟩, hA2⟩, hm2⟩)
        · exact Sat.ob (by simp only [D.le, D.lef, D.lt, D.ltf, D.eq, D.eqf, D.not, D.notf, D.and, D.andf, D.or, D.orf, D.inr, D.var, D.lit, D.cellB, D.beq, D.beqf, D.litI, D.varI, D.add, D.sub, D.mul, D.min, D.max, D.cellI, D.i64min, D.i64max]; omega) (Sat.back rfl ⟨⟨hO2, hi2, ⟨by show 0 ≤ u.iv 10 + 1; omega, by show u.iv 10 + 1 ≤ u.iv 5; omega⟩⟩, hm1⟩)
      · exfalso
        have hC' : r.bc 7 (r.iv 10).toNat 0 9 = true ∧ r.ic 7 (r.iv 10).toNat 0 8 < r.ic 7 (r.iv 9).toNat 0 7 := by simpa only [D.le, D.lef, D.lt, D.ltf, D.eq, D.eqf, D.not, D.notf, D.and, D.andf, D.or, D.orf, D.inr, D.var, D.lit, D.cellB, D.beq, D.beqf, D.litI, D.varI, D.add, D.sub, D.mul, D.min, D.max, D.cellI, D.i64min, D.i64max, Int.toNat_zero] using hC
        have := fI hA.1
        have := fJ hC'.1
        omega
    · refine Sat.br (fun hD => ?_) (fun _ => ?_)
      · exfalso
        replace hD : r.iv 9 < r.iv 10 ∧ r.ic 7 (r.iv 9).toNat 0 0 = r.ic 7 (r.iv 10).toNat 0 0 := by simpa only [D.le, D.lef, D.lt, D.ltf, D.eq, D.eqf, D.not, D.notf, D.and, D.andf, D.or, D.orf, D.inr, D.var, D.lit, D.cellB, D.beq, D.beqf, D.litI, D.varI, D.add, D.sub, D.mul, D.min, D.max, D.cellI, D.i64min, D.i64max, Int.toNat_zero] using hD
        have := og_ord hO hi.1 hD.1 hj.2 hD.2
        simp only [D.le, D.lef, D.lt, D.ltf, D.eq, D.eqf, D.not, D.notf, D.and, D.andf, D.or, D.orf, D.inr, D.var, D.lit, D.cellB, D.beq, D.beqf, D.litI, D.varI, D.add, D.sub, D.mul, D.min, D.max, D.cellI, D.i64min, D.i64max, Int.toNat_zero] at hA
        rcases hA with h | h
        · rw [h] at this; exact absurd this.1 (by decide)
        · omega
      · clear hm0 fI fJ
        refine Sat.loop Inv3 (fun r => (r.iv 5 - r.iv 11).toNat) ⟨hO, ⟨hi.1, hi.2⟩, ⟨hj.1, hj.2⟩, ⟨Int.le_refl 0, hn⟩⟩ fun e2 hI2 => ?_
        replace hI2 : Inv3 (r.join 11 e2) := hI2
        replace hm1 : ((r.join 11 e2).iv 5 - ((r.join 11 e2).iv 10 + 1)).toNat < (r.iv 5 - r.iv 10).toNat := hm1
        rw [show ((r.join 11 e2).num.iv 5 - (r.join 11 e2).num.iv 11).toNat = ((r.join 11 e2).iv 5 - (r.join 11 e2).iv 11).toNat from rfl]
        generalize r.join 11 e2 = u at *
        obtain ⟨hO2, hi2, hj2, hk2⟩ := hI2
        have hb2 := hO2.1.2.2
        simp only [Nat.reduceAdd] at hb2
        refine Sat.br (fun hlt => ?_) (fun _ => ?_)
        · replace hlt : u.iv 11 < u.iv 5 := of_decide_eq_true hlt
          have hm2 : (u.iv 5 - (u.iv 11 + 1)).toNat < (u.iv 5 - u.iv 11).toNat := by omega
          exact Sat.ob (by simp only [D.le, D.lef, D.lt, D.ltf, D.eq, D.eqf, D.not, D.notf, D.and, D.andf, D.or, D.orf, D.inr, D.var, D.lit, D.cellB, D.beq, D.beqf, D.litI, D.varI, D.add, D.sub, D.mul, D.min, D.max, D.cellI, D.i64min, D.i64max]; omega) (Sat.back rfl ⟨⟨hO2, hi2, hj2, ⟨by show 0 ≤ u.iv 11 + 1; omega, by show u.iv 11 + 1 ≤ u.iv 5; omega⟩⟩, hm2⟩)
        · exact Sat.ob (by simp only [D.le, D.lef, D.lt, D.ltf, D.eq, D.eqf, D.not, D.notf, D.and, D.andf, D.or, D.orf, D.inr, D.var, D.lit, D.cellB, D.beq, D.beqf, D.litI, D.varI, D.add, D.sub, D.mul, D.min, D.max, D.cellI, D.i64min, D.i64max]; omega) (Sat.back rfl ⟨⟨hO2, hi2, ⟨by show 0 ≤ u.iv 10 + 1; omega, by show u.iv 10 + 1 ≤ u.iv 5; omega⟩⟩, hm1⟩)
  · exact Sat.ob (by simp only [D.le, D.lef, D.lt, D.ltf, D.eq, D.eqf, D.not, D.notf, D.and, D.andf, D.or, D.orf, D.inr, D.var, D.lit, D.cellB, D.beq, D.beqf, D.litI, D.varI, D.add, D.sub, D.mul, D.min, D.max, D.cellI, D.i64min, D.i64max]; omega) (Sat.back rfl ⟨⟨hO, by show 0 ≤ r.iv 9 + 1; omega, by show r.iv 9 + 1 ≤ r.iv 5; omega⟩, hm0⟩)
theorem orders_con : ConOK Tryd.prog (lawConG 26 ssB 4 [shEv]) (lawPre [shEv]) (lawPostG ssB [shEv]) :=
  con_ok tabOK (E := ordersE) (cs := ordSem) rfl ordSem_ok schedOK rfl orders_run (by kernel_rfl) (fun ρ _ p hp => by cases hp) orders_sat
end Go.Proofs.YtjhnfmfajbghbaaDoor
