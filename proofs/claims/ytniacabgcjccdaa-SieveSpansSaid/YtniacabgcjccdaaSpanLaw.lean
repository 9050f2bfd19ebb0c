/- 'SieveSpans': a span keeps what its eras keep -/
import Derived.Test.YtniacabgcjccdaaLawSem
set_option linter.unusedSimpArgs false
set_option linter.unusedVariables false
namespace Go.Proofs.Ytniacabgcjccdaa
open Go.Rex
noncomputable def spanlE : Ex := { sched := sched, loops := [L7a, L7b], cons := lawCons, fin := lawCon 7 sh7 }
def spanlOut : Out :=
  .call 0 { lo := 0, lob := 0 } 6 <|
   .ob (.inr .i64 (.mod (.wrap .u64 (.var 4)) (.lit 100))) <|
   .ob (.inr .i64 (.add (.lit 1) (.mod (.wrap .u64 (.var 4)) (.lit 100)))) <|
   .ob (.inr .i64 (.mod (.wrap .u64 (.var 5)) (.lit 40))) <|
   .ob (.inr .i64 (.add (.lit 1) (.mod (.wrap .u64 (.var 5)) (.lit 40)))) <|
   .ob (.or (.not (.var 0)) (.ieq (.var 1) (.lit 0))) <|
   .ob (.ile (.lit 0) (.var 1)) <|
   .br (.ilt (.lit 60) (.var 1))
   (.fin { lo := 6, lob := 1, bv := [(6, (.lit true))] })
   (.loop 6 { lo := 6, lob := 1, iv := [(6, (.lit 0))] } <|
    .br (.ilt (.var 6) (.var 1))
    (.ob (.not (.var 0)) <|
     .ob (.ile (.lit 0) (.var 6)) <|
     .br (.ilt (.cell 3 (.var 6) (.lit 0) 6) (.cell 3 (.var 6) (.lit 0) 5))
     (.fin { lo := 6, lob := 1, bv := [(6, (.lit true))] })
     (.ob (.inr .i64 (.add (.var 6) (.lit 1))) <|
      .back 0 { lo := 6, lob := 1, iv := [(6, (.add (.var 6) (.lit 1)))] }))
    (.loop 7 { lo := 7, lob := 3, iv := [(13, (.lit 0)), (11, (.lit 0)), (10, (.lit 0)), (8, (.lit 0)), (7, (.lit 0))], ct := [(12, .ex [] 3 0 0), (9, .ex [] 1 0 0)], bk := [(4, { blk := 2, i1 := (.lit 0), s1 := 3 }), (3, { blk := 1, i1 := (.lit 0), s1 := 1 })] } <|
     .br (.ilt (.var 13) (.add (.lit 1) (.mod (.wrap .u64 (.var 5)) (.lit 40))))
     (.ob (.inr .i64 (.add (.add (.lit 1) (.mod (.wrap .u64 (.var 4)) (.lit 100))) (.var 13))) <|
      .ob (.ile (.mul (.add (.var 7) (.lit 1)) (.lit 8)) (.lit 140737488355328)) <|
      .ob (.ile (.lit 0) (.var 7)) <|
      .ob (.ile (.var 7) (.var 8)) <|
      .ob (.ile (.var 8) (.lit 9223372036854775807)) <|
      .new 14 [.be (.and (.ile (.add (.var 7) (.lit 1)) (.var 14)) (.ile (.var 14) (.lit 9223372036854775807)))] <|
      .ob (.ile (.mul (.add (.var 10) (.lit 1)) (.lit 24)) (.lit 140737488355328)) <|
      .ob (.ile (.lit 0) (.var 10)) <|
      .ob (.ile (.var 10) (.var 11)) <|
      .ob (.ile (.var 11) (.lit 9223372036854775807)) <|
      .new 15 [.be (.and (.ile (.add (.var 10) (.lit 1)) (.var 15)) (.ile (.var 15) (.lit 9223372036854775807)))] <|
      .ob (.inr .i64 (.add (.var 13) (.lit 1))) <|
      .back 0 { lo := 7, lob := 3, iv := [(13, (.add (.var 13) (.lit 1))), (11, (.var 15)), (10, (.add (.var 10) (.lit 1))), (8, (.var 14)), (7, (.add (.var 7) (.lit 1)))], ct := [(12, .up { r := 12, n1 := (.add (.var 10) (.lit 1)), s1 := 3, ks := [.bool, .int .i64, .int .i64] } 0 [⟨0, (.var 10), (.lit 0), 0, .bool (.lit true)⟩, ⟨0, (.var 10), (.lit 0), 1, .int .i64 (.add (.add (.lit 1) (.mod (.wrap .u64 (.var 4)) (.lit 100))) (.var 13))⟩, ⟨0, (.var 10), (.lit 0), 2, .int .i64 (.add (.add (.lit 1) (.mod (.wrap .u64 (.var 4)) (.lit 100))) (.var 13))⟩] (.lit 0)), (9, .up { r := 9, n1 := (.add (.var 7) (.lit 1)), s1 := 1, ks := [.int .i64] } 0 [⟨0, (.var 7), (.lit 0), 0, .int .i64 (.add (.add (.lit 1) (.mod (.wrap .u64 (.var 4)) (.lit 100))) (.var 13))⟩] (.lit 0))], bk := [(4, { blk := 8, i1 := (.lit 0), s1 := 3 }), (3, { blk := 6, i1 := (.lit 0), s1 := 1 })] })
     (.ob (.inr .i64 (.add (.add (.lit 1) (.mod (.wrap .u64 (.var 4)) (.lit 100))) (.add (.lit 1) (.mod (.wrap .u64 (.var 5)) (.lit 40))))) <|
      .ob (.inr .i64 (.sub (.add (.add (.lit 1) (.mod (.wrap .u64 (.var 4)) (.lit 100))) (.add (.lit 1) (.mod (.wrap .u64 (.var 5)) (.lit 40)))) (.lit 1))) <|
      .call 3 { lo := 0, lob := 0, iv := [(6, (.lit 1)), (5, (.lit 1)), (2, (.var 2)), (1, (.var 1))], bv := [(4, (.lit false)), (0, (.var 0))], ct := [(7, .ex [.bool (.lit true), .int .i64 (.add (.lit 1) (.mod (.wrap .u64 (.var 4)) (.lit 100))), .int .i64 (.sub (.add (.add (.lit 1) (.mod (.wrap .u64 (.var 4)) (.lit 100))) (.add (.lit 1) (.mod (.wrap .u64 (.var 5)) (.lit 40)))) (.lit 1))] 3 0 0), (3, .up { r := 3, n1 := (.var 1), s1 := 7, ks := [.int .i64, .int .i64, .int .i64, .int .i64, .bool, .int .i64, .int .i64] } 0 [] (.lit 0))], bk := [(1, { blk := 5, i1 := (.lit 0), s1 := 3 }), (0, { blk := 0, i1 := (.lit 0), s1 := 7 })] } 14 <|
      .call 2 { lo := 0, lob := 0, iv := [(6, (.var 8)), (5, (.var 7)), (2, (.var 2)), (1, (.var 1))], bv := [(4, (.lit false)), (0, (.var 0))], ct := [(7, .up { r := 9, n1 := (.var 7), s1 := 1, ks := [.int .i64] } 0 [] (.lit 0)), (3, .up { r := 3, n1 := (.var 1), s1 := 7, ks := [.int .i64, .int .i64, .int .i64, .int .i64, .bool, .int .i64, .int .i64] } 0 [] (.lit 0))], bk := [(1, { blk := 3, i1 := (.lit 0), s1 := 1 }), (0, { blk := 0, i1 := (.lit 0), s1 := 7 })] } 22 <|
      .call 3 { lo := 0, lob := 0, iv := [(6, (.var 11)), (5, (.var 10)), (2, (.var 2)), (1, (.var 1))], bv := [(4, (.lit false)), (0, (.var 0))], ct := [(7, .up { r := 12, n1 := (.var 10), s1 := 3, ks := [.bool, .int .i64, .int .i64] } 0 [] (.lit 0)), (3, .up { r := 3, n1 := (.var 1), s1 := 7, ks := [.int .i64, .int .i64, .int .i64, .int .i64, .bool, .int .i64, .int .i64] } 0 [] (.lit 0))], bk := [(1, { blk := 4, i1 := (.lit 0), s1 := 3 }), (0, { blk := 0, i1 := (.lit 0), s1 := 7 })] } 30 <|
      .call 7 { lo := 0, lob := 0, iv := [(6, (.var 24)), (5, (.var 23)), (2, (.var 16)), (1, (.var 15))], bv := [(4, (.var 22)), (0, (.var 14))], ct := [(7, .up { r := 25, n1 := (.var 23), s1 := 7, ks := [.int .i64, .int .i64, .int .i64, .int .i64, .bool, .int .i64, .int .i64] } 0 [] (.lit 0)), (3, .up { r := 17, n1 := (.var 15), s1 := 7, ks := [.int .i64, .int .i64, .int .i64, .int .i64, .bool, .int .i64, .int .i64] } 0 [] (.lit 0))], bk := [(1, { blk := 8, i1 := (.lit 0), s1 := 7 }), (0, { blk := 6, i1 := (.lit 0), s1 := 7 })] } 38 <|
      .br (.var 38)
      (.call 7 { lo := 0, lob := 0, iv := [(6, (.var 32)), (5, (.var 31)), (2, (.var 24)), (1, (.var 23))], bv := [(4, (.var 30)), (0, (.var 22))], ct := [(7, .up { r := 33, n1 := (.var 31), s1 := 7, ks := [.int .i64, .int .i64, .int .i64, .int .i64, .bool, .int .i64, .int .i64] } 0 [] (.lit 0)), (3, .up { r := 25, n1 := (.var 23), s1 := 7, ks := [.int .i64, .int .i64, .int .i64, .int .i64, .bool, .int .i64, .int .i64] } 0 [] (.lit 0))], bk := [(1, { blk := 10, i1 := (.lit 0), s1 := 7 }), (0, { blk := 8, i1 := (.lit 0), s1 := 7 })] } 39 <|
       .fin { lo := 6, lob := 1, bv := [(6, (.var 39))] })
      (.fin { lo := 6, lob := 1, bv := [(6, (.lit false))] }))))
theorem spanl_run : exec tab spanlE 4000 [] (cfg0 7 6 [] [] (lawCon 7 sh7).hp (lawCon 7 sh7).args) = spanlOut := by kernel_rfl
def lo7 (ρ : Env) : Int := 1 + (IntKind.u64.wrap (ρ.iv 4)).tmod 100
def nn7 (ρ : Env) : Int := 1 + (IntKind.u64.wrap (ρ.iv 5)).tmod 40
theorem u64_pos (x : Int) : 0 ≤ IntKind.u64.wrap x := by
  rw [IntKind.wrap_u64]
  omega
theorem lo7_in (ρ : Env) : 1 ≤ lo7 ρ ∧ lo7 ρ ≤ 100 := by
  have h1 := Int.tmod_nonneg 100 (u64_pos (ρ.iv 4))
  have h2 := Int.tmod_lt_of_pos (IntKind.u64.wrap (ρ.iv 4)) (show (0 : Int) < 100 by decide)
  unfold lo7
  omega
theorem nn7_in (ρ : Env) : 1 ≤ nn7 ρ ∧ nn7 ρ ≤ 40 := by
  have h1 := Int.tmod_nonneg 40 (u64_pos (ρ.iv 5))
  have h2 := Int.tmod_lt_of_pos (IntKind.u64.wrap (ρ.iv 5)) (show (0 : Int) < 40 by decide)
  unfold nn7
  omega
/-- the list, short; each birth ahead of its death -/
def S7 (ρ : Env) : Prop := OkSl ρ 0 ∧ ρ.iv 1 ≤ 60 ∧ ∀ j : Nat, (j : Int) < ρ.iv 1 → ρ.ic 3 j 0 5 ≤ ρ.ic 3 j 0 6
def C7 (ρ : Env) : Prop := ∀ j : Nat, (j : Int) < ρ.iv 13 → ρ.ic 9 j 0 0 = lo7 ρ + j ∧ ρ.bc 12 j 0 0 = true ∧ ρ.ic 12 j 0 1 = lo7 ρ + j ∧ ρ.ic 12 j 0 2 = lo7 ρ + j
def I7 (ρ : Env) : Prop := S7 ρ ∧ (0 ≤ ρ.iv 13 ∧ ρ.iv 13 ≤ nn7 ρ) ∧ ρ.iv 7 = ρ.iv 13 ∧ (ρ.iv 7 ≤ ρ.iv 8 ∧ ρ.iv 8 ≤ 9223372036854775807) ∧ ρ.iv 10 = ρ.iv 13 ∧ (ρ.iv 10 ≤ ρ.iv 11 ∧ ρ.iv 11 ≤ 9223372036854775807) ∧ C7 ρ
def erasFrom (lo n : Int) : List Int := (List.range n.toNat).map fun j : Nat => lo + j
def spansFrom (lo n : Int) : List (Bool × Int × Int) := (List.range n.toNat).map fun j : Nat => (true, lo + j, lo + j)
def annL (ρ : Env) (r : Nat) (n : Int) : List Int := (List.range n.toNat).map fun j => ρ.ic r j 0 0
def annLP (ρ : Env) (r : Nat) (n : Int) : List (Bool × Int × Int) := (List.range n.toNat).map fun j => (ρ.bc r j 0 0, ρ.ic r j 0 1, ρ.ic r j 0 2)
theorem annI7 {ρ : Env} (h1 : ρ.iv 13 = nn7 ρ) (h2 : ρ.iv 7 = ρ.iv 13) (h3 : 1 ≤ nn7 ρ ∧ nn7 ρ ≤ 40) (h4 : C7 ρ) : annL ρ 9 (ρ.iv 7) = erasFrom (lo7 ρ) (nn7 ρ) := by
  unfold annL erasFrom
  rw [h2, h1]
  exact range_map_congr fun j hj => (h4 j (by omega)).1
theorem annP7 {ρ : Env} (h1 : ρ.iv 13 = nn7 ρ) (h2 : ρ.iv 10 = ρ.iv 13) (h3 : 1 ≤ nn7 ρ ∧ nn7 ρ ≤ 40) (h4 : C7 ρ) : annLP ρ 12 (ρ.iv 10) = spansFrom (lo7 ρ) (nn7 ρ) := by
  unfold annLP spansFrom
  rw [h2, h1]
  exact range_map_congr fun j hj => by
    obtain ⟨_, a, b, c⟩ := h4 j (by omega)
    rw [a, b, c]
theorem life {ρ : Env} (h : ∀ j : Nat, (j : Int) < ρ.iv 1 → ρ.ic 3 j 0 5 ≤ ρ.ic 3 j 0 6) (x : Note) (hx : x ∈ notes ρ 0) : x.birth ≤ x.death := by
  obtain ⟨j, hj, rfl⟩ := List.mem_map.1 hx
  have := List.mem_range.1 hj
  simp only [Nat.zero_add] at this
  exact h j (by omega)
theorem keep_one {lo n : Int} (h1 : 1 ≤ lo) (h2 : 1 ≤ n) {x : Note} (hx : x.birth ≤ x.death) : keepP [(true, lo, lo + n - 1)] x = keepE (erasFrom lo n) x := by
  rw [Bool.eq_iff_iff]
  unfold keepP keepE erasFrom
  simp only [List.any_cons, List.any_nil, Bool.or_false, decide_eq_true_eq, true_and, List.any_eq_true, List.mem_map, List.mem_range]
  constructor
  · intro ⟨ha, hb⟩
    refine ⟨max x.birth lo, ⟨(max x.birth lo - lo).toNat, by omega, by omega⟩, by omega⟩
  · rintro ⟨e, ⟨j, hj, rfl⟩, h⟩
    omega
theorem keep_each {lo n : Int} (h1 : 1 ≤ lo) (x : Note) : keepE (erasFrom lo n) x = keepP (spansFrom lo n) x := by
  rw [Bool.eq_iff_iff]
  unfold keepP keepE erasFrom spansFrom
  simp only [List.any_map, List.any_eq_true, List.mem_range, Function.comp, decide_eq_true_eq, true_and]
  constructor
  · rintro ⟨j, hj, h⟩
    exact ⟨j, hj, by omega⟩
  · rintro ⟨j, hj, h⟩
    exact ⟨j, hj, by omega⟩
theorem Res.alike {ρ : Env} {l a b : Nat} {K K' : Note → Bool} (h : Res ρ l a K) (h' : Res ρ l b K') (hk : ∀ x, x ∈ notes ρ l → K x = K' x) : notes ρ a = notes ρ b := by
  rw [h.2, h'.2]
  exact List.filter_congr fun x hx => by rw [hk x hx]
theorem P7_of {ρ : Env} (h : lawPre sh7 ρ) : OkSl ρ 0 :=
  have h : preC (sh7.flatMap (·.2)) 0 ρ := h
  okSl_of h.1
set_option maxRecDepth 10000 in
theorem spanl_sat (ρ : Env) (hpre : lawPre sh7 ρ.num) : Sat (lawPost sh7) lawSem [] ρ spanlOut := by
  have h0 : OkSl ρ 0 := P7_of (ρ := ρ.num) hpre
  unfold spanlOut
  refine Sat.call rfl trivial fun e0 _ => ?_
  replace h0 : OkSl (ρ.join 6 e0) 0 := h0
  clear hpre
  generalize ρ.join 6 e0 = q at *
  have hlo := lo7_in q
  have hnn := nn7_in q
  unfold lo7 at hlo
  unfold nn7 at hnn
  refine Sat.ob (by simp only [D.mod, D.wrap, D.le, D.lef, D.lt, D.ltf, D.eq, D.eqf, D.not, D.notf, D.and, D.andf, D.or, D.orf, D.inr, D.var, D.lit, D.cellB, D.beq, D.beqf, D.litI, D.varI, D.add, D.sub, D.mul, D.min, D.max, D.cellI, D.i64min, D.i64max]; omega) (Sat.ob (by simp only [D.mod, D.wrap, D.le, D.lef, D.lt, D.ltf, D.eq, D.eqf, D.not, D.notf, D.and, D.andf, D.or, D.orf, D.inr, D.var, D.lit, D.cellB, D.beq, D.beqf, D.litI, D.varI, D.add, D.sub, D.mul, D.min, D.max, D.cellI, D.i64min, D.i64max]; omega) (Sat.ob (by simp only [D.mod, D.wrap, D.le, D.lef, D.lt, D.ltf, D.eq, D.eqf, D.not, D.notf, D.and, D.andf, D.or, D.orf, D.inr, D.var, D.lit, D.cellB, D.beq, D.beqf, D.litI, D.varI, D.add, D.sub, D.mul, D.min, D.max, D.cellI, D.i64min, D.i64max]; omega) (Sat.ob (by simp only [D.mod, D.wrap, D.le, D.lef, D.lt, D.ltf, D.eq, D.eqf, D.not, D.notf, D.and, D.andf, D.or, D.orf, D.inr, D.var, D.lit, D.cellB, D.beq, D.beqf, D.litI, D.varI, D.add, D.sub, D.mul, D.min, D.max, D.cellI, D.i64min, D.i64max]; omega) (Sat.ob (nilOb h0) (Sat.ob (decide_eq_true h0.2.1) (Sat.br (fun _ => Sat.fin rfl) fun hl => ?_))))))
  have hP : OkSl q 0 ∧ q.iv 1 ≤ 60 := ⟨h0, by simp only [D.le, D.lef, D.lt, D.ltf, D.eq, D.eqf, D.not, D.notf, D.and, D.andf, D.or, D.orf, D.inr, D.var, D.lit, D.cellB, D.beq, D.beqf, D.litI, D.varI, D.add, D.sub, D.mul, D.min, D.max, D.cellI, D.i64min, D.i64max] at hl; exact hl⟩
  clear h0 hl hlo hnn
  refine Sat.loop (fun r => (OkSl r 0 ∧ r.iv 1 ≤ 60) ∧ (0 ≤ r.iv 6 ∧ r.iv 6 ≤ r.iv 1) ∧ ∀ j : Nat, (j : Int) < r.iv 6 → r.ic 3 j 0 5 ≤ r.ic 3 j 0 6) (fun r => (r.iv 1 - r.iv 6).toNat) ⟨hP, ⟨Int.le_refl 0, hP.1.2.1⟩, fun j hj => (by have : (j : Int) < 0 := hj; omega)⟩ fun e hI => ?_
  replace hI : (OkSl (q.join 6 e) 0 ∧ (q.join 6 e).iv 1 ≤ 60) ∧ (0 ≤ (q.join 6 e).iv 6 ∧ (q.join 6 e).iv 6 ≤ (q.join 6 e).iv 1) ∧ ∀ j : Nat, (j : Int) < (q.join 6 e).iv 6 → (q.join 6 e).ic 3 j 0 5 ≤ (q.join 6 e).ic 3 j 0 6 := hI
  obtain ⟨M, hM⟩ : ∃ M, M = ((q.join 6 e).num.iv 1 - (q.join 6 e).num.iv 6).toNat := ⟨_, rfl⟩
  rw [← hM]
  replace hM : M = ((q.join 6 e).iv 1 - (q.join 6 e).iv 6).toNat := hM
  clear hP
  generalize q.join 6 e = q at *
  obtain ⟨hP, ⟨i1, i2⟩, i3⟩ := hI
  refine Sat.br (fun hlt => ?_) (fun hge => ?_)
  · replace hlt : q.iv 6 < q.iv 1 := of_decide_eq_true hlt
    have h60 := hP.2
    refine Sat.ob (nilLt hP.1 (show 0 < q.iv 1 by omega)) (Sat.ob (decide_eq_true i1) (Sat.br (fun _ => Sat.fin rfl) fun hc => Sat.ob (by simp only [D.le, D.lef, D.lt, D.ltf, D.eq, D.eqf, D.not, D.notf, D.and, D.andf, D.or, D.orf, D.inr, D.var, D.lit, D.cellB, D.beq, D.beqf, D.litI, D.varI, D.add, D.sub, D.mul, D.min, D.max, D.cellI, D.i64min, D.i64max]; omega) (Sat.back rfl ⟨⟨hP, ⟨show 0 ≤ q.iv 6 + 1 from by omega, show q.iv 6 + 1 ≤ q.iv 1 from by omega⟩, fun j hj => ?_⟩, show (q.iv 1 - (q.iv 6 + 1)).toNat < M from by omega⟩)))
    replace hj : (j : Int) < q.iv 6 + 1 := hj
    show q.ic 3 j 0 5 ≤ q.ic 3 j 0 6
    by_cases h : j = (q.iv 6).toNat
    · subst h
      simp only [D.le, D.lef, D.lt, D.ltf, D.eq, D.eqf, D.not, D.notf, D.and, D.andf, D.or, D.orf, D.inr, D.var, D.lit, D.cellB, D.beq, D.beqf, D.litI, D.varI, D.add, D.sub, D.mul, D.min, D.max, D.cellI, D.i64min, D.i64max] at hc
      exact hc
    · exact i3 j (by omega)
  replace hge : ¬ q.iv 6 < q.iv 1 := of_decide_eq_false hge
  have hS : S7 q := ⟨hP.1, hP.2, fun j hj => i3 j (by omega)⟩
  clear hP i1 i2 i3 hge hM
  refine Sat.loop I7 (fun r => (nn7 r - r.iv 13).toNat) ?_ fun e hI => ?_
  · have := nn7_in q
    exact ⟨hS, ⟨Int.le_refl 0, show 0 ≤ nn7 q from by omega⟩, rfl, ⟨Int.le_refl 0, show (0 : Int) ≤ 9223372036854775807 by decide⟩, rfl, ⟨Int.le_refl 0, show (0 : Int) ≤ 9223372036854775807 by decide⟩, fun j hj => (by have : (j : Int) < 0 := hj; omega)⟩
  replace hI : I7 (q.join 7 e) := hI
  obtain ⟨N, hN⟩ : ∃ N, N = (nn7 (q.join 7 e).num - (q.join 7 e).num.iv 13).toNat := ⟨_, rfl⟩
  rw [← hN]
  replace hN : N = (nn7 (q.join 7 e) - (q.join 7 e).iv 13).toNat := hN
  clear hS
  generalize q.join 7 e = q at *
  have hlo := lo7_in q
  have hnn := nn7_in q
  obtain ⟨hS, ⟨i1, i2⟩, l1, ⟨c1, c2⟩, l2, ⟨d1, d2⟩, hcon⟩ := hI
  refine Sat.br (fun hlt => ?_) (fun hge => ?_)
  · replace hlt : q.iv 13 < nn7 q := of_decide_eq_true hlt
    refine Sat.ob (D.inr.mpr (show IntKind.i64.min ≤ lo7 q + q.iv 13 ∧ lo7 q + q.iv 13 ≤ IntKind.i64.max from by simp only [D.i64min, D.i64max]; omega)) (Sat.ob (by simp only [D.le, D.lef, D.lt, D.ltf, D.eq, D.eqf, D.not, D.notf, D.and, D.andf, D.or, D.orf, D.inr, D.var, D.lit, D.cellB, D.beq, D.beqf, D.litI, D.varI, D.add, D.sub, D.mul, D.min, D.max, D.cellI, D.i64min, D.i64max]; omega) (Sat.ob (by simp only [D.le, D.lef, D.lt, D.ltf, D.eq, D.eqf, D.not, D.notf, D.and, D.andf, D.or, D.orf, D.inr, D.var, D.lit, D.cellB, D.beq, D.beqf, D.litI, D.varI, D.add, D.sub, D.mul, D.min, D.max, D.cellI, D.i64min, D.i64max]; omega) (Sat.ob (decide_eq_true c1) (Sat.ob (decide_eq_true c2) (Sat.new fun e1 hf1 => ?_)))))
    have hc1 : (q.join 14 e1).iv 7 + 1 ≤ (q.join 14 e1).iv 14 ∧ (q.join 14 e1).iv 14 ≤ 9223372036854775807 := by
      have := hf1 _ (.head _)
      simp only [D.be, D.le, D.lef, D.lt, D.ltf, D.eq, D.eqf, D.not, D.notf, D.and, D.andf, D.or, D.orf, D.inr, D.var, D.lit, D.cellB, D.beq, D.beqf, D.litI, D.varI, D.add, D.sub, D.mul, D.min, D.max, D.cellI, D.i64min, D.i64max] at this
      exact this
    replace hS : S7 (q.join 14 e1) := hS
    replace hcon : C7 (q.join 14 e1) := hcon
    replace hN : N = (nn7 (q.join 14 e1) - (q.join 14 e1).iv 13).toNat := hN
    replace hlt : (q.join 14 e1).iv 13 < nn7 (q.join 14 e1) := hlt
    replace hnn : 1 ≤ nn7 (q.join 14 e1) ∧ nn7 (q.join 14 e1) ≤ 40 := hnn
    replace i1 : 0 ≤ (q.join 14 e1).iv 13 := i1
    replace l1 : (q.join 14 e1).iv 7 = (q.join 14 e1).iv 13 := l1
    replace l2 : (q.join 14 e1).iv 10 = (q.join 14 e1).iv 13 := l2
    replace d1 : (q.join 14 e1).iv 10 ≤ (q.join 14 e1).iv 11 := d1
    replace d2 : (q.join 14 e1).iv 11 ≤ 9223372036854775807 := d2
    clear c1 c2 hf1 i2 hlo
    generalize q.join 14 e1 = q at *
    refine Sat.ob (by simp only [D.le, D.lef, D.lt, D.ltf, D.eq, D.eqf, D.not, D.notf, D.and, D.andf, D.or, D.orf, D.inr, D.var, D.lit, D.cellB, D.beq, D.beqf, D.litI, D.varI, D.add, D.sub, D.mul, D.min, D.max, D.cellI, D.i64min, D.i64max]; omega) (Sat.ob (by simp only [D.le, D.lef, D.lt, D.ltf, D.eq, D.eqf, D.not, D.notf, D.and, D.andf, D.or, D.orf, D.inr, D.var, D.lit, D.cellB, D.beq, D.beqf, D.litI, D.varI, D.add, D.sub, D.mul, D.min, D.max, D.cellI, D.i64min, D.i64max]; omega) (Sat.ob (decide_eq_true d1) (Sat.ob (decide_eq_true d2) (Sat.new fun e2 hf2 => ?_))))
    have hc2 : (q.join 15 e2).iv 10 + 1 ≤ (q.join 15 e2).iv 15 ∧ (q.join 15 e2).iv 15 ≤ 9223372036854775807 := by
      have := hf2 _ (.head _)
      simp only [D.be, D.le, D.lef, D.lt, D.ltf, D.eq, D.eqf, D.not, D.notf, D.and, D.andf, D.or, D.orf, D.inr, D.var, D.lit, D.cellB, D.beq, D.beqf, D.litI, D.varI, D.add, D.sub, D.mul, D.min, D.max, D.cellI, D.i64min, D.i64max] at this
      exact this
    replace hS : S7 (q.join 15 e2) := hS
    replace hcon : C7 (q.join 15 e2) := hcon
    replace hN : N = (nn7 (q.join 15 e2) - (q.join 15 e2).iv 13).toNat := hN
    replace hlt : (q.join 15 e2).iv 13 < nn7 (q.join 15 e2) := hlt
    replace hnn : 1 ≤ nn7 (q.join 15 e2) ∧ nn7 (q.join 15 e2) ≤ 40 := hnn
    replace i1 : 0 ≤ (q.join 15 e2).iv 13 := i1
    replace l1 : (q.join 15 e2).iv 7 = (q.join 15 e2).iv 13 := l1
    replace l2 : (q.join 15 e2).iv 10 = (q.join 15 e2).iv 13 := l2
    replace hc1 : (q.join 15 e2).iv 7 + 1 ≤ (q.join 15 e2).iv 14 ∧ (q.join 15 e2).iv 14 ≤ 9223372036854775807 := hc1
    clear d1 d2 hf2
    generalize q.join 15 e2 = q at *
    refine Sat.ob (by simp only [D.le, D.lef, D.lt, D.ltf, D.eq, D.eqf, D.not, D.notf, D.and, D.andf, D.or, D.orf, D.inr, D.var, D.lit, D.cellB, D.beq, D.beqf, D.litI, D.varI, D.add, D.sub, D.mul, D.min, D.max, D.cellI, D.i64min, D.i64max]; omega) (Sat.back rfl ⟨⟨hS, ⟨show 0 ≤ q.iv 13 + 1 from by omega, show q.iv 13 + 1 ≤ nn7 q from by omega⟩, show q.iv 7 + 1 = q.iv 13 + 1 from by omega, hc1, show q.iv 10 + 1 = q.iv 13 + 1 from by omega, hc2, fun j hj => ?_⟩, show (nn7 q - (q.iv 13 + 1)).toNat < N from by omega⟩)
    replace hj : (j : Int) < q.iv 13 + 1 := hj
    by_cases h : j = (q.iv 13).toNat
    · subst h
      have h1 : ((q.iv 13).toNat : Int) = q.iv 13 := by omega
      simp only [h1]
      simp [Sub.nenv, assoc, CV.I, CV.B, upsI, upsB, Seg.I, Seg.B, SC.I, SC.B, IE.den, BE.den, l1, l2, lo7]
    · have h1 : ¬ (q.iv 13).toNat = j := fun hh => h hh.symm
      have h2 := hcon j (by omega)
      simp only [lo7] at h2
      simp [Sub.nenv, assoc, CV.I, CV.B, upsI, upsB, Seg.I, Seg.B, SC.I, SC.B, IE.den, BE.den, l1, l2, lo7, h1, h2]
  replace hge : ¬ q.iv 13 < nn7 q := of_decide_eq_false hge
  have hn13 : q.iv 13 = nn7 q := by omega
  have hK := annI7 hn13 l1 hnn hcon
  have hKP := annP7 hn13 l2 hnn hcon
  have hcap : q.iv 7 ≤ q.iv 8 ∧ q.iv 8 ≤ 9223372036854775807 ∧ 0 ≤ q.iv 7 ∧ q.iv 7 ≤ 40 := ⟨c1, c2, by omega, by omega⟩
  have hcap2 : q.iv 10 ≤ q.iv 11 ∧ q.iv 11 ≤ 9223372036854775807 ∧ 0 ≤ q.iv 10 ∧ q.iv 10 ≤ 40 := ⟨d1, d2, by omega, by omega⟩
  clear hge hn13 l1 l2 c1 c2 d1 d2 hcon i1 i2 hN
  refine Sat.ob (D.inr.mpr (show IntKind.i64.min ≤ lo7 q + nn7 q ∧ lo7 q + nn7 q ≤ IntKind.i64.max from by simp only [D.i64min, D.i64max]; omega)) (Sat.ob (D.inr.mpr (show IntKind.i64.min ≤ lo7 q + nn7 q - 1 ∧ lo7 q + nn7 q - 1 ≤ IntKind.i64.max from by simp only [D.i64min, D.i64max]; omega)) ?_)
  refine Sat.call rfl ⟨hS.1, (show q.iv 1 ≤ 1000000 from Int.le_trans hS.2.1 (by decide)), ⟨fun h => (Bool.false_ne_true h).elim, show (0 : Int) ≤ 1 by decide, Int.le_refl _, show (1 : Int) ≤ 9223372036854775807 by decide⟩, show (1 : Int) ≤ 1000000 by decide⟩ fun e1 k1 => ?_
  replace hS : S7 (q.join 14 e1) := hS
  replace hlo : 1 ≤ lo7 (q.join 14 e1) ∧ lo7 (q.join 14 e1) ≤ 100 := hlo
  replace hnn : 1 ≤ nn7 (q.join 14 e1) ∧ nn7 (q.join 14 e1) ≤ 40 := hnn
  replace hK : annL (q.join 14 e1) 9 ((q.join 14 e1).iv 7) = erasFrom (lo7 (q.join 14 e1)) (nn7 (q.join 14 e1)) := hK
  replace hKP : annLP (q.join 14 e1) 12 ((q.join 14 e1).iv 10) = spansFrom (lo7 (q.join 14 e1)) (nn7 (q.join 14 e1)) := hKP
  replace hcap : (q.join 14 e1).iv 7 ≤ (q.join 14 e1).iv 8 ∧ (q.join 14 e1).iv 8 ≤ 9223372036854775807 ∧ 0 ≤ (q.join 14 e1).iv 7 ∧ (q.join 14 e1).iv 7 ≤ 40 := hcap
  replace hcap2 : (q.join 14 e1).iv 10 ≤ (q.join 14 e1).iv 11 ∧ (q.join 14 e1).iv 11 ≤ 9223372036854775807 ∧ 0 ≤ (q.join 14 e1).iv 10 ∧ (q.join 14 e1).iv 10 ≤ 40 := hcap2
  have r14 : Res (q.join 14 e1) 0 14 (keepP [(true, lo7 (q.join 14 e1), lo7 (q.join 14 e1) + nn7 (q.join 14 e1) - 1)]) :=
    ⟨k1.1, Eq.trans k1.2.1 (res_eq (rfl) (by exact notes_same rfl fun i _ => by simp [noteAt, conEnv, spansCon, Env.join, Sub.nenv, assoc, CV.I, CV.B, upsI, upsB, Seg.I, Seg.B, SC.I, SC.B, IE.den, BE.den]))⟩
  clear k1
  generalize q.join 14 e1 = q at *
  refine Sat.call rfl ⟨hS.1, (show q.iv 1 ≤ 1000000 from Int.le_trans hS.2.1 (by decide)), ⟨fun h => (Bool.false_ne_true h).elim, hcap.2.2.1, hcap.1, hcap.2.1⟩, show q.iv 7 ≤ 1000000 from by omega⟩ fun e2 k2 => ?_
  replace hS : S7 (q.join 22 e2) := hS
  replace hlo : 1 ≤ lo7 (q.join 22 e2) ∧ lo7 (q.join 22 e2) ≤ 100 := hlo
  replace hnn : 1 ≤ nn7 (q.join 22 e2) ∧ nn7 (q.join 22 e2) ≤ 40 := hnn
  replace hK : annL (q.join 22 e2) 9 ((q.join 22 e2).iv 7) = erasFrom (lo7 (q.join 22 e2)) (nn7 (q.join 22 e2)) := hK
  replace hKP : annLP (q.join 22 e2) 12 ((q.join 22 e2).iv 10) = spansFrom (lo7 (q.join 22 e2)) (nn7 (q.join 22 e2)) := hKP
  replace hcap : (q.join 22 e2).iv 7 ≤ (q.join 22 e2).iv 8 ∧ (q.join 22 e2).iv 8 ≤ 9223372036854775807 ∧ 0 ≤ (q.join 22 e2).iv 7 ∧ (q.join 22 e2).iv 7 ≤ 40 := hcap
  replace hcap2 : (q.join 22 e2).iv 10 ≤ (q.join 22 e2).iv 11 ∧ (q.join 22 e2).iv 11 ≤ 9223372036854775807 ∧ 0 ≤ (q.join 22 e2).iv 10 ∧ (q.join 22 e2).iv 10 ≤ 40 := hcap2
  replace r14 : Res (q.join 22 e2) 0 14 (keepP [(true, lo7 (q.join 22 e2), lo7 (q.join 22 e2) + nn7 (q.join 22 e2) - 1)]) := r14
  have r22 : Res (q.join 22 e2) 0 22 (keepE (erasFrom (lo7 (q.join 22 e2)) (nn7 (q.join 22 e2)))) :=
    ⟨k2.1, Eq.trans k2.2.1 (res_eq (congrArg keepE (Eq.trans (by exact range_map_congr fun i _ => by simp [conEnv, erasCon, Env.join, Sub.nenv, assoc, CV.I, CV.B, upsI, upsB, Seg.I, Seg.B, SC.I, SC.B, IE.den, BE.den]) hK)) (by exact notes_same rfl fun i _ => by simp [noteAt, conEnv, erasCon, Env.join, Sub.nenv, assoc, CV.I, CV.B, upsI, upsB, Seg.I, Seg.B, SC.I, SC.B, IE.den, BE.den]))⟩
  clear k2
  generalize q.join 22 e2 = q at *
  refine Sat.call rfl ⟨hS.1, (show q.iv 1 ≤ 1000000 from Int.le_trans hS.2.1 (by decide)), ⟨fun h => (Bool.false_ne_true h).elim, hcap2.2.2.1, hcap2.1, hcap2.2.1⟩, show q.iv 10 ≤ 1000000 from by omega⟩ fun e3 k3 => ?_
  replace hS : S7 (q.join 30 e3) := hS
  replace hlo : 1 ≤ lo7 (q.join 30 e3) ∧ lo7 (q.join 30 e3) ≤ 100 := hlo
  replace hnn : 1 ≤ nn7 (q.join 30 e3) ∧ nn7 (q.join 30 e3) ≤ 40 := hnn
  replace hK : annL (q.join 30 e3) 9 ((q.join 30 e3).iv 7) = erasFrom (lo7 (q.join 30 e3)) (nn7 (q.join 30 e3)) := hK
  replace hKP : annLP (q.join 30 e3) 12 ((q.join 30 e3).iv 10) = spansFrom (lo7 (q.join 30 e3)) (nn7 (q.join 30 e3)) := hKP
  replace hcap : (q.join 30 e3).iv 7 ≤ (q.join 30 e3).iv 8 ∧ (q.join 30 e3).iv 8 ≤ 9223372036854775807 ∧ 0 ≤ (q.join 30 e3).iv 7 ∧ (q.join 30 e3).iv 7 ≤ 40 := hcap
  replace hcap2 : (q.join 30 e3).iv 10 ≤ (q.join 30 e3).iv 11 ∧ (q.join 30 e3).iv 11 ≤ 9223372036854775807 ∧ 0 ≤ (q.join 30 e3).iv 10 ∧ (q.join 30 e3).iv 10 ≤ 40 := hcap2
  replace r14 : Res (q.join 30 e3) 0 14 (keepP [(true, lo7 (q.join 30 e3), lo7 (q.join 30 e3) + nn7 (q.join 30 e3) - 1)]) := r14
  replace r22 : Res (q.join 30 e3) 0 22 (keepE (erasFrom (lo7 (q.join 30 e3)) (nn7 (q.join 30 e3)))) := r22
  have r30 : Res (q.join 30 e3) 0 30 (keepP (spansFrom (lo7 (q.join 30 e3)) (nn7 (q.join 30 e3)))) :=
    ⟨k3.1, Eq.trans k3.2.1 (res_eq (congrArg keepP (Eq.trans (by exact range_map_congr fun i _ => by simp [conEnv, spansCon, Env.join, Sub.nenv, assoc, CV.I, CV.B, upsI, upsB, Seg.I, Seg.B, SC.I, SC.B, IE.den, BE.den]) hKP)) (by exact notes_same rfl fun i _ => by simp [noteAt, conEnv, spansCon, Env.join, Sub.nenv, assoc, CV.I, CV.B, upsI, upsB, Seg.I, Seg.B, SC.I, SC.B, IE.den, BE.den]))⟩
  clear k3
  generalize q.join 30 e3 = q at *
  refine Sat.call rfl ⟨r14.1, show q.iv 15 ≤ 1000000 from Int.le_trans (r14.len hS.1.2.1) (Int.le_trans hS.2.1 (by decide)), r22.1, show q.iv 23 ≤ 1000000 from Int.le_trans (r22.len hS.1.2.1) (Int.le_trans hS.2.1 (by decide))⟩ fun e4 k4 => ?_
  have g1 : (q.join 38 e4).bv 38 = true :=
    same_use k4 (by exact notes_same rfl fun i _ => by simp [noteAt, conEnv, sameCon, Env.join, Sub.nenv, assoc, CV.I, CV.B, upsI, upsB, Seg.I, Seg.B, SC.I, SC.B, IE.den, BE.den]) (by exact notes_same rfl fun i _ => by simp [noteAt, conEnv, sameCon, Env.join, Sub.nenv, assoc, CV.I, CV.B, upsI, upsB, Seg.I, Seg.B, SC.I, SC.B, IE.den, BE.den]) (Res.alike r14 r22 fun x hx => keep_one hlo.1 hnn.1 (life hS.2.2 x hx))
  clear k4
  replace hS : S7 (q.join 38 e4) := hS
  replace hlo : 1 ≤ lo7 (q.join 38 e4) ∧ lo7 (q.join 38 e4) ≤ 100 := hlo
  replace hnn : 1 ≤ nn7 (q.join 38 e4) ∧ nn7 (q.join 38 e4) ≤ 40 := hnn
  replace hK : annL (q.join 38 e4) 9 ((q.join 38 e4).iv 7) = erasFrom (lo7 (q.join 38 e4)) (nn7 (q.join 38 e4)) := hK
  replace hKP : annLP (q.join 38 e4) 12 ((q.join 38 e4).iv 10) = spansFrom (lo7 (q.join 38 e4)) (nn7 (q.join 38 e4)) := hKP
  replace hcap : (q.join 38 e4).iv 7 ≤ (q.join 38 e4).iv 8 ∧ (q.join 38 e4).iv 8 ≤ 9223372036854775807 ∧ 0 ≤ (q.join 38 e4).iv 7 ∧ (q.join 38 e4).iv 7 ≤ 40 := hcap
  replace hcap2 : (q.join 38 e4).iv 10 ≤ (q.join 38 e4).iv 11 ∧ (q.join 38 e4).iv 11 ≤ 9223372036854775807 ∧ 0 ≤ (q.join 38 e4).iv 10 ∧ (q.join 38 e4).iv 10 ≤ 40 := hcap2
  replace r14 : Res (q.join 38 e4) 0 14 (keepP [(true, lo7 (q.join 38 e4), lo7 (q.join 38 e4) + nn7 (q.join 38 e4) - 1)]) := r14
  replace r22 : Res (q.join 38 e4) 0 22 (keepE (erasFrom (lo7 (q.join 38 e4)) (nn7 (q.join 38 e4)))) := r22
  replace r30 : Res (q.join 38 e4) 0 30 (keepP (spansFrom (lo7 (q.join 38 e4)) (nn7 (q.join 38 e4)))) := r30
  generalize q.join 38 e4 = q at *
  refine Sat.br (fun _ => ?_) (fun hf => (Bool.false_ne_true (hf.symm.trans g1)).elim)
  refine Sat.call rfl ⟨r22.1, show q.iv 23 ≤ 1000000 from Int.le_trans (r22.len hS.1.2.1) (Int.le_trans hS.2.1 (by decide)), r30.1, show q.iv 31 ≤ 1000000 from Int.le_trans (r30.len hS.1.2.1) (Int.le_trans hS.2.1 (by decide))⟩ fun e5 k5 => ?_
  have g2 : (q.join 39 e5).bv 39 = true :=
    same_use k5 (by exact notes_same rfl fun i _ => by simp [noteAt, conEnv, sameCon, Env.join, Sub.nenv, assoc, CV.I, CV.B, upsI, upsB, Seg.I, Seg.B, SC.I, SC.B, IE.den, BE.den]) (by exact notes_same rfl fun i _ => by simp [noteAt, conEnv, sameCon, Env.join, Sub.nenv, assoc, CV.I, CV.B, upsI, upsB, Seg.I, Seg.B, SC.I, SC.B, IE.den, BE.den]) (Res.alike r22 r30 fun x _ => keep_each hlo.1 x)
  clear k5
  replace hS : S7 (q.join 39 e5) := hS
  replace hlo : 1 ≤ lo7 (q.join 39 e5) ∧ lo7 (q.join 39 e5) ≤ 100 := hlo
  replace hnn : 1 ≤ nn7 (q.join 39 e5) ∧ nn7 (q.join 39 e5) ≤ 40 := hnn
  replace hK : annL (q.join 39 e5) 9 ((q.join 39 e5).iv 7) = erasFrom (lo7 (q.join 39 e5)) (nn7 (q.join 39 e5)) := hK
  replace hKP : annLP (q.join 39 e5) 12 ((q.join 39 e5).iv 10) = spansFrom (lo7 (q.join 39 e5)) (nn7 (q.join 39 e5)) := hKP
  replace hcap : (q.join 39 e5).iv 7 ≤ (q.join 39 e5).iv 8 ∧ (q.join 39 e5).iv 8 ≤ 9223372036854775807 ∧ 0 ≤ (q.join 39 e5).iv 7 ∧ (q.join 39 e5).iv 7 ≤ 40 := hcap
  replace hcap2 : (q.join 39 e5).iv 10 ≤ (q.join 39 e5).iv 11 ∧ (q.join 39 e5).iv 11 ≤ 9223372036854775807 ∧ 0 ≤ (q.join 39 e5).iv 10 ∧ (q.join 39 e5).iv 10 ≤ 40 := hcap2
  replace r14 : Res (q.join 39 e5) 0 14 (keepP [(true, lo7 (q.join 39 e5), lo7 (q.join 39 e5) + nn7 (q.join 39 e5) - 1)]) := r14
  replace r22 : Res (q.join 39 e5) 0 22 (keepE (erasFrom (lo7 (q.join 39 e5)) (nn7 (q.join 39 e5)))) := r22
  replace r30 : Res (q.join 39 e5) 0 30 (keepP (spansFrom (lo7 (q.join 39 e5)) (nn7 (q.join 39 e5)))) := r30
  replace g1 : (q.join 39 e5).bv 38 = true := g1
  generalize q.join 39 e5 = q at *
  exact Sat.fin g2
theorem spanl_con {P : Program} (hT : TabOK P tab) : ConOK P (lawCon 7 sh7) (lawPre sh7) (lawPost sh7) :=
  con_ok hT (E := spanlE) (cs := lawSem) rfl (lawSem_ok hT) schedOK rfl spanl_run (by kernel_rfl) (fun ρ _ p hp => by cases hp) spanl_sat
end Go.Proofs.Ytniacabgcjccdaa
