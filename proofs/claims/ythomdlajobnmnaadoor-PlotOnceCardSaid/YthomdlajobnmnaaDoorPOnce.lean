/- 'PlotOnce': no slot is given that isn't free -/
import Derived.Test.YthomdlajobnmnaaDoorPOncePl
set_option linter.unusedSimpArgs false
set_option linter.unusedVariables false
namespace Go.Proofs.YthomdlajobnmnaaDoor
open Go.Rex
theorem tmT (x n : Int) (h : 0 < n) (hx : 0 ≤ x) : 0 ≤ x.tmod n ∧ x.tmod n < n := by
  rw [Int.tmod_eq_emod_of_nonneg hx]
  exact ⟨Int.emod_nonneg _ (by omega), Int.emod_lt_of_pos _ h⟩
theorem wrT (x : Int) : 0 ≤ IntKind.u64.wrap x := by
  rw [IntKind.wrap_u64]
  omega
def Nt (q : Env) : Int := (IntKind.u64.wrap (q.iv 0)).tmod 12
theorem nt_rng (q : Env) : 0 ≤ Nt q ∧ Nt q < 12 := tmT _ 12 (by decide) (wrT _)
/-- the words that were given -/
def Gr (ρ : Env) (k : Nat) : Wd := ⟨ρ.ic 17 k 0 0, ρ.ic 17 k 0 1, ρ.ic 17 k 0 2, ρ.ic 17 k 0 3, ρ.bc 17 k 0 4⟩
/-- what is used -/
def Ur (ρ : Env) (j : Nat) : Int := ρ.ic 20 j 0 0
def acT (q : Env) : Ac := ⟨q.ic 4 (q.iv 19).toNat 0 0, q.ic 4 (q.iv 19).toNat 0 1, q.ic 4 (q.iv 19).toNat 0 2, q.ic 4 (q.iv 19).toNat 0 3, ⟨q.ic 4 (q.iv 19).toNat 0 4, q.ic 4 (q.iv 19).toNat 0 5, q.ic 4 (q.iv 19).toNat 0 6, q.ic 4 (q.iv 19).toNat 0 7, q.bc 4 (q.iv 19).toNat 0 8⟩, ⟨q.ic 4 (q.iv 19).toNat 0 9, q.ic 4 (q.iv 19).toNat 0 10, q.ic 4 (q.iv 19).toNat 0 11, q.ic 4 (q.iv 19).toNat 0 12, q.bc 4 (q.iv 19).toNat 0 13⟩⟩
/-- what an access may answer: the heap behind it, is there a reply, the word, is it well -/
structure StepOK (P : PS) (is : Bool) (n g l s : Int) (G : Nat → Wd) (U : Nat → Int) (w : Wd) (b : Bool) (a : Ac) : Prop where
  no : is = false → On P n g l (s + 1) G U
  give : is = true → a.kind = 4 → b = true → OnGive P n g l s G U w
  full : is = true → a.kind = 4 → b = false → l = n
  take : is = true → a.kind = 5 → b = true → OnTake P n g l s G U a.old
  rest : is = true → ¬ (a.kind = 4 ∧ b = true) → ¬ (a.kind = 5 ∧ b = true) → On P n g l (s + 1) G U
theorem On.stepOK {p : PS} {n g l s : Int} {G : Nat → Wd} {U : Nat → Int} (h : On p n g l s G U) (a : Ac) : StepOK (p.act a).1 (p.act a).2.isSome n g l s G U ((p.act a).2.getD Rp.no).word ((p.act a).2.getD Rp.no).ok a := by
  rcases h.step a with ⟨h1, h2⟩ | ⟨w, b, h1, h2, h3, h4, h5⟩
  · rw [h1]
    exact ⟨fun _ => h2, fun h => (by cases h), fun h => (by cases h), fun h => (by cases h), fun h => (by cases h)⟩
  · rw [h1]
    exact ⟨fun h => (by cases h), fun _ => h2, fun _ => h3, fun _ => h4, fun _ => h5⟩
theorem OnGive.num {P : PS} {n g l s : Int} {G : Nat → Wd} {U : Nat → Int} {w : Wd} (h : OnGive P n g l s G U w) : ∃ G' U', On P n (g + 1) (l + 1) (s + 1) G' U' := by
  refine ⟨fun k => if (k : Int) < g then G k else w, fun j => if j = w.slot.toNat then w.gen else U j, h.2.2.2 _ _ (fun k hk => if_pos hk) (if_neg (by omega)) (fun j _ => rfl)⟩
theorem OnTake.num {P : PS} {n g l s : Int} {G : Nat → Wd} {U : Nat → Int} {w : Wd} (h : OnTake P n g l s G U w) : ∃ U', On P n g (l - 1) (s + 1) G U' :=
  ⟨fun j => if j = w.slot.toNat then 0 else U j, h.2.2 _ (fun j _ => rfl)⟩
theorem On.rng {p : PS} {n g l s : Int} {G : Nat → Wd} {U : Nat → Int} (h : On p n g l s G U) : 0 ≤ l ∧ l ≤ n ∧ 0 ≤ p.nf := by
  have h1 := h.used
  have h2 := h.live
  have h3 := h.ok.nf
  omega
noncomputable def ponceE : Ex := { sched := sched, loops := [L6, L6k, L19], cons := [awakeP, newCon, doCon], fin := lawConR 27 ssP 6 rtP 6 [shI, shAcs] }
def ponceOut : Out :=
  .call 0 { lo := 0, lob := 0, bk := [(9, { blk := 9 }), (7, { blk := 7 }), (5, { blk := 5 }), (3, { blk := 3 }), (1, { blk := 1 }), (10, { blk := 10 }), (8, { blk := 8 }), (6, { blk := 6 }), (4, { blk := 4 }), (2, { blk := 2 }), (0, { blk := 0 })] } 5 <|
   .ob (.inr .i64 (.mod (.wrap .u64 (.var 0)) (.lit 12))) <|
   .call 1 { lo := 0, lob := 0, iv := [(1, (.lit 4)), (0, (.mod (.wrap .u64 (.var 0)) (.lit 12)))] } 5 <|
   .loop 15 { lo := 15, lob := 19, iv := [(29, (.var 9)), (28, (.var 8)), (26, (.var 7)), (25, (.var 6)), (19, (.lit 0)), (18, (.lit 0)), (16, (.lit 0)), (15, (.lit 0))], bv := [(30, (.var 10)), (24, (.var 5))], ct := [(27, .up { r := 14, n1 := (.var 6), s1 := 1, ks := [.int .i64] } 0 [] (.lit 0)), (17, .ex [] 5 0 0), (20, .up { r := 0, n1 := (.lit 13), s1 := 1, ks := [.int .i64], z := true } 0 [⟨0, (.lit 12), (.lit 0), 0, .int .i64 (.lit 0)⟩, ⟨0, (.lit 11), (.lit 0), 0, .int .i64 (.lit 0)⟩, ⟨0, (.lit 10), (.lit 0), 0, .int .i64 (.lit 0)⟩, ⟨0, (.lit 9), (.lit 0), 0, .int .i64 (.lit 0)⟩, ⟨0, (.lit 8), (.lit 0), 0, .int .i64 (.lit 0)⟩, ⟨0, (.lit 7), (.lit 0), 0, .int .i64 (.lit 0)⟩, ⟨0, (.lit 6), (.lit 0), 0, .int .i64 (.lit 0)⟩, ⟨0, (.lit 5), (.lit 0), 0, .int .i64 (.lit 0)⟩, ⟨0, (.lit 4), (.lit 0), 0, .int .i64 (.lit 0)⟩, ⟨0, (.lit 3), (.lit 0), 0, .int .i64 (.lit 0)⟩, ⟨0, (.lit 2), (.lit 0), 0, .int .i64 (.lit 0)⟩, ⟨0, (.lit 1), (.lit 0), 0, .int .i64 (.lit 0)⟩, ⟨0, (.lit 0), (.lit 0), 0, .int .i64 (.lit 0)⟩] (.lit 0)), (23, .up { r := 13, n1 := (.mod (.wrap .u64 (.var 0)) (.lit 12)), s1 := 52, n2 := 10, s2 := 5, lo := 2, ks := [.int .i64, .int .i64, .int .i64, .int .i64, .bool] } 1 [] (.lit 0)), (22, .up { r := 12, n1 := (.mod (.wrap .u64 (.var 0)) (.lit 12)), s1 := 52, ks := [.int .i64, .bool] } 0 [] (.lit 0)), (21, .up { r := 11, n1 := (.lit 4), s1 := 5, ks := [.int .i64, .int .i64, .int .i64, .int .i64, .bool] } 0 [] (.lit 0))], bk := [(21, { blk := 16 }), (20, { blk := 15, i1 := (.lit 0), s1 := 1 }), (19, { blk := 17, i1 := (.lit 0), s1 := 5 })] } <|
   .ob (.or (.not (.var 1)) (.ieq (.var 2) (.lit 0))) <|
   .ob (.ile (.lit 0) (.var 2)) <|
   .br (.and (.ilt (.var 19) (.var 2)) (.ilt (.var 19) (.lit 200)))
   (.ob (.not (.var 1)) <|
    .ob (.ile (.lit 0) (.var 19)) <|
    .call 2 { lo := 0, lob := 0, iv := [(20, (.var 29)), (19, (.var 28)), (18, (.var 26)), (17, (.var 25)), (15, (.mod (.wrap .u64 (.var 0)) (.lit 12))), (14, (.lit 4)), (12, (.cell 4 (.var 19) (.lit 0) 12)), (11, (.cell 4 (.var 19) (.lit 0) 11)), (10, (.cell 4 (.var 19) (.lit 0) 10)), (9, (.cell 4 (.var 19) (.lit 0) 9)), (7, (.cell 4 (.var 19) (.lit 0) 7)), (6, (.cell 4 (.var 19) (.lit 0) 6)), (5, (.cell 4 (.var 19) (.lit 0) 5)), (4, (.cell 4 (.var 19) (.lit 0) 4)), (3, (.cell 4 (.var 19) (.lit 0) 3)), (2, (.cell 4 (.var 19) (.lit 0) 2)), (1, (.cell 4 (.var 19) (.lit 0) 1)), (0, (.cell 4 (.var 19) (.lit 0) 0))], bv := [(21, (.var 30)), (16, (.var 24)), (13, (.cell 4 (.var 19) (.lit 0) 13)), (8, (.cell 4 (.var 19) (.lit 0) 8))], ct := [(25, .up { r := 27, n1 := (.var 25), s1 := 1, ks := [.int .i64] } 0 [] (.lit 0)), (24, .up { r := 23, n1 := (.mod (.wrap .u64 (.var 0)) (.lit 12)), s1 := 52, n2 := 10, s2 := 5, lo := 2, ks := [.int .i64, .int .i64, .int .i64, .int .i64, .bool] } 1 [] (.lit 0)), (23, .up { r := 22, n1 := (.mod (.wrap .u64 (.var 0)) (.lit 12)), s1 := 52, ks := [.int .i64, .bool] } 0 [] (.lit 0)), (22, .up { r := 21, n1 := (.lit 4), s1 := 5, ks := [.int .i64, .int .i64, .int .i64, .int .i64, .bool] } 0 [] (.lit 0))], bk := [(12, { blk := 21 }), (11, { blk := 20, i1 := (.lit 0), s1 := 1 }), (10, { blk := 14, i1 := (.lit 0), s1 := 52 }), (9, { blk := 13, i1 := (.lit 0), s1 := 5 }), (7, { blk := 9 }), (5, { blk := 7 }), (3, { blk := 5 }), (1, { blk := 1 }), (6, { blk := 8 }), (4, { blk := 6 }), (2, { blk := 4 }), (0, { blk := 0 }), (8, { blk := 12 })] } 31 <|
    .br (.not (.var 37))
    (.ob (.inr .i64 (.add (.var 19) (.lit 1))) <|
     .back 0 { lo := 15, lob := 19, iv := [(29, (.var 42)), (28, (.var 41)), (26, (.var 40)), (25, (.var 39)), (19, (.add (.var 19) (.lit 1))), (18, (.var 18)), (16, (.var 16)), (15, (.var 15))], bv := [(30, (.var 43)), (24, (.var 38))], ct := [(27, .up { r := 47, n1 := (.var 39), s1 := 1, ks := [.int .i64] } 0 [] (.lit 0)), (17, .up { r := 17, n1 := (.var 15), s1 := 5, ks := [.int .i64, .int .i64, .int .i64, .int .i64, .bool] } 0 [] (.lit 0)), (20, .up { r := 20, n1 := (.lit 13), s1 := 1, ks := [.int .i64] } 0 [] (.lit 0)), (23, .up { r := 46, n1 := (.mod (.wrap .u64 (.var 0)) (.lit 12)), s1 := 52, n2 := 10, s2 := 5, lo := 2, ks := [.int .i64, .int .i64, .int .i64, .int .i64, .bool] } 1 [] (.lit 0)), (22, .up { r := 45, n1 := (.mod (.wrap .u64 (.var 0)) (.lit 12)), s1 := 52, ks := [.int .i64, .bool] } 0 [] (.lit 0)), (21, .up { r := 44, n1 := (.lit 4), s1 := 5, ks := [.int .i64, .int .i64, .int .i64, .int .i64, .bool] } 0 [] (.lit 0))], bk := [(21, { blk := 24 }), (20, { blk := 23, i1 := (.lit 0), s1 := 1 }), (19, { blk := 19, i1 := (.lit 0), s1 := 5 })] })
    (.br (.and (.ieq (.cell 4 (.var 19) (.lit 0) 0) (.lit 4)) (.var 36))
     (.ob (.or (.or (.ilt (.var 31) (.lit 1)) (.ilt (.mod (.wrap .u64 (.var 0)) (.lit 12)) (.var 31))) (.ile (.lit 0) (.var 31))) <|
      .ob (.or (.or (.ilt (.var 31) (.lit 1)) (.ilt (.mod (.wrap .u64 (.var 0)) (.lit 12)) (.var 31))) (.ilt (.var 31) (.lit 13))) <|
      .br (.or (.or (.ilt (.var 31) (.lit 1)) (.ilt (.mod (.wrap .u64 (.var 0)) (.lit 12)) (.var 31))) (.not (.ieq (.cell 20 (.var 31) (.lit 0) 0) (.lit 0))))
      (.fin { lo := 5, lob := 12, bv := [(5, (.lit false))] })
      (.loop 48 { lo := 48, lob := 26, iv := [(48, (.lit 0))] } <|
       .ob (.ile (.lit 0) (.var 15)) <|
       .br (.ilt (.var 48) (.var 15))
       (.ob (.ile (.lit 0) (.var 48)) <|
        .br (.and (.ieq (.cell 17 (.var 48) (.lit 0) 0) (.var 31)) (.and (.ieq (.cell 17 (.var 48) (.lit 0) 1) (.var 32)) (.and (.ieq (.cell 17 (.var 48) (.lit 0) 2) (.var 33)) (.and (.ieq (.cell 17 (.var 48) (.lit 0) 3) (.var 34)) (.beq (.cell 17 (.var 48) (.lit 0) 4) (.var 35))))))
        (.fin { lo := 5, lob := 12, bv := [(5, (.lit false))] })
        (.ob (.inr .i64 (.add (.var 48) (.lit 1))) <|
         .back 0 { lo := 48, lob := 26, iv := [(48, (.add (.var 48) (.lit 1)))] }))
       (.ob (.ile (.mul (.add (.var 15) (.lit 1)) (.lit 40)) (.lit 140737488355328)) <|
        .ob (.ile (.var 15) (.var 16)) <|
        .ob (.ile (.var 16) (.lit 9223372036854775807)) <|
        .new 49 [.be (.and (.ile (.add (.var 15) (.lit 1)) (.var 49)) (.ile (.var 49) (.lit 9223372036854775807)))] <|
        .ob (.ile (.lit 0) (.var 31)) <|
        .ob (.ilt (.var 31) (.lit 13)) <|
        .ob (.inr .i64 (.add (.var 18) (.lit 1))) <|
        .ob (.ile (.lit 0) (.mod (.wrap .u64 (.var 0)) (.lit 12))) <|
        .ob (.or (.not (.var 38)) (.ieq (.var 39) (.lit 0))) <|
        .ob (.ile (.lit 0) (.var 39)) <|
        .ob (.inr .i64 (.sub (.mod (.wrap .u64 (.var 0)) (.lit 12)) (.var 39))) <|
        .br (.ieq (.sub (.mod (.wrap .u64 (.var 0)) (.lit 12)) (.var 39)) (.add (.var 18) (.lit 1)))
        (.ob (.ile (.lit 0) (.add (.var 15) (.lit 1))) <|
         .br (.not (.ieq (.var 42) (.add (.var 15) (.lit 1))))
         (.fin { lo := 5, lob := 12, bv := [(5, (.lit false))] })
         (.ob (.inr .i64 (.add (.var 19) (.lit 1))) <|
          .back 1 { lo := 15, lob := 19, iv := [(29, (.var 42)), (28, (.var 41)), (26, (.var 40)), (25, (.var 39)), (19, (.add (.var 19) (.lit 1))), (18, (.add (.var 18) (.lit 1))), (16, (.var 49)), (15, (.add (.var 15) (.lit 1)))], bv := [(30, (.var 43)), (24, (.var 38))], ct := [(27, .up { r := 47, n1 := (.var 39), s1 := 1, ks := [.int .i64] } 0 [] (.lit 0)), (17, .up { r := 17, n1 := (.add (.var 15) (.lit 1)), s1 := 5, ks := [.int .i64, .int .i64, .int .i64, .int .i64, .bool] } 0 [⟨0, (.var 15), (.lit 0), 0, .int .i64 (.var 31)⟩, ⟨0, (.var 15), (.lit 0), 1, .int .i64 (.var 32)⟩, ⟨0, (.var 15), (.lit 0), 2, .int .i64 (.var 33)⟩, ⟨0, (.var 15), (.lit 0), 3, .int .i64 (.var 34)⟩, ⟨0, (.var 15), (.lit 0), 4, .bool (.var 35)⟩] (.lit 0)), (20, .up { r := 20, n1 := (.lit 13), s1 := 1, ks := [.int .i64] } 0 [⟨0, (.var 31), (.lit 0), 0, .int .i64 (.var 32)⟩] (.lit 0)), (23, .up { r := 46, n1 := (.mod (.wrap .u64 (.var 0)) (.lit 12)), s1 := 52, n2 := 10, s2 := 5, lo := 2, ks := [.int .i64, .int .i64, .int .i64, .int .i64, .bool] } 1 [] (.lit 0)), (22, .up { r := 45, n1 := (.mod (.wrap .u64 (.var 0)) (.lit 12)), s1 := 52, ks := [.int .i64, .bool] } 0 [] (.lit 0)), (21, .up { r := 44, n1 := (.lit 4), s1 := 5, ks := [.int .i64, .int .i64, .int .i64, .int .i64, .bool] } 0 [] (.lit 0))], bk := [(21, { blk := 24 }), (20, { blk := 23, i1 := (.lit 0), s1 := 1 }), (19, { blk := 27, i1 := (.lit 0), s1 := 5 })] }))
        (.fin { lo := 5, lob := 12, bv := [(5, (.lit false))] }))))
     (.br (.and (.and (.ieq (.cell 4 (.var 19) (.lit 0) 0) (.lit 4)) (.not (.var 36))) (.not (.ieq (.var 18) (.mod (.wrap .u64 (.var 0)) (.lit 12)))))
      (.fin { lo := 5, lob := 12, bv := [(5, (.lit false))] })
      (.br (.and (.ieq (.cell 4 (.var 19) (.lit 0) 0) (.lit 5)) (.var 36))
       (.ob (.ile (.lit 0) (.cell 4 (.var 19) (.lit 0) 4)) <|
        .ob (.ilt (.cell 4 (.var 19) (.lit 0) 4) (.lit 13)) <|
        .br (.not (.ieq (.cell 20 (.cell 4 (.var 19) (.lit 0) 4) (.lit 0) 0) (.cell 4 (.var 19) (.lit 0) 5)))
        (.fin { lo := 5, lob := 12, bv := [(5, (.lit false))] })
        (.ob (.inr .i64 (.sub (.var 18) (.lit 1))) <|
         .ob (.ile (.lit 0) (.mod (.wrap .u64 (.var 0)) (.lit 12))) <|
         .ob (.or (.not (.var 38)) (.ieq (.var 39) (.lit 0))) <|
         .ob (.ile (.lit 0) (.var 39)) <|
         .ob (.inr .i64 (.sub (.mod (.wrap .u64 (.var 0)) (.lit 12)) (.var 39))) <|
         .br (.ieq (.sub (.mod (.wrap .u64 (.var 0)) (.lit 12)) (.var 39)) (.sub (.var 18) (.lit 1)))
         (.ob (.ile (.lit 0) (.var 15)) <|
          .br (.not (.ieq (.var 42) (.var 15)))
          (.fin { lo := 5, lob := 12, bv := [(5, (.lit false))] })
          (.ob (.inr .i64 (.add (.var 19) (.lit 1))) <|
           .back 0 { lo := 15, lob := 19, iv := [(29, (.var 42)), (28, (.var 41)), (26, (.var 40)), (25, (.var 39)), (19, (.add (.var 19) (.lit 1))), (18, (.sub (.var 18) (.lit 1))), (16, (.var 16)), (15, (.var 15))], bv := [(30, (.var 43)), (24, (.var 38))], ct := [(27, .up { r := 47, n1 := (.var 39), s1 := 1, ks := [.int .i64] } 0 [] (.lit 0)), (17, .up { r := 17, n1 := (.var 15), s1 := 5, ks := [.int .i64, .int .i64, .int .i64, .int .i64, .bool] } 0 [] (.lit 0)), (20, .up { r := 20, n1 := (.lit 13), s1 := 1, ks := [.int .i64] } 0 [⟨0, (.cell 4 (.var 19) (.lit 0) 4), (.lit 0), 0, .int .i64 (.lit 0)⟩] (.lit 0)), (23, .up { r := 46, n1 := (.mod (.wrap .u64 (.var 0)) (.lit 12)), s1 := 52, n2 := 10, s2 := 5, lo := 2, ks := [.int .i64, .int .i64, .int .i64, .int .i64, .bool] } 1 [] (.lit 0)), (22, .up { r := 45, n1 := (.mod (.wrap .u64 (.var 0)) (.lit 12)), s1 := 52, ks := [.int .i64, .bool] } 0 [] (.lit 0)), (21, .up { r := 44, n1 := (.lit 4), s1 := 5, ks := [.int .i64, .int .i64, .int .i64, .int .i64, .bool] } 0 [] (.lit 0))], bk := [(21, { blk := 24 }), (20, { blk := 23, i1 := (.lit 0), s1 := 1 }), (19, { blk := 19, i1 := (.lit 0), s1 := 5 })] }))
         (.fin { lo := 5, lob := 12, bv := [(5, (.lit false))] })))
       (.ob (.ile (.lit 0) (.mod (.wrap .u64 (.var 0)) (.lit 12))) <|
        .ob (.or (.not (.var 38)) (.ieq (.var 39) (.lit 0))) <|
        .ob (.ile (.lit 0) (.var 39)) <|
        .ob (.inr .i64 (.sub (.mod (.wrap .u64 (.var 0)) (.lit 12)) (.var 39))) <|
        .br (.ieq (.sub (.mod (.wrap .u64 (.var 0)) (.lit 12)) (.var 39)) (.var 18))
        (.ob (.ile (.lit 0) (.var 15)) <|
         .br (.not (.ieq (.var 42) (.var 15)))
         (.fin { lo := 5, lob := 12, bv := [(5, (.lit false))] })
         (.ob (.inr .i64 (.add (.var 19) (.lit 1))) <|
          .back 0 { lo := 15, lob := 19, iv := [(29, (.var 42)), (28, (.var 41)), (26, (.var 40)), (25, (.var 39)), (19, (.add (.var 19) (.lit 1))), (18, (.var 18)), (16, (.var 16)), (15, (.var 15))], bv := [(30, (.var 43)), (24, (.var 38))], ct := [(27, .up { r := 47, n1 := (.var 39), s1 := 1, ks := [.int .i64] } 0 [] (.lit 0)), (17, .up { r := 17, n1 := (.var 15), s1 := 5, ks := [.int .i64, .int .i64, .int .i64, .int .i64, .bool] } 0 [] (.lit 0)), (20, .up { r := 20, n1 := (.lit 13), s1 := 1, ks := [.int .i64] } 0 [] (.lit 0)), (23, .up { r := 46, n1 := (.mod (.wrap .u64 (.var 0)) (.lit 12)), s1 := 52, n2 := 10, s2 := 5, lo := 2, ks := [.int .i64, .int .i64, .int .i64, .int .i64, .bool] } 1 [] (.lit 0)), (22, .up { r := 45, n1 := (.mod (.wrap .u64 (.var 0)) (.lit 12)), s1 := 52, ks := [.int .i64, .bool] } 0 [] (.lit 0)), (21, .up { r := 44, n1 := (.lit 4), s1 := 5, ks := [.int .i64, .int .i64, .int .i64, .int .i64, .bool] } 0 [] (.lit 0))], bk := [(21, { blk := 24 }), (20, { blk := 23, i1 := (.lit 0), s1 := 1 }), (19, { blk := 19, i1 := (.lit 0), s1 := 5 })] }))
        (.fin { lo := 5, lob := 12, bv := [(5, (.lit false))] }))))))
   (.ob (.ile (.lit 0) (.mod (.wrap .u64 (.var 0)) (.lit 12))) <|
    .loop 31 { lo := 31, lob := 22, iv := [(35, (.lit 0)), (33, (.lit 0)), (32, (.lit 0))], bv := [(31, (.lit true))], nb := [22] } <|
    .br (.ilt (.var 35) (.mod (.wrap .u64 (.var 0)) (.lit 12)))
    (.ob (.ile (.lit 0) (.var 35)) <|
     .br (.cell 22 (.var 35) (.lit 0) 1)
     (.ob (.inr .i64 (.add (.var 35) (.lit 1))) <|
      .ob (.ile (.mul (.add (.var 32) (.lit 1)) (.lit 40)) (.lit 140737488355328)) <|
      .ob (.ile (.lit 0) (.var 32)) <|
      .ob (.ile (.var 32) (.var 33)) <|
      .ob (.ile (.var 33) (.lit 9223372036854775807)) <|
      .ob (.or (.not (.var 31)) (.ieq (.var 32) (.lit 0))) <|
      .new 36 [.be (.and (.ile (.add (.var 32) (.lit 1)) (.var 36)) (.ile (.var 36) (.lit 9223372036854775807)))] <|
      .back 0 { lo := 31, lob := 22, iv := [(35, (.add (.var 35) (.lit 1))), (33, (.var 36)), (32, (.add (.var 32) (.lit 1)))], bv := [(31, (.lit false))], ct := [(34, .up { r := 34, n1 := (.add (.var 32) (.lit 1)), s1 := 5, ks := [.int .i64, .int .i64, .int .i64, .int .i64, .bool] } 0 [⟨0, (.var 32), (.lit 0), 0, .int .i64 (.add (.var 35) (.lit 1))⟩, ⟨0, (.var 32), (.lit 0), 1, .int .i64 (.cell 22 (.var 35) (.lit 0) 0)⟩, ⟨0, (.var 32), (.lit 0), 2, .int .i64 (.lit 0)⟩, ⟨0, (.var 32), (.lit 0), 3, .int .i64 (.lit 0)⟩, ⟨0, (.var 32), (.lit 0), 4, .bool (.lit false)⟩] (.lit 0))], bk := [(22, { blk := 25, i1 := (.lit 0), s1 := 5 })] })
     (.ob (.inr .i64 (.add (.var 35) (.lit 1))) <|
      .back 0 { lo := 31, lob := 22, iv := [(35, (.add (.var 35) (.lit 1))), (33, (.var 33)), (32, (.var 32))], bv := [(31, (.var 31))], ct := [(34, .up { r := 34, n1 := (.var 32), s1 := 5, ks := [.int .i64, .int .i64, .int .i64, .int .i64, .bool] } 0 [] (.lit 0))], bk := [(22, { blk := 22, i1 := (.lit 0), s1 := 5 })] }))
    (.ob (.or (.not (.var 31)) (.ieq (.var 32) (.lit 0))) <|
     .ob (.ile (.lit 0) (.var 32)) <|
     .fin { lo := 5, lob := 12, bv := [(5, (.ieq (.var 32) (.var 18)))] }))
theorem ponce_run : exec tab ponceE 8000 [] (cfg0 6 5 [] (lawConR 27 ssP 6 rtP 6 [shI, shAcs]).gl (lawConR 27 ssP 6 rtP 6 [shI, shAcs]).hp (lawConR 27 ssP 6 rtP 6 [shI, shAcs]).args) = ponceOut := by kernel_rfl
/-- the lengths: of the list, of what was given -/
def oL (ρ : Env) : Prop := OkSl ρ 1 ∧ (0 ≤ ρ.iv 19 ∧ ρ.iv 19 < 200) ∧ (0 ≤ ρ.iv 15 ∧ ρ.iv 15 ≤ ρ.iv 16 ∧ ρ.iv 16 ≤ 9223372036854775807 ∧ ρ.iv 15 ≤ ρ.iv 19) ∧ (0 ≤ ρ.iv 18 ∧ ρ.iv 18 ≤ Nt ρ)
def oInv (ρ : Env) : Prop := (0 ≤ ρ.iv 19 ∧ ρ.iv 19 ≤ 200) ∧ (0 ≤ ρ.iv 15 ∧ ρ.iv 15 ≤ ρ.iv 16 ∧ ρ.iv 16 ≤ 9223372036854775807 ∧ ρ.iv 15 ≤ ρ.iv 19) ∧ OkSl ρ 24 ∧ On (psLp ρ 4 (Nt ρ) 21) (Nt ρ) (ρ.iv 15) (ρ.iv 18) (ρ.iv 19) (Gr ρ) (Ur ρ)
def oGive (u : Env) : Prop := oL u ∧ OkSl u 38 ∧ OnGive (psRd u 4 (Nt u) 38) (Nt u) (u.iv 15) (u.iv 18) (u.iv 19) (Gr u) (Ur u) (wdRd u 31)
def uK (ρ : Env) : Prop := On (psLp ρ 4 (Nt ρ) 21) (Nt ρ) (ρ.iv 15) (ρ.iv 18) (ρ.iv 19) (Gr ρ) (Ur ρ)
def uInv (ρ : Env) : Prop := (0 ≤ ρ.iv 35 ∧ ρ.iv 35 ≤ Nt ρ) ∧ OkSl ρ 31 ∧ ρ.iv 32 = (usedN (fun j => ρ.bc 22 j 0 1) (ρ.iv 35).toNat : Nat)
theorem iteC {a b : Nat} {x y : Int} : (if a = b then x else y) = if b = a then x else y := by
  by_cases h : a = b
  · rw [if_pos h, if_pos h.symm]
  · rw [if_neg h, if_neg (Ne.symm h)]
theorem back_num {P : PS} {n g l s : Int} {G : Nat → Wd} {U : Nat → Int} (h : On P n g l s G U) : P.made = g ∧ n - P.nf = l := ⟨h.made, h.live⟩
set_option maxHeartbeats 8000000 in
theorem ponce_sat (ρ : Env) (hpre : lawPre [shI, shAcs] ρ.num) : Sat (lawPostR ssP [shI, shAcs]) lSem [] ρ ponceOut := by
  replace hpre : _ ∧ ((ρ.bv 1 = true → ρ.iv 2 = 0 ∧ ρ.iv 3 = 0) ∧ 0 ≤ ρ.iv 2 ∧ ρ.iv 2 ≤ ρ.iv 3 ∧ ρ.iv 3 ≤ 9223372036854775807 ∧ _) ∧ _ := hpre
  have hk : OkSl ρ 1 := ⟨fun h => (hpre.2.1.1 h).1, hpre.2.1.2.1, hpre.2.1.2.2.1, hpre.2.1.2.2.2.1⟩
  clear hpre
  unfold ponceOut
  refine Sat.callK (c := awakeP) rfl trivial (fun q => OkSl q 1) (fun _ _ => hk) fun q hk => ?_
  have hn := nt_rng q
  refine Sat.ob (by
    show (decide (_ ≤ Nt q) && decide (Nt q ≤ _)) = true
    simp only [D.i64min, D.i64max, Bool.and_eq_true, decide_eq_true_eq]
    omega) (new_call rfl (n := 4) (m := Nt q) rfl rfl ⟨hn.1, by omega⟩ ⟨by decide, by decide⟩ (fun u => OkSl u 1 ∧ OkSl u 5 ∧ Fresh (psRd u 4 (Nt u) 5) 4 (Nt u)) (fun e ho hf => ⟨hk, ho, hf⟩) fun u hu => ?_)
  obtain ⟨hk, ho, hf⟩ := hu
  have hn := nt_rng u
  have hok := hf.ok ⟨hn.1, by omega⟩ ⟨by decide, by decide⟩
  refine Sat.loopK oInv (fun r => (200 - r.iv 19).toNat) (fun r => OkSl r 1) ⟨⟨Int.le_refl 0, by show (0 : Int) ≤ 200; decide⟩, ⟨Int.le_refl 0, Int.le_refl 0, by show (0 : Int) ≤ _; decide, Int.le_refl 0⟩, ho, ?_⟩ (fun _ => hk) fun r hk hI => ?_
  · have e : ∀ G U, (∀ j : Nat, (j : Int) < Nt u → U (j + 1) = 0) → On (psRd u 4 (Nt u) 5) (Nt u) 0 0 0 G U := fun G U hU => ⟨hok, hf.ns, hf.nb, hf.made, by rw [hf.nf]; omega, fun j hj => by rw [hf.used, hU j hj]; rfl, fun k hk => by omega, by rw [hf.steps]; exact Int.le_refl 0⟩
    refine cast (congrArg (fun p => On p (Nt u) 0 0 0 _ _) ?_) (e _ _ (fun j hj => ?_))
    · exact Eq.symm (PS.ext' rfl rfl rfl rfl rfl rfl (fun i => by simp [psRd, psLp, mkW, -Int.pred_toNat, Sub.nenv, assoc, CV.I, CV.B, upsI, upsB, Seg.I, Seg.B, SC.I, SC.B, IE.den, BE.den]) (fun i => by simp [psRd, psLp, -Int.pred_toNat, Sub.nenv, assoc, CV.I, CV.B, upsI, upsB, Seg.I, Seg.B, SC.I, SC.B, IE.den, BE.den]) (fun i => by simp [psRd, psLp, -Int.pred_toNat, Sub.nenv, assoc, CV.I, CV.B, upsI, upsB, Seg.I, Seg.B, SC.I, SC.B, IE.den, BE.den]) (fun i k => by simp [psRd, psLp, mkW, -Int.pred_toNat, Sub.nenv, assoc, CV.I, CV.B, upsI, upsB, Seg.I, Seg.B, SC.I, SC.B, IE.den, BE.den]) (fun i => by simp [psRd, psLp, -Int.pred_toNat, Sub.nenv, assoc, CV.I, CV.B, upsI, upsB, Seg.I, Seg.B, SC.I, SC.B, IE.den, BE.den]))
    · simp [Ur, -Int.pred_toNat, Sub.nenv, assoc, CV.I, CV.B, upsI, upsB, Seg.I, Seg.B, SC.I, SC.B, IE.den, BE.den]
  replace hI : oInv r := hI
  rw [show (200 - r.num.iv 19).toNat = (200 - r.iv 19).toNat from rfl]
  obtain ⟨⟨i1, i2⟩, ⟨f1, f2, f3, f4⟩, ho, hr⟩ := hI
  have hn := nt_rng r
  have hlr := hr.rng
  have hst := hr.steps
  refine Sat.ob (nilOb hk) (Sat.ob (decide_eq_true hk.2.1) (Sat.br (fun hlt => ?_) (fun _ => ?_)))
  · simp only [D.le, D.lef, D.lt, D.ltf, D.eq, D.eqf, D.not, D.notf, D.and, D.andf, D.or, D.orf, D.inr, D.var, D.lit, D.cellB, D.beq, D.beqf, D.litI, D.varI, D.add, D.sub, D.mul, D.min, D.max, D.cellI, D.i64min, D.i64max, Int.toNat_zero] at hlt
    refine Sat.ob (nilLt hk (by simp only [Nat.reduceAdd]; omega)) (Sat.ob (decide_eq_true i1) ?_)
    have r1 := hr.stepOK (acT r)
    refine do_call rfl (psLp r 4 (Nt r) 21) (acT r) (n := 4) (m := Nt r) rfl rfl (PS.ext' rfl rfl rfl rfl rfl rfl (fun i => by simp [psRd, psLp, mkW, -Int.pred_toNat, Sub.nenv, assoc, CV.I, CV.B, upsI, upsB, Seg.I, Seg.B, SC.I, SC.B, IE.den, BE.den]) (fun i => by simp [psRd, psLp, -Int.pred_toNat, Sub.nenv, assoc, CV.I, CV.B, upsI, upsB, Seg.I, Seg.B, SC.I, SC.B, IE.den, BE.den]) (fun i => by simp [psRd, psLp, -Int.pred_toNat, Sub.nenv, assoc, CV.I, CV.B, upsI, upsB, Seg.I, Seg.B, SC.I, SC.B, IE.den, BE.den]) (fun i k => by simp [psRd, psLp, mkW, -Int.pred_toNat, Sub.nenv, assoc, CV.I, CV.B, upsI, upsB, Seg.I, Seg.B, SC.I, SC.B, IE.den, BE.den]) (fun i => by simp [psRd, psLp, -Int.pred_toNat, Sub.nenv, assoc, CV.I, CV.B, upsI, upsB, Seg.I, Seg.B, SC.I, SC.B, IE.den, BE.den])) rfl ho hr.ok (by omega)
      (fun u => (oL u ∧ (200 - (u.iv 19 + 1)).toNat < (200 - r.iv 19).toNat) ∧ OkSl u 38 ∧ StepOK (psRd u 4 (Nt u) 38) (u.bv 37) (Nt u) (u.iv 15) (u.iv 18) (u.iv 19) (Gr u) (Ur u) (wdRd u 31) (u.bv 36) (acT u))
      (fun e h1 h2 h3 h4 => ⟨⟨⟨hk, ⟨i1, hlt.2⟩, ⟨f1, f2, f3, f4⟩, hlr.1, hlr.2.1⟩, ?_⟩, h1, ?_⟩) fun u hu => ?_
    · show (200 - (r.iv 19 + 1)).toNat < (200 - r.iv 19).toNat
      omega
    · rw [← h2, ← h3, ← h4] at r1
      exact r1
    clear r1
    obtain ⟨⟨⟨hk, ⟨i1, l2⟩, ⟨f1, f2, f3, f4⟩, v1, v2⟩, j3⟩, ho, hs⟩ := hu
    have hn := nt_rng u
    refine Sat.br (fun hb => ?_) (fun hb => ?_)
    · have h0 := hs.no (by simpa [BE.den] using hb)
      refine Sat.ob (by simp only [D.le, D.lef, D.lt, D.ltf, D.eq, D.eqf, D.not, D.notf, D.and, D.andf, D.or, D.orf, D.inr, D.var, D.lit, D.cellB, D.beq, D.beqf, D.litI, D.varI, D.add, D.sub, D.mul, D.min, D.max, D.cellI, D.i64min, D.i64max, Int.toNat_zero]; omega) (Sat.back rfl ⟨⟨⟨by show 0 ≤ u.iv 19 + 1; omega, by show u.iv 19 + 1 ≤ 200; omega⟩, ⟨f1, f2, f3, by show u.iv 15 ≤ u.iv 19 + 1; omega⟩, ho, ?_⟩, j3⟩)
      refine (On.to h0 ?_ (Int.le_refl _) (fun k hk => ?_) (fun j hj => ?_) : On _ (Nt u) (u.iv 15) (u.iv 18) (u.iv 19 + 1) _ _)
      · exact Eq.symm (PS.ext' rfl rfl rfl rfl rfl rfl (fun i => by simp [psRd, psLp, mkW, -Int.pred_toNat, Sub.nenv, assoc, CV.I, CV.B, upsI, upsB, Seg.I, Seg.B, SC.I, SC.B, IE.den, BE.den]) (fun i => by simp [psRd, psLp, -Int.pred_toNat, Sub.nenv, assoc, CV.I, CV.B, upsI, upsB, Seg.I, Seg.B, SC.I, SC.B, IE.den, BE.den]) (fun i => by simp [psRd, psLp, -Int.pred_toNat, Sub.nenv, assoc, CV.I, CV.B, upsI, upsB, Seg.I, Seg.B, SC.I, SC.B, IE.den, BE.den]) (fun i k => by simp [psRd, psLp, mkW, -Int.pred_toNat, Sub.nenv, assoc, CV.I, CV.B, upsI, upsB, Seg.I, Seg.B, SC.I, SC.B, IE.den, BE.den]) (fun i => by simp [psRd, psLp, -Int.pred_toNat, Sub.nenv, assoc, CV.I, CV.B, upsI, upsB, Seg.I, Seg.B, SC.I, SC.B, IE.den, BE.den]))
      · simp [Gr, -Int.pred_toNat, Sub.nenv, assoc, CV.I, CV.B, upsI, upsB, Seg.I, Seg.B, SC.I, SC.B, IE.den, BE.den]
      · simp [Ur, -Int.pred_toNat, Sub.nenv, assoc, CV.I, CV.B, upsI, upsB, Seg.I, Seg.B, SC.I, SC.B, IE.den, BE.den]
    have his : u.bv 37 = true := by simpa [BE.den] using hb
    clear hb
    refine Sat.br (fun hb => ?_) (fun hb => ?_)
    · have hb' : u.ic 4 (u.iv 19).toNat 0 0 = 4 ∧ u.bv 36 = true := by simpa [BE.den, IE.den] using hb
      have hg := hs.give his hb'.1 hb'.2
      clear hs hb hb'
      have hw1 : 1 ≤ u.iv 31 := hg.1.1
      have hw2 : u.iv 31 ≤ Nt u := hg.1.2
      have hw3 : u.ic 20 (u.iv 31).toNat 0 0 = 0 := hg.2.1
      refine Sat.ob ?_ (Sat.ob ?_ (Sat.br (fun hb => ?_) (fun _ => ?_)))
      · show ((decide (u.iv 31 < 1) || decide (Nt u < u.iv 31)) || decide (0 ≤ u.iv 31)) = true
        rw [Bool.or_eq_true]
        exact .inr (decide_eq_true (by omega))
      · show ((decide (u.iv 31 < 1) || decide (Nt u < u.iv 31)) || decide (u.iv 31 < 13)) = true
        rw [Bool.or_eq_true]
        exact .inr (decide_eq_true (by omega))
      · exfalso
        replace hb : ((decide (u.iv 31 < 1) || decide (Nt u < u.iv 31)) || !(u.ic 20 (u.iv 31).toNat 0 0 == 0)) = true := hb
        simp [hw3] at hb
        omega
      refine Sat.loopK (fun t => 0 ≤ t.iv 48 ∧ t.iv 48 ≤ t.iv 15) (fun t => (t.iv 15 - t.iv 48).toNat) (fun t => oGive t ∧ (200 - (t.iv 19 + 1)).toNat < (200 - r.iv 19).toNat) ⟨Int.le_refl 0, f1⟩ (fun _ => ⟨⟨⟨hk, ⟨i1, l2⟩, ⟨f1, f2, f3, f4⟩, v1, v2⟩, ho, hg⟩, j3⟩) fun t ht hI => ?_
      clear hg ho hk hw1 hw2 hw3 j3
      replace hI : 0 ≤ t.iv 48 ∧ t.iv 48 ≤ t.iv 15 := hI
      rw [show (t.num.iv 15 - t.num.iv 48).toNat = (t.iv 15 - t.iv 48).toNat from rfl]
      obtain ⟨⟨⟨hk, ⟨i1, l2⟩, ⟨f1, f2, f3, f4⟩, v1, v2⟩, ho, hg⟩, j3⟩ := ht
      refine Sat.ob (decide_eq_true f1) (Sat.br (fun hb => ?_) (fun _ => ?_))
      · simp only [D.le, D.lef, D.lt, D.ltf, D.eq, D.eqf, D.not, D.notf, D.and, D.andf, D.or, D.orf, D.inr, D.var, D.lit, D.cellB, D.beq, D.beqf, D.litI, D.varI, D.add, D.sub, D.mul, D.min, D.max, D.cellI, D.i64min, D.i64max, Int.toNat_zero] at hb
        refine Sat.ob (decide_eq_true hI.1) (Sat.br (fun hc => ?_) (fun _ => ?_))
        · exfalso
          refine hg.2.2.1 (t.iv 48).toNat (by omega) ?_
          simp [BE.den, IE.den] at hc
          obtain ⟨c1, c2, c3, c4, c5⟩ := hc
          unfold Gr wdRd
          rw [c1, c2, c3, c4, c5]
        · refine Sat.ob (by simp only [D.le, D.lef, D.lt, D.ltf, D.eq, D.eqf, D.not, D.notf, D.and, D.andf, D.or, D.orf, D.inr, D.var, D.lit, D.cellB, D.beq, D.beqf, D.litI, D.varI, D.add, D.sub, D.mul, D.min, D.max, D.cellI, D.i64min, D.i64max, Int.toNat_zero]; omega) (Sat.back rfl ⟨⟨by show 0 ≤ t.iv 48 + 1; omega, by show t.iv 48 + 1 ≤ t.iv 15; omega⟩, by show (t.iv 15 - (t.iv 48 + 1)).toNat < (t.iv 15 - t.iv 48).toNat; omega⟩)
      refine Sat.ob (by simp only [D.le, D.lef, D.lt, D.ltf, D.eq, D.eqf, D.not, D.notf, D.and, D.andf, D.or, D.orf, D.inr, D.var, D.lit, D.cellB, D.beq, D.beqf, D.litI, D.varI, D.add, D.sub, D.mul, D.min, D.max, D.cellI, D.i64min, D.i64max, Int.toNat_zero]; omega) (Sat.ob (decide_eq_true f2) (Sat.ob (decide_eq_true f3) (Sat.newB (fun t => oGive t ∧ (200 - (t.iv 19 + 1)).toNat < (200 - r.iv 19).toNat) (fun _ => ⟨⟨⟨hk, ⟨i1, l2⟩, ⟨f1, f2, f3, f4⟩, v1, v2⟩, ho, hg⟩, j3⟩) fun v hv hc => ?_)))
      clear hg ho hk j3 hI
      obtain ⟨⟨⟨hk, ⟨i1, l2⟩, ⟨f1, f2, f3, f4⟩, v1, v2⟩, ho, hg⟩, j3⟩ := hv
      simp only [D.le, D.lef, D.lt, D.ltf, D.eq, D.eqf, D.not, D.notf, D.and, D.andf, D.or, D.orf, D.inr, D.var, D.lit, D.cellB, D.beq, D.beqf, D.litI, D.varI, D.add, D.sub, D.mul, D.min, D.max, D.cellI, D.i64min, D.i64max, Int.toNat_zero] at hc
      have hw1 : 1 ≤ v.iv 31 := hg.1.1
      have hw2 : v.iv 31 ≤ Nt v := hg.1.2
      have hn := nt_rng v
      obtain ⟨G', U', hx⟩ := hg.num
      obtain ⟨x1, x2⟩ := back_num hx
      replace x1 : v.iv 42 = v.iv 15 + 1 := x1
      replace x2 : Nt v - v.iv 39 = v.iv 18 + 1 := x2
      refine Sat.ob (decide_eq_true (by show 0 ≤ v.iv 31; omega)) (Sat.ob (decide_eq_true (by show v.iv 31 < 13; omega)) (Sat.ob (by simp only [D.le, D.lef, D.lt, D.ltf, D.eq, D.eqf, D.not, D.notf, D.and, D.andf, D.or, D.orf, D.inr, D.var, D.lit, D.cellB, D.beq, D.beqf, D.litI, D.varI, D.add, D.sub, D.mul, D.min, D.max, D.cellI, D.i64min, D.i64max, Int.toNat_zero]; omega) (Sat.ob (decide_eq_true hn.1) (Sat.ob (nilOb ho) (Sat.ob (decide_eq_true ho.2.1) (Sat.ob ?_ (Sat.br (fun _ => ?_) (fun hb => ?_))))))))
      · show (decide (_ ≤ Nt v - v.iv 39) && decide (Nt v - v.iv 39 ≤ _)) = true
        rw [x2]
        simp only [D.i64min, D.i64max, Bool.and_eq_true, decide_eq_true_eq]
        omega
      · refine Sat.ob (decide_eq_true (by show 0 ≤ v.iv 15 + 1; omega)) (Sat.br (fun hb => ?_) (fun _ => ?_))
        · simp [BE.den, IE.den, x1] at hb
        · refine Sat.ob (by simp only [D.le, D.lef, D.lt, D.ltf, D.eq, D.eqf, D.not, D.notf, D.and, D.andf, D.or, D.orf, D.inr, D.var, D.lit, D.cellB, D.beq, D.beqf, D.litI, D.varI, D.add, D.sub, D.mul, D.min, D.max, D.cellI, D.i64min, D.i64max, Int.toNat_zero]; omega) (Sat.back rfl ⟨⟨⟨by show 0 ≤ v.iv 19 + 1; omega, by show v.iv 19 + 1 ≤ 200; omega⟩, ⟨by show 0 ≤ v.iv 15 + 1; omega, hc.1, hc.2, by show v.iv 15 + 1 ≤ v.iv 19 + 1; omega⟩, ho, ?_⟩, j3⟩)
          refine cast (congrArg (fun p => On p (Nt v) (v.iv 15 + 1) (v.iv 18 + 1) (v.iv 19 + 1) _ _) ?_) (hg.2.2.2 _ _ (fun k hk => ?_) ?_ (fun j hj => ?_))
          · exact Eq.symm (PS.ext' rfl rfl rfl rfl rfl rfl (fun i => by simp [psRd, psLp, mkW, -Int.pred_toNat, Sub.nenv, assoc, CV.I, CV.B, upsI, upsB, Seg.I, Seg.B, SC.I, SC.B, IE.den, BE.den]) (fun i => by simp [psRd, psLp, -Int.pred_toNat, Sub.nenv, assoc, CV.I, CV.B, upsI, upsB, Seg.I, Seg.B, SC.I, SC.B, IE.den, BE.den]) (fun i => by simp [psRd, psLp, -Int.pred_toNat, Sub.nenv, assoc, CV.I, CV.B, upsI, upsB, Seg.I, Seg.B, SC.I, SC.B, IE.den, BE.den]) (fun i k => by simp [psRd, psLp, mkW, -Int.pred_toNat, Sub.nenv, assoc, CV.I, CV.B, upsI, upsB, Seg.I, Seg.B, SC.I, SC.B, IE.den, BE.den]) (fun i => by simp [psRd, psLp, -Int.pred_toNat, Sub.nenv, assoc, CV.I, CV.B, upsI, upsB, Seg.I, Seg.B, SC.I, SC.B, IE.den, BE.den]))
          · have hne : (v.iv 15).toNat ≠ k := by omega
            simp [Gr, -Int.pred_toNat, Sub.nenv, assoc, CV.I, CV.B, upsI, upsB, Seg.I, Seg.B, SC.I, SC.B, IE.den, BE.den, hne, Ne.symm hne]
          · simp [Gr, wdRd, -Int.pred_toNat, Sub.nenv, assoc, CV.I, CV.B, upsI, upsB, Seg.I, Seg.B, SC.I, SC.B, IE.den, BE.den]
          · simp [Ur, wdRd, -Int.pred_toNat, Sub.nenv, assoc, CV.I, CV.B, upsI, upsB, Seg.I, Seg.B, SC.I, SC.B, IE.den, BE.den]
            exact iteC
      · exfalso
        have : (Nt v - v.iv 39 == v.iv 18 + 1) = false := hb
        rw [x2] at this
        simp at this
    · have hno4 : ¬ ((acT u).kind = 4 ∧ u.bv 36 = true) := by
        intro h
        have h' : u.ic 4 (u.iv 19).toNat 0 0 = 4 := h.1
        simp [BE.den, IE.den, h', h.2] at hb
      clear hb
      refine Sat.br (fun hb => ?_) (fun _ => ?_)
      · exfalso
        have hb' : (u.ic 4 (u.iv 19).toNat 0 0 = 4 ∧ u.bv 36 = false) ∧ u.iv 18 ≠ Nt u := by
          have : ((Bool.and (u.ic 4 (u.iv 19).toNat 0 0 == 4) (!u.bv 36)) && !(u.iv 18 == Nt u)) = true := hb
          simpa using this
        exact hb'.2 (hs.full his hb'.1.1 hb'.1.2)
      refine Sat.br (fun hb => ?_) (fun hb => ?_)
      · have hb' : u.ic 4 (u.iv 19).toNat 0 0 = 5 ∧ u.bv 36 = true := by simpa [BE.den, IE.den] using hb
        have hg := hs.take his hb'.1 hb'.2
        clear hs hb hb' hno4
        have hw1 : 1 ≤ u.ic 4 (u.iv 19).toNat 0 4 := hg.1.1
        have hw2 : u.ic 4 (u.iv 19).toNat 0 4 ≤ Nt u := hg.1.2
        have hw3 : u.ic 20 (u.ic 4 (u.iv 19).toNat 0 4).toNat 0 0 = u.ic 4 (u.iv 19).toNat 0 5 := hg.2.1
        obtain ⟨U', hx⟩ := hg.num
        obtain ⟨x1, x2⟩ := back_num hx
        have hxr := hx.rng
        replace x1 : u.iv 42 = u.iv 15 := x1
        replace x2 : Nt u - u.iv 39 = u.iv 18 - 1 := x2
        refine Sat.ob (decide_eq_true (by show 0 ≤ u.ic 4 (u.iv 19).toNat 0 4; omega)) (Sat.ob (decide_eq_true (by show u.ic 4 (u.iv 19).toNat 0 4 < 13; omega)) (Sat.br (fun hb => ?_) (fun _ => ?_)))
        · exfalso
          have : (!(u.ic 20 (u.ic 4 (u.iv 19).toNat 0 4).toNat 0 0 == u.ic 4 (u.iv 19).toNat 0 5)) = true := hb
          rw [hw3] at this
          simp at this
        refine Sat.ob (by simp only [D.le, D.lef, D.lt, D.ltf, D.eq, D.eqf, D.not, D.notf, D.and, D.andf, D.or, D.orf, D.inr, D.var, D.lit, D.cellB, D.beq, D.beqf, D.litI, D.varI, D.add, D.sub, D.mul, D.min, D.max, D.cellI, D.i64min, D.i64max, Int.toNat_zero]; omega) (Sat.ob (decide_eq_true hn.1) (Sat.ob (nilOb ho) (Sat.ob (decide_eq_true ho.2.1) (Sat.ob ?_ (Sat.br (fun _ => ?_) (fun hb => ?_))))))
        · show (decide (_ ≤ Nt u - u.iv 39) && decide (Nt u - u.iv 39 ≤ _)) = true
          rw [x2]
          simp only [D.i64min, D.i64max, Bool.and_eq_true, decide_eq_true_eq]
          omega
        · refine Sat.ob (decide_eq_true f1) (Sat.br (fun hb => ?_) (fun _ => ?_))
          · simp [BE.den, IE.den, x1] at hb
          · refine Sat.ob (by simp only [D.le, D.lef, D.lt, D.ltf, D.eq, D.eqf, D.not, D.notf, D.and, D.andf, D.or, D.orf, D.inr, D.var, D.lit, D.cellB, D.beq, D.beqf, D.litI, D.varI, D.add, D.sub, D.mul, D.min, D.max, D.cellI, D.i64min, D.i64max, Int.toNat_zero]; omega) (Sat.back rfl ⟨⟨⟨by show 0 ≤ u.iv 19 + 1; omega, by show u.iv 19 + 1 ≤ 200; omega⟩, ⟨f1, f2, f3, by show u.iv 15 ≤ u.iv 19 + 1; omega⟩, ho, ?_⟩, j3⟩)
            have e := hg.2.2 (fun j => if j = (u.ic 4 (u.iv 19).toNat 0 4).toNat then 0 else Ur u j) (fun j _ => rfl)
            refine (On.to e ?_ (Int.le_refl _) (fun k hk => ?_) (fun j hj => ?_) : On _ (Nt u) (u.iv 15) (u.iv 18 - 1) (u.iv 19 + 1) _ _)
            · exact Eq.symm (PS.ext' rfl rfl rfl rfl rfl rfl (fun i => by simp [psRd, psLp, mkW, -Int.pred_toNat, Sub.nenv, assoc, CV.I, CV.B, upsI, upsB, Seg.I, Seg.B, SC.I, SC.B, IE.den, BE.den]) (fun i => by simp [psRd, psLp, -Int.pred_toNat, Sub.nenv, assoc, CV.I, CV.B, upsI, upsB, Seg.I, Seg.B, SC.I, SC.B, IE.den, BE.den]) (fun i => by simp [psRd, psLp, -Int.pred_toNat, Sub.nenv, assoc, CV.I, CV.B, upsI, upsB, Seg.I, Seg.B, SC.I, SC.B, IE.den, BE.den]) (fun i k => by simp [psRd, psLp, mkW, -Int.pred_toNat, Sub.nenv, assoc, CV.I, CV.B, upsI, upsB, Seg.I, Seg.B, SC.I, SC.B, IE.den, BE.den]) (fun i => by simp [psRd, psLp, -Int.pred_toNat, Sub.nenv, assoc, CV.I, CV.B, upsI, upsB, Seg.I, Seg.B, SC.I, SC.B, IE.den, BE.den]))
            · simp [Gr, -Int.pred_toNat, Sub.nenv, assoc, CV.I, CV.B, upsI, upsB, Seg.I, Seg.B, SC.I, SC.B, IE.den, BE.den]
            · simp [Ur, -Int.pred_toNat, Sub.nenv, assoc, CV.I, CV.B, upsI, upsB, Seg.I, Seg.B, SC.I, SC.B, IE.den, BE.den]
              by_cases h : j + 1 = (u.ic 4 (u.iv 19).toNat 0 4).toNat
              · rw [if_pos h, if_pos h.symm]
              · rw [if_neg h, if_neg (Ne.symm h)]
        · exfalso
          have : (Nt u - u.iv 39 == u.iv 18 - 1) = false := hb
          rw [x2] at this
          simp at this
      · have hno5 : ¬ ((acT u).kind = 5 ∧ u.bv 36 = true) := by
          intro h
          have h' : u.ic 4 (u.iv 19).toNat 0 0 = 5 := h.1
          simp [BE.den, IE.den, h', h.2] at hb
        have hx := hs.rest his hno4 hno5
        obtain ⟨x1, x2⟩ := back_num hx
        replace x1 : u.iv 42 = u.iv 15 := x1
        replace x2 : Nt u - u.iv 39 = u.iv 18 := x2
        refine Sat.ob (decide_eq_true hn.1) (Sat.ob (nilOb ho) (Sat.ob (decide_eq_true ho.2.1) (Sat.ob ?_ (Sat.br (fun _ => ?_) (fun hb => ?_)))))
        · show (decide (_ ≤ Nt u - u.iv 39) && decide (Nt u - u.iv 39 ≤ _)) = true
          rw [x2]
          simp only [D.i64min, D.i64max, Bool.and_eq_true, decide_eq_true_eq]
          omega
        · refine Sat.ob (decide_eq_true f1) (Sat.br (fun hb => ?_) (fun _ => ?_))
          · simp [BE.den, IE.den, x1] at hb
          · refine Sat.ob (by simp only [D.le, D.lef, D.lt, D.ltf, D.eq, D.eqf, D.not, D.notf, D.and, D.andf, D.or, D.orf, D.inr, D.var, D.lit, D.cellB, D.beq, D.beqf, D.litI, D.varI, D.add, D.sub, D.mul, D.min, D.max, D.cellI, D.i64min, D.i64max, Int.toNat_zero]; omega) (Sat.back rfl ⟨⟨⟨by show 0 ≤ u.iv 19 + 1; omega, by show u.iv 19 + 1 ≤ 200; omega⟩, ⟨f1, f2, f3, by show u.iv 15 ≤ u.iv 19 + 1; omega⟩, ho, ?_⟩, j3⟩)
            refine (On.to hx ?_ (Int.le_refl _) (fun k hk => ?_) (fun j hj => ?_) : On _ (Nt u) (u.iv 15) (u.iv 18) (u.iv 19 + 1) _ _)
            · exact Eq.symm (PS.ext' rfl rfl rfl rfl rfl rfl (fun i => by simp [psRd, psLp, mkW, -Int.pred_toNat, Sub.nenv, assoc, CV.I, CV.B, upsI, upsB, Seg.I, Seg.B, SC.I, SC.B, IE.den, BE.den]) (fun i => by simp [psRd, psLp, -Int.pred_toNat, Sub.nenv, assoc, CV.I, CV.B, upsI, upsB, Seg.I, Seg.B, SC.I, SC.B, IE.den, BE.den]) (fun i => by simp [psRd, psLp, -Int.pred_toNat, Sub.nenv, assoc, CV.I, CV.B, upsI, upsB, Seg.I, Seg.B, SC.I, SC.B, IE.den, BE.den]) (fun i k => by simp [psRd, psLp, mkW, -Int.pred_toNat, Sub.nenv, assoc, CV.I, CV.B, upsI, upsB, Seg.I, Seg.B, SC.I, SC.B, IE.den, BE.den]) (fun i => by simp [psRd, psLp, -Int.pred_toNat, Sub.nenv, assoc, CV.I, CV.B, upsI, upsB, Seg.I, Seg.B, SC.I, SC.B, IE.den, BE.den]))
            · simp [Gr, -Int.pred_toNat, Sub.nenv, assoc, CV.I, CV.B, upsI, upsB, Seg.I, Seg.B, SC.I, SC.B, IE.den, BE.den]
            · simp [Ur, -Int.pred_toNat, Sub.nenv, assoc, CV.I, CV.B, upsI, upsB, Seg.I, Seg.B, SC.I, SC.B, IE.den, BE.den]
        · exfalso
          have : (Nt u - u.iv 39 == u.iv 18) = false := hb
          rw [x2] at this
          simp at this
  · refine Sat.ob (decide_eq_true hn.1) (Sat.loopK uInv (fun t => (Nt t - t.iv 35).toNat) uK ⟨⟨Int.le_refl 0, hn.1⟩, ⟨fun _ => rfl, Int.le_refl 0, Int.le_refl 0, by show (0 : Int) ≤ _; decide⟩, rfl⟩ (fun _ => hr) fun t hk hI => ?_)
    clear hr ho hn
    replace hI : uInv t := hI
    rw [show (Nt t.num - t.num.iv 35).toNat = (Nt t - t.iv 35).toNat from rfl]
    obtain ⟨⟨i1, i2⟩, ho, hc⟩ := hI
    have hn := nt_rng t
    have hle := usedN_le (fun j => t.bc 22 j 0 1) (t.iv 35).toNat
    have h1 := ho.2.1
    have h2 := ho.2.2.1
    have h3 := ho.2.2.2
    refine Sat.br (fun hlt => ?_) (fun hge => ?_)
    · replace hlt : t.iv 35 < Nt t := of_decide_eq_true hlt
      have es : (t.iv 35 + 1).toNat = (t.iv 35).toNat + 1 := by omega
      refine Sat.ob (decide_eq_true i1) (Sat.br (fun hb => ?_) (fun hb => ?_))
      · replace hb : t.bc 22 (t.iv 35).toNat 0 1 = true := hb
        refine Sat.ob (by simp only [D.le, D.lef, D.lt, D.ltf, D.eq, D.eqf, D.not, D.notf, D.and, D.andf, D.or, D.orf, D.inr, D.var, D.lit, D.cellB, D.beq, D.beqf, D.litI, D.varI, D.add, D.sub, D.mul, D.min, D.max, D.cellI, D.i64min, D.i64max, Int.toNat_zero]; omega) (Sat.ob (by simp only [D.le, D.lef, D.lt, D.ltf, D.eq, D.eqf, D.not, D.notf, D.and, D.andf, D.or, D.orf, D.inr, D.var, D.lit, D.cellB, D.beq, D.beqf, D.litI, D.varI, D.add, D.sub, D.mul, D.min, D.max, D.cellI, D.i64min, D.i64max, Int.toNat_zero]; omega) (Sat.ob (by simp only [D.le, D.lef, D.lt, D.ltf, D.eq, D.eqf, D.not, D.notf, D.and, D.andf, D.or, D.orf, D.inr, D.var, D.lit, D.cellB, D.beq, D.beqf, D.litI, D.varI, D.add, D.sub, D.mul, D.min, D.max, D.cellI, D.i64min, D.i64max, Int.toNat_zero]; omega) (Sat.ob (by simp only [D.le, D.lef, D.lt, D.ltf, D.eq, D.eqf, D.not, D.notf, D.and, D.andf, D.or, D.orf, D.inr, D.var, D.lit, D.cellB, D.beq, D.beqf, D.litI, D.varI, D.add, D.sub, D.mul, D.min, D.max, D.cellI, D.i64min, D.i64max, Int.toNat_zero]; omega) (Sat.ob (by simp only [D.le, D.lef, D.lt, D.ltf, D.eq, D.eqf, D.not, D.notf, D.and, D.andf, D.or, D.orf, D.inr, D.var, D.lit, D.cellB, D.beq, D.beqf, D.litI, D.varI, D.add, D.sub, D.mul, D.min, D.max, D.cellI, D.i64min, D.i64max, Int.toNat_zero]; omega) (Sat.ob (nilOb ho) (Sat.newB (fun v => (0 ≤ v.iv 35 ∧ v.iv 35 < Nt v) ∧ 0 ≤ v.iv 32 ∧ (v.iv 32 = (usedN (fun j => v.bc 22 j 0 1) (v.iv 35).toNat : Nat) ∧ v.bc 22 (v.iv 35).toNat 0 1 = true) ∧ (Nt v - (v.iv 35 + 1)).toNat < (Nt t - t.iv 35).toNat) (fun _ => ⟨⟨i1, hlt⟩, h1, ⟨hc, hb⟩, ?_⟩) fun v hv hf => ?_))))))
        · show (Nt t - (t.iv 35 + 1)).toNat < (Nt t - t.iv 35).toNat
          omega
        obtain ⟨⟨i1, hlt⟩, h1, ⟨hc, hb⟩, hm⟩ := hv
        simp only [D.le, D.lef, D.lt, D.ltf, D.eq, D.eqf, D.not, D.notf, D.and, D.andf, D.or, D.orf, D.inr, D.var, D.lit, D.cellB, D.beq, D.beqf, D.litI, D.varI, D.add, D.sub, D.mul, D.min, D.max, D.cellI, D.i64min, D.i64max, Int.toNat_zero] at hf
        refine Sat.back rfl ⟨⟨⟨by show 0 ≤ v.iv 35 + 1; omega, by show v.iv 35 + 1 ≤ Nt v; omega⟩, ⟨fun h => (by cases h), by show 0 ≤ v.iv 32 + 1; omega, hf.1, hf.2⟩, ?_⟩, hm⟩
        show v.iv 32 + 1 = (usedN (fun j => v.bc 22 j 0 1) (v.iv 35 + 1).toNat : Nat)
        rw [show (v.iv 35 + 1).toNat = (v.iv 35).toNat + 1 by omega]
        simp only [usedN, hb, if_true]
        omega
      · replace hb : t.bc 22 (t.iv 35).toNat 0 1 = false := hb
        refine Sat.ob (by simp only [D.le, D.lef, D.lt, D.ltf, D.eq, D.eqf, D.not, D.notf, D.and, D.andf, D.or, D.orf, D.inr, D.var, D.lit, D.cellB, D.beq, D.beqf, D.litI, D.varI, D.add, D.sub, D.mul, D.min, D.max, D.cellI, D.i64min, D.i64max, Int.toNat_zero]; omega) (Sat.back rfl ⟨⟨⟨by show 0 ≤ t.iv 35 + 1; omega, by show t.iv 35 + 1 ≤ Nt t; omega⟩, ho, ?_⟩, ?_⟩)
        · show t.iv 32 = (usedN (fun j => t.bc 22 j 0 1) (t.iv 35 + 1).toNat : Nat)
          rw [es]
          simp only [usedN, hb, Bool.false_eq_true, if_false]
          omega
        · show (Nt t - (t.iv 35 + 1)).toNat < (Nt t - t.iv 35).toNat
          omega
    · replace hge : ¬ t.iv 35 < Nt t := of_decide_eq_false hge
      refine Sat.ob (nilOb ho) (Sat.ob (decide_eq_true h1) (Sat.fin ?_))
      have hu := hk.used
      show (t.iv 32 == t.iv 18) = true
      rw [show t.iv 35 = Nt t by omega] at hc
      replace hu : ((usedN (fun j => t.bc 22 j 0 1) (Nt t).toNat : Nat) : Int) = t.iv 18 := hu
      rw [hc, hu]
      simp
theorem ponce_con : ConOK Tryd.prog (lawConR 27 ssP 6 rtP 6 [shI, shAcs]) (lawPre [shI, shAcs]) (lawPostR ssP [shI, shAcs]) :=
  con_ok tabOK (E := ponceE) (cs := lSem) rfl lSem_ok schedOK rfl ponce_run (by kernel_rfl) (fun ρ _ p hp => by cases hp) ponce_sat
end Go.Proofs.YthomdlajobnmnaaDoor
