/- 'SieveMore': what is kept more lets no more be freed -/
import Derived.Test.YtniacabgcjccdaaLawSem
set_option linter.unusedSimpArgs false
set_option linter.unusedVariables false
namespace Go.Proofs.Ytniacabgcjccdaa
open Go.Rex
noncomputable def moreE : Ex := { sched := sched, loops := [], cons := lawCons, fin := lawCon 4 sh4 }
def moreOut : Out :=
  .call 0 { lo := 0, lob := 0 } 30 <|
   .ob (.or (.not (.var 0)) (.ieq (.var 1) (.lit 0))) <|
   .ob (.ile (.lit 0) (.var 1)) <|
   .ob (.or (.ilt (.lit 60) (.var 1)) (.or (.not (.var 4)) (.ieq (.var 5) (.lit 0)))) <|
   .ob (.or (.ilt (.lit 60) (.var 1)) (.ile (.lit 0) (.var 5))) <|
   .ob (.or (.or (.ilt (.lit 60) (.var 1)) (.ilt (.lit 60) (.var 5))) (.or (.not (.var 8)) (.ieq (.var 9) (.lit 0)))) <|
   .ob (.or (.or (.ilt (.lit 60) (.var 1)) (.ilt (.lit 60) (.var 5))) (.ile (.lit 0) (.var 9))) <|
   .ob (.or (.or (.or (.ilt (.lit 60) (.var 1)) (.ilt (.lit 60) (.var 5))) (.ilt (.lit 60) (.var 9))) (.or (.not (.var 12)) (.ieq (.var 13) (.lit 0)))) <|
   .ob (.or (.or (.or (.ilt (.lit 60) (.var 1)) (.ilt (.lit 60) (.var 5))) (.ilt (.lit 60) (.var 9))) (.ile (.lit 0) (.var 13))) <|
   .br (.not (.or (.or (.or (.ilt (.lit 60) (.var 1)) (.ilt (.lit 60) (.var 5))) (.ilt (.lit 60) (.var 9))) (.ilt (.lit 60) (.var 13))))
   (.ob (.or (.not (.var 17)) (.ieq (.var 18) (.lit 0))) <|
    .ob (.ile (.lit 0) (.var 18)) <|
    .ob (.or (.ilt (.lit 60) (.var 18)) (.or (.not (.var 21)) (.ieq (.var 22) (.lit 0)))) <|
    .ob (.or (.ilt (.lit 60) (.var 18)) (.ile (.lit 0) (.var 22))) <|
    .ob (.or (.or (.ilt (.lit 60) (.var 18)) (.ilt (.lit 60) (.var 22))) (.or (.not (.var 25)) (.ieq (.var 26) (.lit 0)))) <|
    .ob (.or (.or (.ilt (.lit 60) (.var 18)) (.ilt (.lit 60) (.var 22))) (.ile (.lit 0) (.var 26))) <|
    .br (.or (.or (.or (.or (.or (.or (.ilt (.lit 60) (.var 18)) (.ilt (.lit 60) (.var 22))) (.ilt (.lit 60) (.var 26))) (.ilt (.var 16) (.lit 0))) (.ilt (.lit 1099511627776) (.var 16))) (.ilt (.var 29) (.lit 0))) (.ilt (.lit 1099511627776) (.var 29)))
    (.fin { lo := 30, lob := 7, bv := [(30, (.lit true))] })
    (.call 1 { lo := 0, lob := 0, iv := [(6, (.var 6)), (5, (.var 5)), (2, (.var 2)), (1, (.var 1))], bv := [(4, (.var 4)), (0, (.var 0))], ct := [(7, .up { r := 7, n1 := (.var 5), s1 := 5, ks := [.int .i64, .int .i64, .int .i64, .int .i64, .bool] } 0 [] (.lit 0)), (3, .up { r := 3, n1 := (.var 1), s1 := 7, ks := [.int .i64, .int .i64, .int .i64, .int .i64, .bool, .int .i64, .int .i64] } 0 [] (.lit 0))], bk := [(1, { blk := 1, i1 := (.lit 0), s1 := 5 }), (0, { blk := 0, i1 := (.lit 0), s1 := 7 })] } 30 <|
     .ob (.ile (.mul (.var 5) (.lit 40)) (.lit 140737488355328)) <|
     .ob (.or (.not (.var 4)) (.ieq (.var 5) (.lit 0))) <|
     .ob (.ile (.lit 0) (.var 5)) <|
     .new 38 [.be (.and (.ile (.var 5) (.var 38)) (.ile (.var 38) (.lit 9223372036854775807))), .be (.or (.lit true) (.ieq (.var 5) (.lit 0))), .be (.or (.lit true) (.ieq (.var 38) (.lit 0))), .cat 39 (.lit 0) (.ex [] 5 0 0) (.var 5) (.up { r := 7, n1 := (.var 5), s1 := 5, ks := [.int .i64, .int .i64, .int .i64, .int .i64, .bool] } 0 [] (.lit 0))] <|
     .ob (.ile (.mul (.add (.var 5) (.var 18)) (.lit 40)) (.lit 140737488355328)) <|
     .new 40 [.be (.and (.ile (.add (.var 5) (.var 18)) (.var 40)) (.ile (.var 40) (.lit 9223372036854775807))), .be (.or (.lit true) (.ieq (.add (.var 5) (.var 18)) (.lit 0))), .be (.or (.lit true) (.ieq (.var 40) (.lit 0))), .cat 41 (.var 5) (.up { r := 39, n1 := (.var 5), s1 := 5, ks := [.int .i64, .int .i64, .int .i64, .int .i64, .bool] } 0 [] (.lit 0)) (.var 18) (.up { r := 20, n1 := (.var 18), s1 := 5, ks := [.int .i64, .int .i64, .int .i64, .int .i64, .bool] } 0 [] (.lit 0))] <|
     .call 1 { lo := 0, lob := 0, iv := [(6, (.var 40)), (5, (.add (.var 5) (.var 18))), (2, (.var 2)), (1, (.var 1))], bv := [(4, (.lit false)), (0, (.var 0))], ct := [(7, .up { r := 41, n1 := (.add (.var 5) (.var 18)), s1 := 5, ks := [.int .i64, .int .i64, .int .i64, .int .i64, .bool] } 0 [] (.lit 0)), (3, .up { r := 3, n1 := (.var 1), s1 := 7, ks := [.int .i64, .int .i64, .int .i64, .int .i64, .bool, .int .i64, .int .i64] } 0 [] (.lit 0))], bk := [(1, { blk := 15, i1 := (.lit 0), s1 := 5 }), (0, { blk := 0, i1 := (.lit 0), s1 := 7 })] } 42 <|
     .call 2 { lo := 0, lob := 0, iv := [(6, (.var 10)), (5, (.var 9)), (2, (.var 2)), (1, (.var 1))], bv := [(4, (.var 8)), (0, (.var 0))], ct := [(7, .up { r := 11, n1 := (.var 9), s1 := 1, ks := [.int .i64] } 0 [] (.lit 0)), (3, .up { r := 3, n1 := (.var 1), s1 := 7, ks := [.int .i64, .int .i64, .int .i64, .int .i64, .bool, .int .i64, .int .i64] } 0 [] (.lit 0))], bk := [(1, { blk := 2, i1 := (.lit 0), s1 := 1 }), (0, { blk := 0, i1 := (.lit 0), s1 := 7 })] } 50 <|
     .ob (.ile (.mul (.var 9) (.lit 8)) (.lit 140737488355328)) <|
     .ob (.or (.not (.var 8)) (.ieq (.var 9) (.lit 0))) <|
     .ob (.ile (.lit 0) (.var 9)) <|
     .new 58 [.be (.and (.ile (.var 9) (.var 58)) (.ile (.var 58) (.lit 9223372036854775807))), .be (.or (.lit true) (.ieq (.var 9) (.lit 0))), .be (.or (.lit true) (.ieq (.var 58) (.lit 0))), .cat 59 (.lit 0) (.ex [] 1 0 0) (.var 9) (.up { r := 11, n1 := (.var 9), s1 := 1, ks := [.int .i64] } 0 [] (.lit 0))] <|
     .ob (.ile (.mul (.add (.var 9) (.var 22)) (.lit 8)) (.lit 140737488355328)) <|
     .ob (.or (.not (.var 21)) (.ieq (.var 22) (.lit 0))) <|
     .ob (.ile (.lit 0) (.var 22)) <|
     .new 60 [.be (.and (.ile (.add (.var 9) (.var 22)) (.var 60)) (.ile (.var 60) (.lit 9223372036854775807))), .be (.or (.lit true) (.ieq (.add (.var 9) (.var 22)) (.lit 0))), .be (.or (.lit true) (.ieq (.var 60) (.lit 0))), .cat 61 (.var 9) (.up { r := 59, n1 := (.var 9), s1 := 1, ks := [.int .i64] } 0 [] (.lit 0)) (.var 22) (.up { r := 24, n1 := (.var 22), s1 := 1, ks := [.int .i64] } 0 [] (.lit 0))] <|
     .call 2 { lo := 0, lob := 0, iv := [(6, (.var 60)), (5, (.add (.var 9) (.var 22))), (2, (.var 2)), (1, (.var 1))], bv := [(4, (.lit false)), (0, (.var 0))], ct := [(7, .up { r := 61, n1 := (.add (.var 9) (.var 22)), s1 := 1, ks := [.int .i64] } 0 [] (.lit 0)), (3, .up { r := 3, n1 := (.var 1), s1 := 7, ks := [.int .i64, .int .i64, .int .i64, .int .i64, .bool, .int .i64, .int .i64] } 0 [] (.lit 0))], bk := [(1, { blk := 22, i1 := (.lit 0), s1 := 1 }), (0, { blk := 0, i1 := (.lit 0), s1 := 7 })] } 62 <|
     .call 3 { lo := 0, lob := 0, iv := [(6, (.var 14)), (5, (.var 13)), (2, (.var 2)), (1, (.var 1))], bv := [(4, (.var 12)), (0, (.var 0))], ct := [(7, .up { r := 15, n1 := (.var 13), s1 := 3, ks := [.bool, .int .i64, .int .i64] } 0 [] (.lit 0)), (3, .up { r := 3, n1 := (.var 1), s1 := 7, ks := [.int .i64, .int .i64, .int .i64, .int .i64, .bool, .int .i64, .int .i64] } 0 [] (.lit 0))], bk := [(1, { blk := 3, i1 := (.lit 0), s1 := 3 }), (0, { blk := 0, i1 := (.lit 0), s1 := 7 })] } 70 <|
     .ob (.ile (.mul (.var 13) (.lit 24)) (.lit 140737488355328)) <|
     .ob (.or (.not (.var 12)) (.ieq (.var 13) (.lit 0))) <|
     .ob (.ile (.lit 0) (.var 13)) <|
     .new 78 [.be (.and (.ile (.var 13) (.var 78)) (.ile (.var 78) (.lit 9223372036854775807))), .be (.or (.lit true) (.ieq (.var 13) (.lit 0))), .be (.or (.lit true) (.ieq (.var 78) (.lit 0))), .cat 79 (.lit 0) (.ex [] 3 0 0) (.var 13) (.up { r := 15, n1 := (.var 13), s1 := 3, ks := [.bool, .int .i64, .int .i64] } 0 [] (.lit 0))] <|
     .ob (.ile (.mul (.add (.var 13) (.var 26)) (.lit 24)) (.lit 140737488355328)) <|
     .ob (.or (.not (.var 25)) (.ieq (.var 26) (.lit 0))) <|
     .ob (.ile (.lit 0) (.var 26)) <|
     .new 80 [.be (.and (.ile (.add (.var 13) (.var 26)) (.var 80)) (.ile (.var 80) (.lit 9223372036854775807))), .be (.or (.lit true) (.ieq (.add (.var 13) (.var 26)) (.lit 0))), .be (.or (.lit true) (.ieq (.var 80) (.lit 0))), .cat 81 (.var 13) (.up { r := 79, n1 := (.var 13), s1 := 3, ks := [.bool, .int .i64, .int .i64] } 0 [] (.lit 0)) (.var 26) (.up { r := 28, n1 := (.var 26), s1 := 3, ks := [.bool, .int .i64, .int .i64] } 0 [] (.lit 0))] <|
     .call 3 { lo := 0, lob := 0, iv := [(6, (.var 80)), (5, (.add (.var 13) (.var 26))), (2, (.var 2)), (1, (.var 1))], bv := [(4, (.lit false)), (0, (.var 0))], ct := [(7, .up { r := 81, n1 := (.add (.var 13) (.var 26)), s1 := 3, ks := [.bool, .int .i64, .int .i64] } 0 [] (.lit 0)), (3, .up { r := 3, n1 := (.var 1), s1 := 7, ks := [.int .i64, .int .i64, .int .i64, .int .i64, .bool, .int .i64, .int .i64] } 0 [] (.lit 0))], bk := [(1, { blk := 29, i1 := (.lit 0), s1 := 3 }), (0, { blk := 0, i1 := (.lit 0), s1 := 7 })] } 82 <|
     .call 4 { lo := 0, lob := 0, iv := [(4, (.imax (.var 16) (.var 29))), (2, (.var 2)), (1, (.var 1))], bv := [(0, (.var 0))], ct := [(3, .up { r := 3, n1 := (.var 1), s1 := 7, ks := [.int .i64, .int .i64, .int .i64, .int .i64, .bool, .int .i64, .int .i64] } 0 [] (.lit 0))], bk := [(0, { blk := 0, i1 := (.lit 0), s1 := 7 })] } 90 <|
     .call 4 { lo := 0, lob := 0, iv := [(4, (.imin (.var 16) (.var 29))), (2, (.var 2)), (1, (.var 1))], bv := [(0, (.var 0))], ct := [(3, .up { r := 3, n1 := (.var 1), s1 := 7, ks := [.int .i64, .int .i64, .int .i64, .int .i64, .bool, .int .i64, .int .i64] } 0 [] (.lit 0))], bk := [(0, { blk := 0, i1 := (.lit 0), s1 := 7 })] } 98 <|
     .call 1 { lo := 0, lob := 0, iv := [(6, (.lit 0)), (5, (.lit 0)), (2, (.var 2)), (1, (.var 1))], bv := [(4, (.lit true)), (0, (.var 0))], ct := [(3, .up { r := 3, n1 := (.var 1), s1 := 7, ks := [.int .i64, .int .i64, .int .i64, .int .i64, .bool, .int .i64, .int .i64] } 0 [] (.lit 0))], bk := [(0, { blk := 0, i1 := (.lit 0), s1 := 7 })], nb := [1] } 106 <|
     .call 2 { lo := 0, lob := 0, iv := [(6, (.lit 2)), (5, (.lit 2)), (2, (.var 2)), (1, (.var 1))], bv := [(4, (.lit false)), (0, (.var 0))], ct := [(7, .ex [.int .i64 (.lit 0), .int .i64 (.lit (-1))] 1 0 0), (3, .up { r := 3, n1 := (.var 1), s1 := 7, ks := [.int .i64, .int .i64, .int .i64, .int .i64, .bool, .int .i64, .int .i64] } 0 [] (.lit 0))], bk := [(1, { blk := 38, i1 := (.lit 0), s1 := 1 }), (0, { blk := 0, i1 := (.lit 0), s1 := 7 })] } 114 <|
     .call 3 { lo := 0, lob := 0, iv := [(6, (.lit 1)), (5, (.lit 1)), (2, (.var 2)), (1, (.var 1))], bv := [(4, (.lit false)), (0, (.var 0))], ct := [(7, .ex [.bool (.lit false), .int .i64 (.lit 0), .int .i64 (.lit 1099511627776)] 3 0 0), (3, .up { r := 3, n1 := (.var 1), s1 := 7, ks := [.int .i64, .int .i64, .int .i64, .int .i64, .bool, .int .i64, .int .i64] } 0 [] (.lit 0))], bk := [(1, { blk := 41, i1 := (.lit 0), s1 := 3 }), (0, { blk := 0, i1 := (.lit 0), s1 := 7 })] } 122 <|
     .call 6 { lo := 0, lob := 0, iv := [(6, (.var 32)), (5, (.var 31)), (2, (.var 44)), (1, (.var 43))], bv := [(4, (.var 30)), (0, (.var 42))], ct := [(7, .up { r := 33, n1 := (.var 31), s1 := 7, ks := [.int .i64, .int .i64, .int .i64, .int .i64, .bool, .int .i64, .int .i64] } 0 [] (.lit 0)), (3, .up { r := 45, n1 := (.var 43), s1 := 7, ks := [.int .i64, .int .i64, .int .i64, .int .i64, .bool, .int .i64, .int .i64] } 0 [] (.lit 0))], bk := [(1, { blk := 11, i1 := (.lit 0), s1 := 7 }), (0, { blk := 16, i1 := (.lit 0), s1 := 7 })] } 130 <|
     .br (.var 130)
     (.call 6 { lo := 0, lob := 0, iv := [(6, (.var 52)), (5, (.var 51)), (2, (.var 64)), (1, (.var 63))], bv := [(4, (.var 50)), (0, (.var 62))], ct := [(7, .up { r := 53, n1 := (.var 51), s1 := 7, ks := [.int .i64, .int .i64, .int .i64, .int .i64, .bool, .int .i64, .int .i64] } 0 [] (.lit 0)), (3, .up { r := 65, n1 := (.var 63), s1 := 7, ks := [.int .i64, .int .i64, .int .i64, .int .i64, .bool, .int .i64, .int .i64] } 0 [] (.lit 0))], bk := [(1, { blk := 18, i1 := (.lit 0), s1 := 7 }), (0, { blk := 23, i1 := (.lit 0), s1 := 7 })] } 131 <|
      .br (.var 131)
      (.call 6 { lo := 0, lob := 0, iv := [(6, (.var 72)), (5, (.var 71)), (2, (.var 84)), (1, (.var 83))], bv := [(4, (.var 70)), (0, (.var 82))], ct := [(7, .up { r := 73, n1 := (.var 71), s1 := 7, ks := [.int .i64, .int .i64, .int .i64, .int .i64, .bool, .int .i64, .int .i64] } 0 [] (.lit 0)), (3, .up { r := 85, n1 := (.var 83), s1 := 7, ks := [.int .i64, .int .i64, .int .i64, .int .i64, .bool, .int .i64, .int .i64] } 0 [] (.lit 0))], bk := [(1, { blk := 25, i1 := (.lit 0), s1 := 7 }), (0, { blk := 30, i1 := (.lit 0), s1 := 7 })] } 132 <|
       .br (.var 132)
       (.call 6 { lo := 0, lob := 0, iv := [(6, (.var 92)), (5, (.var 91)), (2, (.var 100)), (1, (.var 99))], bv := [(4, (.var 90)), (0, (.var 98))], ct := [(7, .up { r := 93, n1 := (.var 91), s1 := 7, ks := [.int .i64, .int .i64, .int .i64, .int .i64, .bool, .int .i64, .int .i64] } 0 [] (.lit 0)), (3, .up { r := 101, n1 := (.var 99), s1 := 7, ks := [.int .i64, .int .i64, .int .i64, .int .i64, .bool, .int .i64, .int .i64] } 0 [] (.lit 0))], bk := [(1, { blk := 32, i1 := (.lit 0), s1 := 7 }), (0, { blk := 34, i1 := (.lit 0), s1 := 7 })] } 133 <|
        .br (.var 133)
        (.call 7 { lo := 0, lob := 0, iv := [(6, (.var 2)), (5, (.var 1)), (2, (.var 108)), (1, (.var 107))], bv := [(4, (.var 0)), (0, (.var 106))], ct := [(7, .up { r := 3, n1 := (.var 1), s1 := 7, ks := [.int .i64, .int .i64, .int .i64, .int .i64, .bool, .int .i64, .int .i64] } 0 [] (.lit 0)), (3, .up { r := 109, n1 := (.var 107), s1 := 7, ks := [.int .i64, .int .i64, .int .i64, .int .i64, .bool, .int .i64, .int .i64] } 0 [] (.lit 0))], bk := [(1, { blk := 0, i1 := (.lit 0), s1 := 7 }), (0, { blk := 36, i1 := (.lit 0), s1 := 7 })] } 134 <|
         .br (.var 134)
         (.call 7 { lo := 0, lob := 0, iv := [(6, (.var 2)), (5, (.var 1)), (2, (.var 116)), (1, (.var 115))], bv := [(4, (.var 0)), (0, (.var 114))], ct := [(7, .up { r := 3, n1 := (.var 1), s1 := 7, ks := [.int .i64, .int .i64, .int .i64, .int .i64, .bool, .int .i64, .int .i64] } 0 [] (.lit 0)), (3, .up { r := 117, n1 := (.var 115), s1 := 7, ks := [.int .i64, .int .i64, .int .i64, .int .i64, .bool, .int .i64, .int .i64] } 0 [] (.lit 0))], bk := [(1, { blk := 0, i1 := (.lit 0), s1 := 7 }), (0, { blk := 39, i1 := (.lit 0), s1 := 7 })] } 135 <|
          .br (.var 135)
          (.call 7 { lo := 0, lob := 0, iv := [(6, (.var 2)), (5, (.var 1)), (2, (.var 124)), (1, (.var 123))], bv := [(4, (.var 0)), (0, (.var 122))], ct := [(7, .up { r := 3, n1 := (.var 1), s1 := 7, ks := [.int .i64, .int .i64, .int .i64, .int .i64, .bool, .int .i64, .int .i64] } 0 [] (.lit 0)), (3, .up { r := 125, n1 := (.var 123), s1 := 7, ks := [.int .i64, .int .i64, .int .i64, .int .i64, .bool, .int .i64, .int .i64] } 0 [] (.lit 0))], bk := [(1, { blk := 0, i1 := (.lit 0), s1 := 7 }), (0, { blk := 42, i1 := (.lit 0), s1 := 7 })] } 136 <|
           .fin { lo := 30, lob := 7, bv := [(30, (.var 136))] })
          (.fin { lo := 30, lob := 7, bv := [(30, (.lit false))] }))
         (.fin { lo := 30, lob := 7, bv := [(30, (.lit false))] }))
        (.fin { lo := 30, lob := 7, bv := [(30, (.lit false))] }))
       (.fin { lo := 30, lob := 7, bv := [(30, (.lit false))] }))
      (.fin { lo := 30, lob := 7, bv := [(30, (.lit false))] }))
     (.fin { lo := 30, lob := 7, bv := [(30, (.lit false))] })))
   (.fin { lo := 30, lob := 7, bv := [(30, (.lit true))] })
theorem more_run : exec tab moreE 4000 [] (cfg0 4 30 [] [] (lawCon 4 sh4).hp (lawCon 4 sh4).args) = moreOut := by kernel_rfl
def P4 (ρ : Env) : Prop := OkSl ρ 0 ∧ OkSl ρ 4 ∧ OkSl ρ 8 ∧ OkSl ρ 12 ∧ OkSl ρ 17 ∧ OkSl ρ 21 ∧ OkSl ρ 25
def P4s (ρ : Env) : Prop := P4 ρ ∧ ρ.iv 1 ≤ 60 ∧ ρ.iv 5 ≤ 60 ∧ ρ.iv 9 ≤ 60 ∧ ρ.iv 13 ≤ 60 ∧ ρ.iv 18 ≤ 60 ∧ ρ.iv 22 ≤ 60 ∧ ρ.iv 26 ≤ 60 ∧ 0 ≤ ρ.iv 16 ∧ ρ.iv 16 ≤ 1099511627776 ∧ 0 ≤ ρ.iv 29 ∧ ρ.iv 29 ≤ 1099511627776
theorem P4_of {ρ : Env} (h : lawPre sh4 ρ) : P4 ρ ∧ True :=
  have h : preC (sh4.flatMap (·.2)) 0 ρ := h
  ⟨⟨okSl_of h.1, okSl_of h.2.1, okSl_of h.2.2.1, okSl_of h.2.2.2.1, okSl_of h.2.2.2.2.2.1, okSl_of h.2.2.2.2.2.2.1, okSl_of h.2.2.2.2.2.2.2.1⟩, trivial⟩
theorem keepS_app {a b : List Int} (n : Note) (h : keepS a n = true) : keepS (a ++ b) n = true := by simp_all [keepS]
theorem keepE_app {a b : List Int} (n : Note) (h : keepE a n = true) : keepE (a ++ b) n = true := by
  unfold keepE at *
  rw [List.any_append, h]
  rfl
theorem keepP_app {a b : List (Bool × Int × Int)} (n : Note) (h : keepP a n = true) : keepP (a ++ b) n = true := by
  unfold keepP at *
  rw [List.any_append, h]
  rfl
theorem keepT_mono {a b : Int} (h1 : 0 ≤ a) (h2 : 0 ≤ b) {n : Note} (h : keepT (max a b) n = true) : keepT (min a b) n = true := by
  unfold keepT at *
  have := of_decide_eq_true h
  exact decide_eq_true (by omega)
theorem keepE_none (n : Note) : keepE [0, -1] n = false := by simp [keepE]
theorem keepP_none (n : Note) : keepP [(false, 0, 1099511627776)] n = false := by simp [keepP]
set_option maxRecDepth 10000 in
theorem more_sat (ρ : Env) (hpre : lawPre sh4 ρ.num) : Sat (lawPost sh4) lawSem [] ρ moreOut := by
  have h0 : P4 ρ ∧ _ := P4_of (ρ := ρ.num) hpre
  unfold moreOut
  refine Sat.call rfl trivial fun e0 _ => ?_
  replace h0 : P4 (ρ.join 30 e0) ∧ True := ⟨h0.1, trivial⟩
  clear hpre
  generalize ρ.join 30 e0 = q at *
  obtain ⟨h0, -⟩ := h0
  refine Sat.ob (nilOb h0.1) (Sat.ob (decide_eq_true h0.1.2.1) (Sat.ob (D.or.mpr (.inr (nilOb h0.2.1))) (Sat.ob (D.or.mpr (.inr (decide_eq_true h0.2.1.2.1))) (Sat.ob (D.or.mpr (.inr (nilOb h0.2.2.1))) (Sat.ob (D.or.mpr (.inr (decide_eq_true h0.2.2.1.2.1))) (Sat.ob (D.or.mpr (.inr (nilOb h0.2.2.2.1))) (Sat.ob (D.or.mpr (.inr (decide_eq_true h0.2.2.2.1.2.1))) (Sat.br (fun hl => ?_) fun _ => Sat.fin rfl))))))))
  refine Sat.ob (nilOb h0.2.2.2.2.1) (Sat.ob (decide_eq_true h0.2.2.2.2.1.2.1) (Sat.ob (D.or.mpr (.inr (nilOb h0.2.2.2.2.2.1))) (Sat.ob (D.or.mpr (.inr (decide_eq_true h0.2.2.2.2.2.1.2.1))) (Sat.ob (D.or.mpr (.inr (nilOb h0.2.2.2.2.2.2))) (Sat.ob (D.or.mpr (.inr (decide_eq_true h0.2.2.2.2.2.2.2.1))) (Sat.br (fun _ => Sat.fin rfl) fun hm => ?_))))))
  have hP : P4s q := by
    simp only [D.le, D.lef, D.lt, D.ltf, D.eq, D.eqf, D.not, D.notf, D.and, D.andf, D.or, D.orf, D.inr, D.var, D.lit, D.cellB, D.beq, D.beqf, D.litI, D.varI, D.add, D.sub, D.mul, D.min, D.max, D.cellI, D.i64min, D.i64max] at hl hm
    exact ⟨h0, hl.1.1.1, hl.1.1.2, hl.1.2, hl.2, hm.1.1.1.1.1.1, hm.1.1.1.1.1.2, hm.1.1.1.1.2, hm.1.1.1.2, hm.1.1.2, hm.1.2, hm.2⟩
  clear h0 hl hm
  refine Sat.call rfl ⟨hP.1.1, (show q.iv 1 ≤ 1000000 from Int.le_trans hP.2.1 (by decide)), hP.1.2.1, (show q.iv 5 ≤ 1000000 from Int.le_trans hP.2.2.1 (by decide))⟩ fun e1 k1 => ?_
  replace hP : P4s (q.join 30 e1) := hP
  have r30 : Res (q.join 30 e1) 0 30 (keepS (annI (q.join 30 e1) 4)) :=
    ⟨k1.1, Eq.trans k1.2.1 (res_eq (congrArg keepS (by exact annI_same rfl fun i => by simp [conEnv, slotsCon, Env.join, Sub.nenv, assoc, CV.I, CV.B, upsI, upsB, Seg.I, Seg.B, SC.I, SC.B, IE.den, BE.den])) (by exact notes_same rfl fun i _ => by simp [noteAt, conEnv, slotsCon, Env.join, Sub.nenv, assoc, CV.I, CV.B, upsI, upsB, Seg.I, Seg.B, SC.I, SC.B, IE.den, BE.den]))⟩
  clear k1
  generalize q.join 30 e1 = q at *
  have hn : 0 ≤ q.iv 5 ∧ 0 ≤ q.iv 18 ∧ q.iv 5 ≤ 60 ∧ q.iv 18 ≤ 60 := ⟨hP.1.2.1.2.1, hP.1.2.2.2.2.1.2.1, hP.2.2.1, hP.2.2.2.2.2.1⟩
  refine Sat.ob (by simp only [D.le, D.lef, D.lt, D.ltf, D.eq, D.eqf, D.not, D.notf, D.and, D.andf, D.or, D.orf, D.inr, D.var, D.lit, D.cellB, D.beq, D.beqf, D.litI, D.varI, D.add, D.sub, D.mul, D.min, D.max, D.cellI, D.i64min, D.i64max]; omega) (Sat.ob (nilOb hP.1.2.1) (Sat.ob (decide_eq_true hn.1) (Sat.new fun e2 hf => ?_)))
  have hc : ∀ i j : Nat, (i : Int) < (q.join 38 e2).iv 5 → (q.join 38 e2).ic 39 i 0 j = (q.join 38 e2).ic 7 i 0 j ∧ (q.join 38 e2).bc 39 i 0 j = (q.join 38 e2).bc 7 i 0 j := fun i j hi => by
    have := (hf _ (.tail _ (.tail _ (.tail _ (.head _)))) i j).2 hi
    simpa [CV.I, CV.B, Seg.I, Seg.B, upsI, upsB, IE.den] using this
  clear hf
  replace hP : P4s (q.join 38 e2) := hP
  replace r30 : Res (q.join 38 e2) 0 30 (keepS (annI (q.join 38 e2) 4)) := r30
  replace hn : 0 ≤ (q.join 38 e2).iv 5 ∧ 0 ≤ (q.join 38 e2).iv 18 ∧ (q.join 38 e2).iv 5 ≤ 60 ∧ (q.join 38 e2).iv 18 ≤ 60 := hn
  generalize q.join 38 e2 = q at *
  refine Sat.ob (by simp only [D.le, D.lef, D.lt, D.ltf, D.eq, D.eqf, D.not, D.notf, D.and, D.andf, D.or, D.orf, D.inr, D.var, D.lit, D.cellB, D.beq, D.beqf, D.litI, D.varI, D.add, D.sub, D.mul, D.min, D.max, D.cellI, D.i64min, D.i64max]; omega) (Sat.new fun e3 hf => ?_)
  have hcap : (q.join 40 e3).iv 5 + (q.join 40 e3).iv 18 ≤ (q.join 40 e3).iv 40 ∧ (q.join 40 e3).iv 40 ≤ 9223372036854775807 := by
    have := hf _ (.head _)
    simp only [D.be, D.le, D.lef, D.lt, D.ltf, D.eq, D.eqf, D.not, D.notf, D.and, D.andf, D.or, D.orf, D.inr, D.var, D.lit, D.cellB, D.beq, D.beqf, D.litI, D.varI, D.add, D.sub, D.mul, D.min, D.max, D.cellI, D.i64min, D.i64max] at this
    exact this
  have hd : ∀ i j : Nat, (i : Int) < (q.join 40 e3).iv 5 → (q.join 40 e3).ic 41 i 0 j = (q.join 40 e3).ic 39 i 0 j ∧ (q.join 40 e3).bc 41 i 0 j = (q.join 40 e3).bc 39 i 0 j := fun i j hi => by
    have := (hf _ (.tail _ (.tail _ (.tail _ (.head _)))) i j).1 hi
    simpa [CV.I, CV.B, Seg.I, Seg.B, upsI, upsB, IE.den] using this
  have hd2 : ∀ i j : Nat, (i : Int) < (q.join 40 e3).iv 18 → (q.join 40 e3).ic 41 (((q.join 40 e3).iv 5).toNat + i) 0 j = (q.join 40 e3).ic 20 i 0 j ∧ (q.join 40 e3).bc 41 (((q.join 40 e3).iv 5).toNat + i) 0 j = (q.join 40 e3).bc 20 i 0 j := fun i j hi => by
    have := (hf _ (.tail _ (.tail _ (.tail _ (.head _)))) i j).2 hi
    simpa [CV.I, CV.B, Seg.I, Seg.B, upsI, upsB, IE.den] using this
  clear hf
  replace hP : P4s (q.join 40 e3) := hP
  replace r30 : Res (q.join 40 e3) 0 30 (keepS (annI (q.join 40 e3) 4)) := r30
  replace hn : 0 ≤ (q.join 40 e3).iv 5 ∧ 0 ≤ (q.join 40 e3).iv 18 ∧ (q.join 40 e3).iv 5 ≤ 60 ∧ (q.join 40 e3).iv 18 ≤ 60 := hn
  replace hc : ∀ i j : Nat, (i : Int) < (q.join 40 e3).iv 5 → (q.join 40 e3).ic 39 i 0 j = (q.join 40 e3).ic 7 i 0 j ∧ (q.join 40 e3).bc 39 i 0 j = (q.join 40 e3).bc 7 i 0 j := hc
  generalize q.join 40 e3 = q at *
  refine Sat.call rfl ⟨hP.1.1, (show q.iv 1 ≤ 1000000 from Int.le_trans hP.2.1 (by decide)), ⟨fun h => (Bool.false_ne_true h).elim, show 0 ≤ q.iv 5 + q.iv 18 from by omega, hcap.1, hcap.2⟩, show q.iv 5 + q.iv 18 ≤ 1000000 from by omega⟩ fun e4 k4 => ?_
  replace hP : P4s (q.join 42 e4) := hP
  replace r30 : Res (q.join 42 e4) 0 30 (keepS (annI (q.join 42 e4) 4)) := r30
  replace hn : 0 ≤ (q.join 42 e4).iv 5 ∧ 0 ≤ (q.join 42 e4).iv 18 ∧ (q.join 42 e4).iv 5 ≤ 60 ∧ (q.join 42 e4).iv 18 ≤ 60 := hn
  replace hc : ∀ i j : Nat, (i : Int) < (q.join 42 e4).iv 5 → (q.join 42 e4).ic 39 i 0 j = (q.join 42 e4).ic 7 i 0 j ∧ (q.join 42 e4).bc 39 i 0 j = (q.join 42 e4).bc 7 i 0 j := hc
  replace hcap : (q.join 42 e4).iv 5 + (q.join 42 e4).iv 18 ≤ (q.join 42 e4).iv 40 ∧ (q.join 42 e4).iv 40 ≤ 9223372036854775807 := hcap
  replace hd : ∀ i j : Nat, (i : Int) < (q.join 42 e4).iv 5 → (q.join 42 e4).ic 41 i 0 j = (q.join 42 e4).ic 39 i 0 j ∧ (q.join 42 e4).bc 41 i 0 j = (q.join 42 e4).bc 39 i 0 j := hd
  replace hd2 : ∀ i j : Nat, (i : Int) < (q.join 42 e4).iv 18 → (q.join 42 e4).ic 41 (((q.join 42 e4).iv 5).toNat + i) 0 j = (q.join 42 e4).ic 20 i 0 j ∧ (q.join 42 e4).bc 41 (((q.join 42 e4).iv 5).toNat + i) 0 j = (q.join 42 e4).bc 20 i 0 j := hd2
  have r42 : Res (q.join 42 e4) 0 42 (keepS (annI (q.join 42 e4) 4 ++ annI (q.join 42 e4) 17)) :=
    ⟨k4.1, Eq.trans k4.2.1 (res_eq (congrArg keepS (by
      exact annI_cat (b := 4) (c := 17) hn.1 hn.2.1 rfl (fun i hi => Eq.trans (by simp [conEnv, slotsCon, Env.join, Sub.nenv, assoc, CV.I, CV.B, upsI, upsB, Seg.I, Seg.B, SC.I, SC.B, IE.den, BE.den]) (((hd i 0 hi).1).trans (hc i 0 hi).1)) (fun i hi => Eq.trans (by simp [conEnv, slotsCon, Env.join, Sub.nenv, assoc, CV.I, CV.B, upsI, upsB, Seg.I, Seg.B, SC.I, SC.B, IE.den, BE.den]) ((hd2 i 0 hi).1)))) (by exact notes_same rfl fun i _ => by simp [noteAt, conEnv, slotsCon, Env.join, Sub.nenv, assoc, CV.I, CV.B, upsI, upsB, Seg.I, Seg.B, SC.I, SC.B, IE.den, BE.den]))⟩
  clear k4
  generalize q.join 42 e4 = q at *
  clear hn hc hcap hd hd2
  refine Sat.call rfl ⟨hP.1.1, (show q.iv 1 ≤ 1000000 from Int.le_trans hP.2.1 (by decide)), hP.1.2.2.1, (show q.iv 9 ≤ 1000000 from Int.le_trans hP.2.2.2.1 (by decide))⟩ fun e5 k5 => ?_
  replace hP : P4s (q.join 50 e5) := hP
  replace r30 : Res (q.join 50 e5) 0 30 (keepS (annI (q.join 50 e5) 4)) := r30
  replace r42 : Res (q.join 50 e5) 0 42 (keepS (annI (q.join 50 e5) 4 ++ annI (q.join 50 e5) 17)) := r42
  have r50 : Res (q.join 50 e5) 0 50 (keepE (annI (q.join 50 e5) 8)) :=
    ⟨k5.1, Eq.trans k5.2.1 (res_eq (congrArg keepE (by exact annI_same rfl fun i => by simp [conEnv, erasCon, Env.join, Sub.nenv, assoc, CV.I, CV.B, upsI, upsB, Seg.I, Seg.B, SC.I, SC.B, IE.den, BE.den])) (by exact notes_same rfl fun i _ => by simp [noteAt, conEnv, erasCon, Env.join, Sub.nenv, assoc, CV.I, CV.B, upsI, upsB, Seg.I, Seg.B, SC.I, SC.B, IE.den, BE.den]))⟩
  clear k5
  generalize q.join 50 e5 = q at *
  have hn : 0 ≤ q.iv 9 ∧ 0 ≤ q.iv 22 ∧ q.iv 9 ≤ 60 ∧ q.iv 22 ≤ 60 := ⟨hP.1.2.2.1.2.1, hP.1.2.2.2.2.2.1.2.1, hP.2.2.2.1, hP.2.2.2.2.2.2.1⟩
  refine Sat.ob (by simp only [D.le, D.lef, D.lt, D.ltf, D.eq, D.eqf, D.not, D.notf, D.and, D.andf, D.or, D.orf, D.inr, D.var, D.lit, D.cellB, D.beq, D.beqf, D.litI, D.varI, D.add, D.sub, D.mul, D.min, D.max, D.cellI, D.i64min, D.i64max]; omega) (Sat.ob (nilOb hP.1.2.2.1) (Sat.ob (decide_eq_true hn.1) (Sat.new fun e6 hf => ?_)))
  have hc : ∀ i j : Nat, (i : Int) < (q.join 58 e6).iv 9 → (q.join 58 e6).ic 59 i 0 j = (q.join 58 e6).ic 11 i 0 j ∧ (q.join 58 e6).bc 59 i 0 j = (q.join 58 e6).bc 11 i 0 j := fun i j hi => by
    have := (hf _ (.tail _ (.tail _ (.tail _ (.head _)))) i j).2 hi
    simpa [CV.I, CV.B, Seg.I, Seg.B, upsI, upsB, IE.den] using this
  clear hf
  replace hP : P4s (q.join 58 e6) := hP
  replace r30 : Res (q.join 58 e6) 0 30 (keepS (annI (q.join 58 e6) 4)) := r30
  replace r42 : Res (q.join 58 e6) 0 42 (keepS (annI (q.join 58 e6) 4 ++ annI (q.join 58 e6) 17)) := r42
  replace r50 : Res (q.join 58 e6) 0 50 (keepE (annI (q.join 58 e6) 8)) := r50
  replace hn : 0 ≤ (q.join 58 e6).iv 9 ∧ 0 ≤ (q.join 58 e6).iv 22 ∧ (q.join 58 e6).iv 9 ≤ 60 ∧ (q.join 58 e6).iv 22 ≤ 60 := hn
  generalize q.join 58 e6 = q at *
  refine Sat.ob (by simp only [D.le, D.lef, D.lt, D.ltf, D.eq, D.eqf, D.not, D.notf, D.and, D.andf, D.or, D.orf, D.inr, D.var, D.lit, D.cellB, D.beq, D.beqf, D.litI, D.varI, D.add, D.sub, D.mul, D.min, D.max, D.cellI, D.i64min, D.i64max]; omega) (Sat.ob (nilOb hP.1.2.2.2.2.2.1) (Sat.ob (decide_eq_true hn.2.1) (Sat.new fun e7 hf => ?_)))
  have hcap : (q.join 60 e7).iv 9 + (q.join 60 e7).iv 22 ≤ (q.join 60 e7).iv 60 ∧ (q.join 60 e7).iv 60 ≤ 9223372036854775807 := by
    have := hf _ (.head _)
    simp only [D.be, D.le, D.lef, D.lt, D.ltf, D.eq, D.eqf, D.not, D.notf, D.and, D.andf, D.or, D.orf, D.inr, D.var, D.lit, D.cellB, D.beq, D.beqf, D.litI, D.varI, D.add, D.sub, D.mul, D.min, D.max, D.cellI, D.i64min, D.i64max] at this
    exact this
  have hd : ∀ i j : Nat, (i : Int) < (q.join 60 e7).iv 9 → (q.join 60 e7).ic 61 i 0 j = (q.join 60 e7).ic 59 i 0 j ∧ (q.join 60 e7).bc 61 i 0 j = (q.join 60 e7).bc 59 i 0 j := fun i j hi => by
    have := (hf _ (.tail _ (.tail _ (.tail _ (.head _)))) i j).1 hi
    simpa [CV.I, CV.B, Seg.I, Seg.B, upsI, upsB, IE.den] using this
  have hd2 : ∀ i j : Nat, (i : Int) < (q.join 60 e7).iv 22 → (q.join 60 e7).ic 61 (((q.join 60 e7).iv 9).toNat + i) 0 j = (q.join 60 e7).ic 24 i 0 j ∧ (q.join 60 e7).bc 61 (((q.join 60 e7).iv 9).toNat + i) 0 j = (q.join 60 e7).bc 24 i 0 j := fun i j hi => by
    have := (hf _ (.tail _ (.tail _ (.tail _ (.head _)))) i j).2 hi
    simpa [CV.I, CV.B, Seg.I, Seg.B, upsI, upsB, IE.den] using this
  clear hf
  replace hP : P4s (q.join 60 e7) := hP
  replace r30 : Res (q.join 60 e7) 0 30 (keepS (annI (q.join 60 e7) 4)) := r30
  replace r42 : Res (q.join 60 e7) 0 42 (keepS (annI (q.join 60 e7) 4 ++ annI (q.join 60 e7) 17)) := r42
  replace r50 : Res (q.join 60 e7) 0 50 (keepE (annI (q.join 60 e7) 8)) := r50
  replace hn : 0 ≤ (q.join 60 e7).iv 9 ∧ 0 ≤ (q.join 60 e7).iv 22 ∧ (q.join 60 e7).iv 9 ≤ 60 ∧ (q.join 60 e7).iv 22 ≤ 60 := hn
  replace hc : ∀ i j : Nat, (i : Int) < (q.join 60 e7).iv 9 → (q.join 60 e7).ic 59 i 0 j = (q.join 60 e7).ic 11 i 0 j ∧ (q.join 60 e7).bc 59 i 0 j = (q.join 60 e7).bc 11 i 0 j := hc
  generalize q.join 60 e7 = q at *
  refine Sat.call rfl ⟨hP.1.1, (show q.iv 1 ≤ 1000000 from Int.le_trans hP.2.1 (by decide)), ⟨fun h => (Bool.false_ne_true h).elim, show 0 ≤ q.iv 9 + q.iv 22 from by omega, hcap.1, hcap.2⟩, show q.iv 9 + q.iv 22 ≤ 1000000 from by omega⟩ fun e8 k8 => ?_
  replace hP : P4s (q.join 62 e8) := hP
  replace r30 : Res (q.join 62 e8) 0 30 (keepS (annI (q.join 62 e8) 4)) := r30
  replace r42 : Res (q.join 62 e8) 0 42 (keepS (annI (q.join 62 e8) 4 ++ annI (q.join 62 e8) 17)) := r42
  replace r50 : Res (q.join 62 e8) 0 50 (keepE (annI (q.join 62 e8) 8)) := r50
  replace hn : 0 ≤ (q.join 62 e8).iv 9 ∧ 0 ≤ (q.join 62 e8).iv 22 ∧ (q.join 62 e8).iv 9 ≤ 60 ∧ (q.join 62 e8).iv 22 ≤ 60 := hn
  replace hc : ∀ i j : Nat, (i : Int) < (q.join 62 e8).iv 9 → (q.join 62 e8).ic 59 i 0 j = (q.join 62 e8).ic 11 i 0 j ∧ (q.join 62 e8).bc 59 i 0 j = (q.join 62 e8).bc 11 i 0 j := hc
  replace hcap : (q.join 62 e8).iv 9 + (q.join 62 e8).iv 22 ≤ (q.join 62 e8).iv 60 ∧ (q.join 62 e8).iv 60 ≤ 9223372036854775807 := hcap
  replace hd : ∀ i j : Nat, (i : Int) < (q.join 62 e8).iv 9 → (q.join 62 e8).ic 61 i 0 j = (q.join 62 e8).ic 59 i 0 j ∧ (q.join 62 e8).bc 61 i 0 j = (q.join 62 e8).bc 59 i 0 j := hd
  replace hd2 : ∀ i j : Nat, (i : Int) < (q.join 62 e8).iv 22 → (q.join 62 e8).ic 61 (((q.join 62 e8).iv 9).toNat + i) 0 j = (q.join 62 e8).ic 24 i 0 j ∧ (q.join 62 e8).bc 61 (((q.join 62 e8).iv 9).toNat + i) 0 j = (q.join 62 e8).bc 24 i 0 j := hd2
  have r62 : Res (q.join 62 e8) 0 62 (keepE (annI (q.join 62 e8) 8 ++ annI (q.join 62 e8) 21)) :=
    ⟨k8.1, Eq.trans k8.2.1 (res_eq (congrArg keepE (by
      exact annI_cat (b := 8) (c := 21) hn.1 hn.2.1 rfl (fun i hi => Eq.trans (by simp [conEnv, erasCon, Env.join, Sub.nenv, assoc, CV.I, CV.B, upsI, upsB, Seg.I, Seg.B, SC.I, SC.B, IE.den, BE.den]) (((hd i 0 hi).1).trans (hc i 0 hi).1)) (fun i hi => Eq.trans (by simp [conEnv, erasCon, Env.join, Sub.nenv, assoc, CV.I, CV.B, upsI, upsB, Seg.I, Seg.B, SC.I, SC.B, IE.den, BE.den]) ((hd2 i 0 hi).1)))) (by exact notes_same rfl fun i _ => by simp [noteAt, conEnv, erasCon, Env.join, Sub.nenv, assoc, CV.I, CV.B, upsI, upsB, Seg.I, Seg.B, SC.I, SC.B, IE.den, BE.den]))⟩
  clear k8
  generalize q.join 62 e8 = q at *
  clear hn hc hcap hd hd2
  refine Sat.call rfl ⟨hP.1.1, (show q.iv 1 ≤ 1000000 from Int.le_trans hP.2.1 (by decide)), hP.1.2.2.2.1, (show q.iv 13 ≤ 1000000 from Int.le_trans hP.2.2.2.2.1 (by decide))⟩ fun e9 k9 => ?_
  replace hP : P4s (q.join 70 e9) := hP
  replace r30 : Res (q.join 70 e9) 0 30 (keepS (annI (q.join 70 e9) 4)) := r30
  replace r42 : Res (q.join 70 e9) 0 42 (keepS (annI (q.join 70 e9) 4 ++ annI (q.join 70 e9) 17)) := r42
  replace r50 : Res (q.join 70 e9) 0 50 (keepE (annI (q.join 70 e9) 8)) := r50
  replace r62 : Res (q.join 70 e9) 0 62 (keepE (annI (q.join 70 e9) 8 ++ annI (q.join 70 e9) 21)) := r62
  have r70 : Res (q.join 70 e9) 0 70 (keepP (annP (q.join 70 e9) 12)) :=
    ⟨k9.1, Eq.trans k9.2.1 (res_eq (congrArg keepP (by exact annP_same rfl fun i j => by simp [conEnv, spansCon, Env.join, Sub.nenv, assoc, CV.I, CV.B, upsI, upsB, Seg.I, Seg.B, SC.I, SC.B, IE.den, BE.den])) (by exact notes_same rfl fun i _ => by simp [noteAt, conEnv, spansCon, Env.join, Sub.nenv, assoc, CV.I, CV.B, upsI, upsB, Seg.I, Seg.B, SC.I, SC.B, IE.den, BE.den]))⟩
  clear k9
  generalize q.join 70 e9 = q at *
  have hn : 0 ≤ q.iv 13 ∧ 0 ≤ q.iv 26 ∧ q.iv 13 ≤ 60 ∧ q.iv 26 ≤ 60 := ⟨hP.1.2.2.2.1.2.1, hP.1.2.2.2.2.2.2.2.1, hP.2.2.2.2.1, hP.2.2.2.2.2.2.2.1⟩
  refine Sat.ob (by simp only [D.le, D.lef, D.lt, D.ltf, D.eq, D.eqf, D.not, D.notf, D.and, D.andf, D.or, D.orf, D.inr, D.var, D.lit, D.cellB, D.beq, D.beqf, D.litI, D.varI, D.add, D.sub, D.mul, D.min, D.max, D.cellI, D.i64min, D.i64max]; omega) (Sat.ob (nilOb hP.1.2.2.2.1) (Sat.ob (decide_eq_true hn.1) (Sat.new fun e10 hf => ?_)))
  have hc : ∀ i j : Nat, (i : Int) < (q.join 78 e10).iv 13 → (q.join 78 e10).ic 79 i 0 j = (q.join 78 e10).ic 15 i 0 j ∧ (q.join 78 e10).bc 79 i 0 j = (q.join 78 e10).bc 15 i 0 j := fun i j hi => by
    have := (hf _ (.tail _ (.tail _ (.tail _ (.head _)))) i j).2 hi
    simpa [CV.I, CV.B, Seg.I, Seg.B, upsI, upsB, IE.den] using this
  clear hf
  replace hP : P4s (q.join 78 e10) := hP
  replace r30 : Res (q.join 78 e10) 0 30 (keepS (annI (q.join 78 e10) 4)) := r30
  replace r42 : Res (q.join 78 e10) 0 42 (keepS (annI (q.join 78 e10) 4 ++ annI (q.join 78 e10) 17)) := r42
  replace r50 : Res (q.join 78 e10) 0 50 (keepE (annI (q.join 78 e10) 8)) := r50
  replace r62 : Res (q.join 78 e10) 0 62 (keepE (annI (q.join 78 e10) 8 ++ annI (q.join 78 e10) 21)) := r62
  replace r70 : Res (q.join 78 e10) 0 70 (keepP (annP (q.join 78 e10) 12)) := r70
  replace hn : 0 ≤ (q.join 78 e10).iv 13 ∧ 0 ≤ (q.join 78 e10).iv 26 ∧ (q.join 78 e10).iv 13 ≤ 60 ∧ (q.join 78 e10).iv 26 ≤ 60 := hn
  generalize q.join 78 e10 = q at *
  refine Sat.ob (by simp only [D.le, D.lef, D.lt, D.ltf, D.eq, D.eqf, D.not, D.notf, D.and, D.andf, D.or, D.orf, D.inr, D.var, D.lit, D.cellB, D.beq, D.beqf, D.litI, D.varI, D.add, D.sub, D.mul, D.min, D.max, D.cellI, D.i64min, D.i64max]; omega) (Sat.ob (nilOb hP.1.2.2.2.2.2.2) (Sat.ob (decide_eq_true hn.2.1) (Sat.new fun e11 hf => ?_)))
  have hcap : (q.join 80 e11).iv 13 + (q.join 80 e11).iv 26 ≤ (q.join 80 e11).iv 80 ∧ (q.join 80 e11).iv 80 ≤ 9223372036854775807 := by
    have := hf _ (.head _)
    simp only [D.be, D.le, D.lef, D.lt, D.ltf, D.eq, D.eqf, D.not, D.notf, D.and, D.andf, D.or, D.orf, D.inr, D.var, D.lit, D.cellB, D.beq, D.beqf, D.litI, D.varI, D.add, D.sub, D.mul, D.min, D.max, D.cellI, D.i64min, D.i64max] at this
    exact this
  have hd : ∀ i j : Nat, (i : Int) < (q.join 80 e11).iv 13 → (q.join 80 e11).ic 81 i 0 j = (q.join 80 e11).ic 79 i 0 j ∧ (q.join 80 e11).bc 81 i 0 j = (q.join 80 e11).bc 79 i 0 j := fun i j hi => by
    have := (hf _ (.tail _ (.tail _ (.tail _ (.head _)))) i j).1 hi
    simpa [CV.I, CV.B, Seg.I, Seg.B, upsI, upsB, IE.den] using this
  have hd2 : ∀ i j : Nat, (i : Int) < (q.join 80 e11).iv 26 → (q.join 80 e11).ic 81 (((q.join 80 e11).iv 13).toNat + i) 0 j = (q.join 80 e11).ic 28 i 0 j ∧ (q.join 80 e11).bc 81 (((q.join 80 e11).iv 13).toNat + i) 0 j = (q.join 80 e11).bc 28 i 0 j := fun i j hi => by
    have := (hf _ (.tail _ (.tail _ (.tail _ (.head _)))) i j).2 hi
    simpa [CV.I, CV.B, Seg.I, Seg.B, upsI, upsB, IE.den] using this
  clear hf
  replace hP : P4s (q.join 80 e11) := hP
  replace r30 : Res (q.join 80 e11) 0 30 (keepS (annI (q.join 80 e11) 4)) := r30
  replace r42 : Res (q.join 80 e11) 0 42 (keepS (annI (q.join 80 e11) 4 ++ annI (q.join 80 e11) 17)) := r42
  replace r50 : Res (q.join 80 e11) 0 50 (keepE (annI (q.join 80 e11) 8)) := r50
  replace r62 : Res (q.join 80 e11) 0 62 (keepE (annI (q.join 80 e11) 8 ++ annI (q.join 80 e11) 21)) := r62
  replace r70 : Res (q.join 80 e11) 0 70 (keepP (annP (q.join 80 e11) 12)) := r70
  replace hn : 0 ≤ (q.join 80 e11).iv 13 ∧ 0 ≤ (q.join 80 e11).iv 26 ∧ (q.join 80 e11).iv 13 ≤ 60 ∧ (q.join 80 e11).iv 26 ≤ 60 := hn
  replace hc : ∀ i j : Nat, (i : Int) < (q.join 80 e11).iv 13 → (q.join 80 e11).ic 79 i 0 j = (q.join 80 e11).ic 15 i 0 j ∧ (q.join 80 e11).bc 79 i 0 j = (q.join 80 e11).bc 15 i 0 j := hc
  generalize q.join 80 e11 = q at *
  refine Sat.call rfl ⟨hP.1.1, (show q.iv 1 ≤ 1000000 from Int.le_trans hP.2.1 (by decide)), ⟨fun h => (Bool.false_ne_true h).elim, show 0 ≤ q.iv 13 + q.iv 26 from by omega, hcap.1, hcap.2⟩, show q.iv 13 + q.iv 26 ≤ 1000000 from by omega⟩ fun e12 k12 => ?_
  replace hP : P4s (q.join 82 e12) := hP
  replace r30 : Res (q.join 82 e12) 0 30 (keepS (annI (q.join 82 e12) 4)) := r30
  replace r42 : Res (q.join 82 e12) 0 42 (keepS (annI (q.join 82 e12) 4 ++ annI (q.join 82 e12) 17)) := r42
  replace r50 : Res (q.join 82 e12) 0 50 (keepE (annI (q.join 82 e12) 8)) := r50
  replace r62 : Res (q.join 82 e12) 0 62 (keepE (annI (q.join 82 e12) 8 ++ annI (q.join 82 e12) 21)) := r62
  replace r70 : Res (q.join 82 e12) 0 70 (keepP (annP (q.join 82 e12) 12)) := r70
  replace hn : 0 ≤ (q.join 82 e12).iv 13 ∧ 0 ≤ (q.join 82 e12).iv 26 ∧ (q.join 82 e12).iv 13 ≤ 60 ∧ (q.join 82 e12).iv 26 ≤ 60 := hn
  replace hc : ∀ i j : Nat, (i : Int) < (q.join 82 e12).iv 13 → (q.join 82 e12).ic 79 i 0 j = (q.join 82 e12).ic 15 i 0 j ∧ (q.join 82 e12).bc 79 i 0 j = (q.join 82 e12).bc 15 i 0 j := hc
  replace hcap : (q.join 82 e12).iv 13 + (q.join 82 e12).iv 26 ≤ (q.join 82 e12).iv 80 ∧ (q.join 82 e12).iv 80 ≤ 9223372036854775807 := hcap
  replace hd : ∀ i j : Nat, (i : Int) < (q.join 82 e12).iv 13 → (q.join 82 e12).ic 81 i 0 j = (q.join 82 e12).ic 79 i 0 j ∧ (q.join 82 e12).bc 81 i 0 j = (q.join 82 e12).bc 79 i 0 j := hd
  replace hd2 : ∀ i j : Nat, (i : Int) < (q.join 82 e12).iv 26 → (q.join 82 e12).ic 81 (((q.join 82 e12).iv 13).toNat + i) 0 j = (q.join 82 e12).ic 28 i 0 j ∧ (q.join 82 e12).bc 81 (((q.join 82 e12).iv 13).toNat + i) 0 j = (q.join 82 e12).bc 28 i 0 j := hd2
  have r82 : Res (q.join 82 e12) 0 82 (keepP (annP (q.join 82 e12) 12 ++ annP (q.join 82 e12) 25)) :=
    ⟨k12.1, Eq.trans k12.2.1 (res_eq (congrArg keepP (by
      exact annP_cat (b := 12) (c := 25) hn.1 hn.2.1 rfl (fun i j hi => ⟨Eq.trans (by simp [conEnv, spansCon, Env.join, Sub.nenv, assoc, CV.I, CV.B, upsI, upsB, Seg.I, Seg.B, SC.I, SC.B, IE.den, BE.den]) (((hd i j hi).1).trans (hc i j hi).1), Eq.trans (by simp [conEnv, spansCon, Env.join, Sub.nenv, assoc, CV.I, CV.B, upsI, upsB, Seg.I, Seg.B, SC.I, SC.B, IE.den, BE.den]) (((hd i j hi).2).trans (hc i j hi).2)⟩) (fun i j hi => ⟨Eq.trans (by simp [conEnv, spansCon, Env.join, Sub.nenv, assoc, CV.I, CV.B, upsI, upsB, Seg.I, Seg.B, SC.I, SC.B, IE.den, BE.den]) ((hd2 i j hi).1), Eq.trans (by simp [conEnv, spansCon, Env.join, Sub.nenv, assoc, CV.I, CV.B, upsI, upsB, Seg.I, Seg.B, SC.I, SC.B, IE.den, BE.den]) ((hd2 i j hi).2)⟩))) (by exact notes_same rfl fun i _ => by simp [noteAt, conEnv, spansCon, Env.join, Sub.nenv, assoc, CV.I, CV.B, upsI, upsB, Seg.I, Seg.B, SC.I, SC.B, IE.den, BE.den]))⟩
  clear k12
  generalize q.join 82 e12 = q at *
  clear hn hc hcap hd hd2
  have hT := hP.2.2.2.2.2.2.2.2
  refine Sat.call rfl ⟨hP.1.1, (show q.iv 1 ≤ 1000000 from Int.le_trans hP.2.1 (by decide)), show -9223372036854775808 ≤ max (q.iv 16) (q.iv 29) from by omega, show max (q.iv 16) (q.iv 29) ≤ 9223372036854775807 from by omega⟩ fun e13 k13 => ?_
  replace hP : P4s (q.join 90 e13) := hP
  replace r30 : Res (q.join 90 e13) 0 30 (keepS (annI (q.join 90 e13) 4)) := r30
  replace r42 : Res (q.join 90 e13) 0 42 (keepS (annI (q.join 90 e13) 4 ++ annI (q.join 90 e13) 17)) := r42
  replace r50 : Res (q.join 90 e13) 0 50 (keepE (annI (q.join 90 e13) 8)) := r50
  replace r62 : Res (q.join 90 e13) 0 62 (keepE (annI (q.join 90 e13) 8 ++ annI (q.join 90 e13) 21)) := r62
  replace r70 : Res (q.join 90 e13) 0 70 (keepP (annP (q.join 90 e13) 12)) := r70
  replace r82 : Res (q.join 90 e13) 0 82 (keepP (annP (q.join 90 e13) 12 ++ annP (q.join 90 e13) 25)) := r82
  replace hT : 0 ≤ (q.join 90 e13).iv 16 ∧ (q.join 90 e13).iv 16 ≤ 1099511627776 ∧ 0 ≤ (q.join 90 e13).iv 29 ∧ (q.join 90 e13).iv 29 ≤ 1099511627776 := hT
  have r90 : Res (q.join 90 e13) 0 90 (keepT (max ((q.join 90 e13).iv 16) ((q.join 90 e13).iv 29))) :=
    ⟨k13.1, Eq.trans k13.2.1 (res_eq (rfl) (by exact notes_same rfl fun i _ => by simp [noteAt, conEnv, epochsCon, Env.join, Sub.nenv, assoc, CV.I, CV.B, upsI, upsB, Seg.I, Seg.B, SC.I, SC.B, IE.den, BE.den]))⟩
  clear k13
  generalize q.join 90 e13 = q at *
  refine Sat.call rfl ⟨hP.1.1, (show q.iv 1 ≤ 1000000 from Int.le_trans hP.2.1 (by decide)), show -9223372036854775808 ≤ min (q.iv 16) (q.iv 29) from by omega, show min (q.iv 16) (q.iv 29) ≤ 9223372036854775807 from by omega⟩ fun e14 k14 => ?_
  replace hP : P4s (q.join 98 e14) := hP
  replace r30 : Res (q.join 98 e14) 0 30 (keepS (annI (q.join 98 e14) 4)) := r30
  replace r42 : Res (q.join 98 e14) 0 42 (keepS (annI (q.join 98 e14) 4 ++ annI (q.join 98 e14) 17)) := r42
  replace r50 : Res (q.join 98 e14) 0 50 (keepE (annI (q.join 98 e14) 8)) := r50
  replace r62 : Res (q.join 98 e14) 0 62 (keepE (annI (q.join 98 e14) 8 ++ annI (q.join 98 e14) 21)) := r62
  replace r70 : Res (q.join 98 e14) 0 70 (keepP (annP (q.join 98 e14) 12)) := r70
  replace r82 : Res (q.join 98 e14) 0 82 (keepP (annP (q.join 98 e14) 12 ++ annP (q.join 98 e14) 25)) := r82
  replace hT : 0 ≤ (q.join 98 e14).iv 16 ∧ (q.join 98 e14).iv 16 ≤ 1099511627776 ∧ 0 ≤ (q.join 98 e14).iv 29 ∧ (q.join 98 e14).iv 29 ≤ 1099511627776 := hT
  replace r90 : Res (q.join 98 e14) 0 90 (keepT (max ((q.join 98 e14).iv 16) ((q.join 98 e14).iv 29))) := r90
  have r98 : Res (q.join 98 e14) 0 98 (keepT (min ((q.join 98 e14).iv 16) ((q.join 98 e14).iv 29))) :=
    ⟨k14.1, Eq.trans k14.2.1 (res_eq (rfl) (by exact notes_same rfl fun i _ => by simp [noteAt, conEnv, epochsCon, Env.join, Sub.nenv, assoc, CV.I, CV.B, upsI, upsB, Seg.I, Seg.B, SC.I, SC.B, IE.den, BE.den]))⟩
  clear k14
  generalize q.join 98 e14 = q at *
  refine Sat.call rfl ⟨hP.1.1, (show q.iv 1 ≤ 1000000 from Int.le_trans hP.2.1 (by decide)), ⟨fun _ => rfl, show (0 : Int) ≤ 0 by decide, Int.le_refl _, show (0 : Int) ≤ 9223372036854775807 by decide⟩, show (0 : Int) ≤ 1000000 by decide⟩ fun e15 k15 => ?_
  replace hP : P4s (q.join 106 e15) := hP
  replace r30 : Res (q.join 106 e15) 0 30 (keepS (annI (q.join 106 e15) 4)) := r30
  replace r42 : Res (q.join 106 e15) 0 42 (keepS (annI (q.join 106 e15) 4 ++ annI (q.join 106 e15) 17)) := r42
  replace r50 : Res (q.join 106 e15) 0 50 (keepE (annI (q.join 106 e15) 8)) := r50
  replace r62 : Res (q.join 106 e15) 0 62 (keepE (annI (q.join 106 e15) 8 ++ annI (q.join 106 e15) 21)) := r62
  replace r70 : Res (q.join 106 e15) 0 70 (keepP (annP (q.join 106 e15) 12)) := r70
  replace r82 : Res (q.join 106 e15) 0 82 (keepP (annP (q.join 106 e15) 12 ++ annP (q.join 106 e15) 25)) := r82
  replace hT : 0 ≤ (q.join 106 e15).iv 16 ∧ (q.join 106 e15).iv 16 ≤ 1099511627776 ∧ 0 ≤ (q.join 106 e15).iv 29 ∧ (q.join 106 e15).iv 29 ≤ 1099511627776 := hT
  replace r90 : Res (q.join 106 e15) 0 90 (keepT (max ((q.join 106 e15).iv 16) ((q.join 106 e15).iv 29))) := r90
  replace r98 : Res (q.join 106 e15) 0 98 (keepT (min ((q.join 106 e15).iv 16) ((q.join 106 e15).iv 29))) := r98
  have r106 : Res (q.join 106 e15) 0 106 (keepS []) :=
    ⟨k15.1, Eq.trans k15.2.1 (res_eq (rfl) (by exact notes_same rfl fun i _ => by simp [noteAt, conEnv, slotsCon, Env.join, Sub.nenv, assoc, CV.I, CV.B, upsI, upsB, Seg.I, Seg.B, SC.I, SC.B, IE.den, BE.den]))⟩
  clear k15
  generalize q.join 106 e15 = q at *
  refine Sat.call rfl ⟨hP.1.1, (show q.iv 1 ≤ 1000000 from Int.le_trans hP.2.1 (by decide)), ⟨fun h => (Bool.false_ne_true h).elim, show (0 : Int) ≤ 2 by decide, Int.le_refl _, show (2 : Int) ≤ 9223372036854775807 by decide⟩, show (2 : Int) ≤ 1000000 by decide⟩ fun e16 k16 => ?_
  replace hP : P4s (q.join 114 e16) := hP
  replace r30 : Res (q.join 114 e16) 0 30 (keepS (annI (q.join 114 e16) 4)) := r30
  replace r42 : Res (q.join 114 e16) 0 42 (keepS (annI (q.join 114 e16) 4 ++ annI (q.join 114 e16) 17)) := r42
  replace r50 : Res (q.join 114 e16) 0 50 (keepE (annI (q.join 114 e16) 8)) := r50
  replace r62 : Res (q.join 114 e16) 0 62 (keepE (annI (q.join 114 e16) 8 ++ annI (q.join 114 e16) 21)) := r62
  replace r70 : Res (q.join 114 e16) 0 70 (keepP (annP (q.join 114 e16) 12)) := r70
  replace r82 : Res (q.join 114 e16) 0 82 (keepP (annP (q.join 114 e16) 12 ++ annP (q.join 114 e16) 25)) := r82
  replace hT : 0 ≤ (q.join 114 e16).iv 16 ∧ (q.join 114 e16).iv 16 ≤ 1099511627776 ∧ 0 ≤ (q.join 114 e16).iv 29 ∧ (q.join 114 e16).iv 29 ≤ 1099511627776 := hT
  replace r90 : Res (q.join 114 e16) 0 90 (keepT (max ((q.join 114 e16).iv 16) ((q.join 114 e16).iv 29))) := r90
  replace r98 : Res (q.join 114 e16) 0 98 (keepT (min ((q.join 114 e16).iv 16) ((q.join 114 e16).iv 29))) := r98
  replace r106 : Res (q.join 114 e16) 0 106 (keepS []) := r106
  have r114 : Res (q.join 114 e16) 0 114 (keepE [0, -1]) :=
    ⟨k16.1, Eq.trans k16.2.1 (res_eq (rfl) (by exact notes_same rfl fun i _ => by simp [noteAt, conEnv, erasCon, Env.join, Sub.nenv, assoc, CV.I, CV.B, upsI, upsB, Seg.I, Seg.B, SC.I, SC.B, IE.den, BE.den]))⟩
  clear k16
  generalize q.join 114 e16 = q at *
  refine Sat.call rfl ⟨hP.1.1, (show q.iv 1 ≤ 1000000 from Int.le_trans hP.2.1 (by decide)), ⟨fun h => (Bool.false_ne_true h).elim, show (0 : Int) ≤ 1 by decide, Int.le_refl _, show (1 : Int) ≤ 9223372036854775807 by decide⟩, show (1 : Int) ≤ 1000000 by decide⟩ fun e17 k17 => ?_
  replace hP : P4s (q.join 122 e17) := hP
  replace r30 : Res (q.join 122 e17) 0 30 (keepS (annI (q.join 122 e17) 4)) := r30
  replace r42 : Res (q.join 122 e17) 0 42 (keepS (annI (q.join 122 e17) 4 ++ annI (q.join 122 e17) 17)) := r42
  replace r50 : Res (q.join 122 e17) 0 50 (keepE (annI (q.join 122 e17) 8)) := r50
  replace r62 : Res (q.join 122 e17) 0 62 (keepE (annI (q.join 122 e17) 8 ++ annI (q.join 122 e17) 21)) := r62
  replace r70 : Res (q.join 122 e17) 0 70 (keepP (annP (q.join 122 e17) 12)) := r70
  replace r82 : Res (q.join 122 e17) 0 82 (keepP (annP (q.join 122 e17) 12 ++ annP (q.join 122 e17) 25)) := r82
  replace hT : 0 ≤ (q.join 122 e17).iv 16 ∧ (q.join 122 e17).iv 16 ≤ 1099511627776 ∧ 0 ≤ (q.join 122 e17).iv 29 ∧ (q.join 122 e17).iv 29 ≤ 1099511627776 := hT
  replace r90 : Res (q.join 122 e17) 0 90 (keepT (max ((q.join 122 e17).iv 16) ((q.join 122 e17).iv 29))) := r90
  replace r98 : Res (q.join 122 e17) 0 98 (keepT (min ((q.join 122 e17).iv 16) ((q.join 122 e17).iv 29))) := r98
  replace r106 : Res (q.join 122 e17) 0 106 (keepS []) := r106
  replace r114 : Res (q.join 122 e17) 0 114 (keepE [0, -1]) := r114
  have r122 : Res (q.join 122 e17) 0 122 (keepP [(false, 0, 1099511627776)]) :=
    ⟨k17.1, Eq.trans k17.2.1 (res_eq (rfl) (by exact notes_same rfl fun i _ => by simp [noteAt, conEnv, spansCon, Env.join, Sub.nenv, assoc, CV.I, CV.B, upsI, upsB, Seg.I, Seg.B, SC.I, SC.B, IE.den, BE.den]))⟩
  clear k17
  generalize q.join 122 e17 = q at *
  refine Sat.call rfl ⟨r42.1, show q.iv 43 ≤ 1000000 from Int.le_trans (r42.len hP.1.1.2.1) (Int.le_trans hP.2.1 (by decide)), r30.1, show q.iv 31 ≤ 1000000 from Int.le_trans (r30.len hP.1.1.2.1) (Int.le_trans hP.2.1 (by decide))⟩ fun e18 k18 => ?_
  have g1 : (q.join 130 e18).bv 130 = true :=
    in_use k18 (by exact notes_same rfl fun i _ => by simp [noteAt, conEnv, inCon, Env.join, Sub.nenv, assoc, CV.I, CV.B, upsI, upsB, Seg.I, Seg.B, SC.I, SC.B, IE.den, BE.den]) (by exact notes_same rfl fun i _ => by simp [noteAt, conEnv, inCon, Env.join, Sub.nenv, assoc, CV.I, CV.B, upsI, upsB, Seg.I, Seg.B, SC.I, SC.B, IE.den, BE.den]) r42 r30 (keepS_app)
  clear k18
  replace hP : P4s (q.join 130 e18) := hP
  replace r30 : Res (q.join 130 e18) 0 30 (keepS (annI (q.join 130 e18) 4)) := r30
  replace r42 : Res (q.join 130 e18) 0 42 (keepS (annI (q.join 130 e18) 4 ++ annI (q.join 130 e18) 17)) := r42
  replace r50 : Res (q.join 130 e18) 0 50 (keepE (annI (q.join 130 e18) 8)) := r50
  replace r62 : Res (q.join 130 e18) 0 62 (keepE (annI (q.join 130 e18) 8 ++ annI (q.join 130 e18) 21)) := r62
  replace r70 : Res (q.join 130 e18) 0 70 (keepP (annP (q.join 130 e18) 12)) := r70
  replace r82 : Res (q.join 130 e18) 0 82 (keepP (annP (q.join 130 e18) 12 ++ annP (q.join 130 e18) 25)) := r82
  replace hT : 0 ≤ (q.join 130 e18).iv 16 ∧ (q.join 130 e18).iv 16 ≤ 1099511627776 ∧ 0 ≤ (q.join 130 e18).iv 29 ∧ (q.join 130 e18).iv 29 ≤ 1099511627776 := hT
  replace r90 : Res (q.join 130 e18) 0 90 (keepT (max ((q.join 130 e18).iv 16) ((q.join 130 e18).iv 29))) := r90
  replace r98 : Res (q.join 130 e18) 0 98 (keepT (min ((q.join 130 e18).iv 16) ((q.join 130 e18).iv 29))) := r98
  replace r106 : Res (q.join 130 e18) 0 106 (keepS []) := r106
  replace r114 : Res (q.join 130 e18) 0 114 (keepE [0, -1]) := r114
  replace r122 : Res (q.join 130 e18) 0 122 (keepP [(false, 0, 1099511627776)]) := r122
  generalize q.join 130 e18 = q at *
  refine Sat.br (fun _ => ?_) (fun hf => (Bool.false_ne_true (hf.symm.trans g1)).elim)
  refine Sat.call rfl ⟨r62.1, show q.iv 63 ≤ 1000000 from Int.le_trans (r62.len hP.1.1.2.1) (Int.le_trans hP.2.1 (by decide)), r50.1, show q.iv 51 ≤ 1000000 from Int.le_trans (r50.len hP.1.1.2.1) (Int.le_trans hP.2.1 (by decide))⟩ fun e19 k19 => ?_
  have g2 : (q.join 131 e19).bv 131 = true :=
    in_use k19 (by exact notes_same rfl fun i _ => by simp [noteAt, conEnv, inCon, Env.join, Sub.nenv, assoc, CV.I, CV.B, upsI, upsB, Seg.I, Seg.B, SC.I, SC.B, IE.den, BE.den]) (by exact notes_same rfl fun i _ => by simp [noteAt, conEnv, inCon, Env.join, Sub.nenv, assoc, CV.I, CV.B, upsI, upsB, Seg.I, Seg.B, SC.I, SC.B, IE.den, BE.den]) r62 r50 (keepE_app)
  clear k19
  replace hP : P4s (q.join 131 e19) := hP
  replace r30 : Res (q.join 131 e19) 0 30 (keepS (annI (q.join 131 e19) 4)) := r30
  replace r42 : Res (q.join 131 e19) 0 42 (keepS (annI (q.join 131 e19) 4 ++ annI (q.join 131 e19) 17)) := r42
  replace r50 : Res (q.join 131 e19) 0 50 (keepE (annI (q.join 131 e19) 8)) := r50
  replace r62 : Res (q.join 131 e19) 0 62 (keepE (annI (q.join 131 e19) 8 ++ annI (q.join 131 e19) 21)) := r62
  replace r70 : Res (q.join 131 e19) 0 70 (keepP (annP (q.join 131 e19) 12)) := r70
  replace r82 : Res (q.join 131 e19) 0 82 (keepP (annP (q.join 131 e19) 12 ++ annP (q.join 131 e19) 25)) := r82
  replace hT : 0 ≤ (q.join 131 e19).iv 16 ∧ (q.join 131 e19).iv 16 ≤ 1099511627776 ∧ 0 ≤ (q.join 131 e19).iv 29 ∧ (q.join 131 e19).iv 29 ≤ 1099511627776 := hT
  replace r90 : Res (q.join 131 e19) 0 90 (keepT (max ((q.join 131 e19).iv 16) ((q.join 131 e19).iv 29))) := r90
  replace r98 : Res (q.join 131 e19) 0 98 (keepT (min ((q.join 131 e19).iv 16) ((q.join 131 e19).iv 29))) := r98
  replace r106 : Res (q.join 131 e19) 0 106 (keepS []) := r106
  replace r114 : Res (q.join 131 e19) 0 114 (keepE [0, -1]) := r114
  replace r122 : Res (q.join 131 e19) 0 122 (keepP [(false, 0, 1099511627776)]) := r122
  replace g1 : (q.join 131 e19).bv 130 = true := g1
  generalize q.join 131 e19 = q at *
  refine Sat.br (fun _ => ?_) (fun hf => (Bool.false_ne_true (hf.symm.trans g2)).elim)
  refine Sat.call rfl ⟨r82.1, show q.iv 83 ≤ 1000000 from Int.le_trans (r82.len hP.1.1.2.1) (Int.le_trans hP.2.1 (by decide)), r70.1, show q.iv 71 ≤ 1000000 from Int.le_trans (r70.len hP.1.1.2.1) (Int.le_trans hP.2.1 (by decide))⟩ fun e20 k20 => ?_
  have g3 : (q.join 132 e20).bv 132 = true :=
    in_use k20 (by exact notes_same rfl fun i _ => by simp [noteAt, conEnv, inCon, Env.join, Sub.nenv, assoc, CV.I, CV.B, upsI, upsB, Seg.I, Seg.B, SC.I, SC.B, IE.den, BE.den]) (by exact notes_same rfl fun i _ => by simp [noteAt, conEnv, inCon, Env.join, Sub.nenv, assoc, CV.I, CV.B, upsI, upsB, Seg.I, Seg.B, SC.I, SC.B, IE.den, BE.den]) r82 r70 (keepP_app)
  clear k20
  replace hP : P4s (q.join 132 e20) := hP
  replace r30 : Res (q.join 132 e20) 0 30 (keepS (annI (q.join 132 e20) 4)) := r30
  replace r42 : Res (q.join 132 e20) 0 42 (keepS (annI (q.join 132 e20) 4 ++ annI (q.join 132 e20) 17)) := r42
  replace r50 : Res (q.join 132 e20) 0 50 (keepE (annI (q.join 132 e20) 8)) := r50
  replace r62 : Res (q.join 132 e20) 0 62 (keepE (annI (q.join 132 e20) 8 ++ annI (q.join 132 e20) 21)) := r62
  replace r70 : Res (q.join 132 e20) 0 70 (keepP (annP (q.join 132 e20) 12)) := r70
  replace r82 : Res (q.join 132 e20) 0 82 (keepP (annP (q.join 132 e20) 12 ++ annP (q.join 132 e20) 25)) := r82
  replace hT : 0 ≤ (q.join 132 e20).iv 16 ∧ (q.join 132 e20).iv 16 ≤ 1099511627776 ∧ 0 ≤ (q.join 132 e20).iv 29 ∧ (q.join 132 e20).iv 29 ≤ 1099511627776 := hT
  replace r90 : Res (q.join 132 e20) 0 90 (keepT (max ((q.join 132 e20).iv 16) ((q.join 132 e20).iv 29))) := r90
  replace r98 : Res (q.join 132 e20) 0 98 (keepT (min ((q.join 132 e20).iv 16) ((q.join 132 e20).iv 29))) := r98
  replace r106 : Res (q.join 132 e20) 0 106 (keepS []) := r106
  replace r114 : Res (q.join 132 e20) 0 114 (keepE [0, -1]) := r114
  replace r122 : Res (q.join 132 e20) 0 122 (keepP [(false, 0, 1099511627776)]) := r122
  replace g1 : (q.join 132 e20).bv 130 = true := g1
  replace g2 : (q.join 132 e20).bv 131 = true := g2
  generalize q.join 132 e20 = q at *
  refine Sat.br (fun _ => ?_) (fun hf => (Bool.false_ne_true (hf.symm.trans g3)).elim)
  refine Sat.call rfl ⟨r98.1, show q.iv 99 ≤ 1000000 from Int.le_trans (r98.len hP.1.1.2.1) (Int.le_trans hP.2.1 (by decide)), r90.1, show q.iv 91 ≤ 1000000 from Int.le_trans (r90.len hP.1.1.2.1) (Int.le_trans hP.2.1 (by decide))⟩ fun e21 k21 => ?_
  have g4 : (q.join 133 e21).bv 133 = true :=
    in_use k21 (by exact notes_same rfl fun i _ => by simp [noteAt, conEnv, inCon, Env.join, Sub.nenv, assoc, CV.I, CV.B, upsI, upsB, Seg.I, Seg.B, SC.I, SC.B, IE.den, BE.den]) (by exact notes_same rfl fun i _ => by simp [noteAt, conEnv, inCon, Env.join, Sub.nenv, assoc, CV.I, CV.B, upsI, upsB, Seg.I, Seg.B, SC.I, SC.B, IE.den, BE.den]) r98 r90 (fun n => keepT_mono hT.1 hT.2.2.1)
  clear k21
  replace hP : P4s (q.join 133 e21) := hP
  replace r30 : Res (q.join 133 e21) 0 30 (keepS (annI (q.join 133 e21) 4)) := r30
  replace r42 : Res (q.join 133 e21) 0 42 (keepS (annI (q.join 133 e21) 4 ++ annI (q.join 133 e21) 17)) := r42
  replace r50 : Res (q.join 133 e21) 0 50 (keepE (annI (q.join 133 e21) 8)) := r50
  replace r62 : Res (q.join 133 e21) 0 62 (keepE (annI (q.join 133 e21) 8 ++ annI (q.join 133 e21) 21)) := r62
  replace r70 : Res (q.join 133 e21) 0 70 (keepP (annP (q.join 133 e21) 12)) := r70
  replace r82 : Res (q.join 133 e21) 0 82 (keepP (annP (q.join 133 e21) 12 ++ annP (q.join 133 e21) 25)) := r82
  replace hT : 0 ≤ (q.join 133 e21).iv 16 ∧ (q.join 133 e21).iv 16 ≤ 1099511627776 ∧ 0 ≤ (q.join 133 e21).iv 29 ∧ (q.join 133 e21).iv 29 ≤ 1099511627776 := hT
  replace r90 : Res (q.join 133 e21) 0 90 (keepT (max ((q.join 133 e21).iv 16) ((q.join 133 e21).iv 29))) := r90
  replace r98 : Res (q.join 133 e21) 0 98 (keepT (min ((q.join 133 e21).iv 16) ((q.join 133 e21).iv 29))) := r98
  replace r106 : Res (q.join 133 e21) 0 106 (keepS []) := r106
  replace r114 : Res (q.join 133 e21) 0 114 (keepE [0, -1]) := r114
  replace r122 : Res (q.join 133 e21) 0 122 (keepP [(false, 0, 1099511627776)]) := r122
  replace g1 : (q.join 133 e21).bv 130 = true := g1
  replace g2 : (q.join 133 e21).bv 131 = true := g2
  replace g3 : (q.join 133 e21).bv 132 = true := g3
  generalize q.join 133 e21 = q at *
  refine Sat.br (fun _ => ?_) (fun hf => (Bool.false_ne_true (hf.symm.trans g4)).elim)
  refine Sat.call rfl ⟨r106.1, show q.iv 107 ≤ 1000000 from Int.le_trans (r106.len hP.1.1.2.1) (Int.le_trans hP.2.1 (by decide)), hP.1.1, (show q.iv 1 ≤ 1000000 from Int.le_trans hP.2.1 (by decide))⟩ fun e22 k22 => ?_
  have g5 : (q.join 134 e22).bv 134 = true :=
    same_use k22 (by exact notes_same rfl fun i _ => by simp [noteAt, conEnv, sameCon, Env.join, Sub.nenv, assoc, CV.I, CV.B, upsI, upsB, Seg.I, Seg.B, SC.I, SC.B, IE.den, BE.den]) (by exact notes_same rfl fun i _ => by simp [noteAt, conEnv, sameCon, Env.join, Sub.nenv, assoc, CV.I, CV.B, upsI, upsB, Seg.I, Seg.B, SC.I, SC.B, IE.den, BE.den]) (r106.all (fun _ => rfl))
  clear k22
  replace hP : P4s (q.join 134 e22) := hP
  replace r30 : Res (q.join 134 e22) 0 30 (keepS (annI (q.join 134 e22) 4)) := r30
  replace r42 : Res (q.join 134 e22) 0 42 (keepS (annI (q.join 134 e22) 4 ++ annI (q.join 134 e22) 17)) := r42
  replace r50 : Res (q.join 134 e22) 0 50 (keepE (annI (q.join 134 e22) 8)) := r50
  replace r62 : Res (q.join 134 e22) 0 62 (keepE (annI (q.join 134 e22) 8 ++ annI (q.join 134 e22) 21)) := r62
  replace r70 : Res (q.join 134 e22) 0 70 (keepP (annP (q.join 134 e22) 12)) := r70
  replace r82 : Res (q.join 134 e22) 0 82 (keepP (annP (q.join 134 e22) 12 ++ annP (q.join 134 e22) 25)) := r82
  replace hT : 0 ≤ (q.join 134 e22).iv 16 ∧ (q.join 134 e22).iv 16 ≤ 1099511627776 ∧ 0 ≤ (q.join 134 e22).iv 29 ∧ (q.join 134 e22).iv 29 ≤ 1099511627776 := hT
  replace r90 : Res (q.join 134 e22) 0 90 (keepT (max ((q.join 134 e22).iv 16) ((q.join 134 e22).iv 29))) := r90
  replace r98 : Res (q.join 134 e22) 0 98 (keepT (min ((q.join 134 e22).iv 16) ((q.join 134 e22).iv 29))) := r98
  replace r106 : Res (q.join 134 e22) 0 106 (keepS []) := r106
  replace r114 : Res (q.join 134 e22) 0 114 (keepE [0, -1]) := r114
  replace r122 : Res (q.join 134 e22) 0 122 (keepP [(false, 0, 1099511627776)]) := r122
  replace g1 : (q.join 134 e22).bv 130 = true := g1
  replace g2 : (q.join 134 e22).bv 131 = true := g2
  replace g3 : (q.join 134 e22).bv 132 = true := g3
  replace g4 : (q.join 134 e22).bv 133 = true := g4
  generalize q.join 134 e22 = q at *
  refine Sat.br (fun _ => ?_) (fun hf => (Bool.false_ne_true (hf.symm.trans g5)).elim)
  refine Sat.call rfl ⟨r114.1, show q.iv 115 ≤ 1000000 from Int.le_trans (r114.len hP.1.1.2.1) (Int.le_trans hP.2.1 (by decide)), hP.1.1, (show q.iv 1 ≤ 1000000 from Int.le_trans hP.2.1 (by decide))⟩ fun e23 k23 => ?_
  have g6 : (q.join 135 e23).bv 135 = true :=
    same_use k23 (by exact notes_same rfl fun i _ => by simp [noteAt, conEnv, sameCon, Env.join, Sub.nenv, assoc, CV.I, CV.B, upsI, upsB, Seg.I, Seg.B, SC.I, SC.B, IE.den, BE.den]) (by exact notes_same rfl fun i _ => by simp [noteAt, conEnv, sameCon, Env.join, Sub.nenv, assoc, CV.I, CV.B, upsI, upsB, Seg.I, Seg.B, SC.I, SC.B, IE.den, BE.den]) (r114.all (keepE_none))
  clear k23
  replace hP : P4s (q.join 135 e23) := hP
  replace r30 : Res (q.join 135 e23) 0 30 (keepS (annI (q.join 135 e23) 4)) := r30
  replace r42 : Res (q.join 135 e23) 0 42 (keepS (annI (q.join 135 e23) 4 ++ annI (q.join 135 e23) 17)) := r42
  replace r50 : Res (q.join 135 e23) 0 50 (keepE (annI (q.join 135 e23) 8)) := r50
  replace r62 : Res (q.join 135 e23) 0 62 (keepE (annI (q.join 135 e23) 8 ++ annI (q.join 135 e23) 21)) := r62
  replace r70 : Res (q.join 135 e23) 0 70 (keepP (annP (q.join 135 e23) 12)) := r70
  replace r82 : Res (q.join 135 e23) 0 82 (keepP (annP (q.join 135 e23) 12 ++ annP (q.join 135 e23) 25)) := r82
  replace hT : 0 ≤ (q.join 135 e23).iv 16 ∧ (q.join 135 e23).iv 16 ≤ 1099511627776 ∧ 0 ≤ (q.join 135 e23).iv 29 ∧ (q.join 135 e23).iv 29 ≤ 1099511627776 := hT
  replace r90 : Res (q.join 135 e23) 0 90 (keepT (max ((q.join 135 e23).iv 16) ((q.join 135 e23).iv 29))) := r90
  replace r98 : Res (q.join 135 e23) 0 98 (keepT (min ((q.join 135 e23).iv 16) ((q.join 135 e23).iv 29))) := r98
  replace r106 : Res (q.join 135 e23) 0 106 (keepS []) := r106
  replace r114 : Res (q.join 135 e23) 0 114 (keepE [0, -1]) := r114
  replace r122 : Res (q.join 135 e23) 0 122 (keepP [(false, 0, 1099511627776)]) := r122
  replace g1 : (q.join 135 e23).bv 130 = true := g1
  replace g2 : (q.join 135 e23).bv 131 = true := g2
  replace g3 : (q.join 135 e23).bv 132 = true := g3
  replace g4 : (q.join 135 e23).bv 133 = true := g4
  replace g5 : (q.join 135 e23).bv 134 = true := g5
  generalize q.join 135 e23 = q at *
  refine Sat.br (fun _ => ?_) (fun hf => (Bool.false_ne_true (hf.symm.trans g6)).elim)
  refine Sat.call rfl ⟨r122.1, show q.iv 123 ≤ 1000000 from Int.le_trans (r122.len hP.1.1.2.1) (Int.le_trans hP.2.1 (by decide)), hP.1.1, (show q.iv 1 ≤ 1000000 from Int.le_trans hP.2.1 (by decide))⟩ fun e24 k24 => ?_
  have g7 : (q.join 136 e24).bv 136 = true :=
    same_use k24 (by exact notes_same rfl fun i _ => by simp [noteAt, conEnv, sameCon, Env.join, Sub.nenv, assoc, CV.I, CV.B, upsI, upsB, Seg.I, Seg.B, SC.I, SC.B, IE.den, BE.den]) (by exact notes_same rfl fun i _ => by simp [noteAt, conEnv, sameCon, Env.join, Sub.nenv, assoc, CV.I, CV.B, upsI, upsB, Seg.I, Seg.B, SC.I, SC.B, IE.den, BE.den]) (r122.all (keepP_none))
  clear k24
  replace hP : P4s (q.join 136 e24) := hP
  replace r30 : Res (q.join 136 e24) 0 30 (keepS (annI (q.join 136 e24) 4)) := r30
  replace r42 : Res (q.join 136 e24) 0 42 (keepS (annI (q.join 136 e24) 4 ++ annI (q.join 136 e24) 17)) := r42
  replace r50 : Res (q.join 136 e24) 0 50 (keepE (annI (q.join 136 e24) 8)) := r50
  replace r62 : Res (q.join 136 e24) 0 62 (keepE (annI (q.join 136 e24) 8 ++ annI (q.join 136 e24) 21)) := r62
  replace r70 : Res (q.join 136 e24) 0 70 (keepP (annP (q.join 136 e24) 12)) := r70
  replace r82 : Res (q.join 136 e24) 0 82 (keepP (annP (q.join 136 e24) 12 ++ annP (q.join 136 e24) 25)) := r82
  replace hT : 0 ≤ (q.join 136 e24).iv 16 ∧ (q.join 136 e24).iv 16 ≤ 1099511627776 ∧ 0 ≤ (q.join 136 e24).iv 29 ∧ (q.join 136 e24).iv 29 ≤ 1099511627776 := hT
  replace r90 : Res (q.join 136 e24) 0 90 (keepT (max ((q.join 136 e24).iv 16) ((q.join 136 e24).iv 29))) := r90
  replace r98 : Res (q.join 136 e24) 0 98 (keepT (min ((q.join 136 e24).iv 16) ((q.join 136 e24).iv 29))) := r98
  replace r106 : Res (q.join 136 e24) 0 106 (keepS []) := r106
  replace r114 : Res (q.join 136 e24) 0 114 (keepE [0, -1]) := r114
  replace r122 : Res (q.join 136 e24) 0 122 (keepP [(false, 0, 1099511627776)]) := r122
  replace g1 : (q.join 136 e24).bv 130 = true := g1
  replace g2 : (q.join 136 e24).bv 131 = true := g2
  replace g3 : (q.join 136 e24).bv 132 = true := g3
  replace g4 : (q.join 136 e24).bv 133 = true := g4
  replace g5 : (q.join 136 e24).bv 134 = true := g5
  replace g6 : (q.join 136 e24).bv 135 = true := g6
  generalize q.join 136 e24 = q at *
  exact Sat.fin g7
theorem more_con {P : Program} (hT : TabOK P tab) : ConOK P (lawCon 4 sh4) (lawPre sh4) (lawPost sh4) :=
  con_ok hT (E := moreE) (cs := lawSem) rfl (lawSem_ok hT) schedOK rfl more_run (by kernel_rfl) (fun ρ _ p hp => by cases hp) more_sat
end Go.Proofs.Ytniacabgcjccdaa
