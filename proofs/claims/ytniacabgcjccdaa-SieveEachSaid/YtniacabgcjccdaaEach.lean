/- 'SieveEach': each note is judged by itself -/
import Derived.Test.YtniacabgcjccdaaLawSem
set_option linter.unusedSimpArgs false
set_option linter.unusedVariables false
namespace Go.Proofs.Ytniacabgcjccdaa
open Go.Rex
noncomputable def eachE : Ex := { sched := sched, loops := [L6], cons := lawCons, fin := lawCon 6 sh6 }
def eachOut : Out :=
  .call 0 { lo := 0, lob := 0 } 21 <|
   .ob (.or (.not (.var 0)) (.ieq (.var 1) (.lit 0))) <|
   .ob (.ile (.lit 0) (.var 1)) <|
   .ob (.or (.ilt (.lit 30) (.var 1)) (.or (.not (.var 4)) (.ieq (.var 5) (.lit 0)))) <|
   .ob (.or (.ilt (.lit 30) (.var 1)) (.ile (.lit 0) (.var 5))) <|
   .br (.not (.or (.ilt (.lit 30) (.var 1)) (.ilt (.lit 30) (.var 5))))
   (.ob (.or (.not (.var 8)) (.ieq (.var 9) (.lit 0))) <|
    .ob (.ile (.lit 0) (.var 9)) <|
    .ob (.or (.ilt (.lit 60) (.var 9)) (.or (.not (.var 12)) (.ieq (.var 13) (.lit 0)))) <|
    .ob (.or (.ilt (.lit 60) (.var 9)) (.ile (.lit 0) (.var 13))) <|
    .ob (.or (.or (.ilt (.lit 60) (.var 9)) (.ilt (.lit 60) (.var 13))) (.or (.not (.var 16)) (.ieq (.var 17) (.lit 0)))) <|
    .ob (.or (.or (.ilt (.lit 60) (.var 9)) (.ilt (.lit 60) (.var 13))) (.ile (.lit 0) (.var 17))) <|
    .br (.or (.or (.ilt (.lit 60) (.var 9)) (.ilt (.lit 60) (.var 13))) (.ilt (.lit 60) (.var 17)))
    (.fin { lo := 21, lob := 5, bv := [(21, (.lit true))] })
    (.ob (.ile (.mul (.var 1) (.lit 56)) (.lit 140737488355328)) <|
     .new 21 [.be (.and (.ile (.var 1) (.var 21)) (.ile (.var 21) (.lit 9223372036854775807))), .be (.or (.lit true) (.ieq (.var 1) (.lit 0))), .be (.or (.lit true) (.ieq (.var 21) (.lit 0))), .cat 22 (.lit 0) (.ex [] 7 0 0) (.var 1) (.up { r := 3, n1 := (.var 1), s1 := 7, ks := [.int .i64, .int .i64, .int .i64, .int .i64, .bool, .int .i64, .int .i64] } 0 [] (.lit 0))] <|
     .ob (.ile (.mul (.add (.var 1) (.var 5)) (.lit 56)) (.lit 140737488355328)) <|
     .ob (.or (.not (.var 4)) (.ieq (.var 5) (.lit 0))) <|
     .ob (.ile (.lit 0) (.var 5)) <|
     .new 23 [.be (.and (.ile (.add (.var 1) (.var 5)) (.var 23)) (.ile (.var 23) (.lit 9223372036854775807))), .be (.or (.lit true) (.ieq (.add (.var 1) (.var 5)) (.lit 0))), .be (.or (.lit true) (.ieq (.var 23) (.lit 0))), .cat 24 (.var 1) (.up { r := 22, n1 := (.var 1), s1 := 7, ks := [.int .i64, .int .i64, .int .i64, .int .i64, .bool, .int .i64, .int .i64] } 0 [] (.lit 0)) (.var 5) (.up { r := 7, n1 := (.var 5), s1 := 7, ks := [.int .i64, .int .i64, .int .i64, .int .i64, .bool, .int .i64, .int .i64] } 0 [] (.lit 0))] <|
     .loop 25 { lo := 25, lob := 10, iv := [(25, (.lit 0))] } <|
     .br (.ilt (.var 25) (.lit 4))
     (.br (.ieq (.var 25) (.lit 0))
      (.call 1 { lo := 0, lob := 0, iv := [(6, (.var 10)), (5, (.var 9)), (2, (.var 2)), (1, (.var 1))], bv := [(4, (.var 8)), (0, (.var 0))], ct := [(7, .up { r := 11, n1 := (.var 9), s1 := 5, ks := [.int .i64, .int .i64, .int .i64, .int .i64, .bool] } 0 [] (.lit 0)), (3, .up { r := 3, n1 := (.var 1), s1 := 7, ks := [.int .i64, .int .i64, .int .i64, .int .i64, .bool, .int .i64, .int .i64] } 0 [] (.lit 0))], bk := [(1, { blk := 2, i1 := (.lit 0), s1 := 5 }), (0, { blk := 0, i1 := (.lit 0), s1 := 7 })] } 26 <|
       .call 1 { lo := 0, lob := 0, iv := [(6, (.var 10)), (5, (.var 9)), (2, (.var 6)), (1, (.var 5))], bv := [(4, (.var 8)), (0, (.var 4))], ct := [(7, .up { r := 11, n1 := (.var 9), s1 := 5, ks := [.int .i64, .int .i64, .int .i64, .int .i64, .bool] } 0 [] (.lit 0)), (3, .up { r := 7, n1 := (.var 5), s1 := 7, ks := [.int .i64, .int .i64, .int .i64, .int .i64, .bool, .int .i64, .int .i64] } 0 [] (.lit 0))], bk := [(1, { blk := 2, i1 := (.lit 0), s1 := 5 }), (0, { blk := 1, i1 := (.lit 0), s1 := 7 })] } 34 <|
       .call 1 { lo := 0, lob := 0, iv := [(6, (.var 10)), (5, (.var 9)), (2, (.var 23)), (1, (.add (.var 1) (.var 5)))], bv := [(4, (.var 8)), (0, (.lit false))], ct := [(7, .up { r := 11, n1 := (.var 9), s1 := 5, ks := [.int .i64, .int .i64, .int .i64, .int .i64, .bool] } 0 [] (.lit 0)), (3, .up { r := 24, n1 := (.add (.var 1) (.var 5)), s1 := 7, ks := [.int .i64, .int .i64, .int .i64, .int .i64, .bool, .int .i64, .int .i64] } 0 [] (.lit 0))], bk := [(1, { blk := 2, i1 := (.lit 0), s1 := 5 }), (0, { blk := 9, i1 := (.lit 0), s1 := 7 })] } 42 <|
       .ob (.ile (.mul (.var 27) (.lit 56)) (.lit 140737488355328)) <|
       .ob (.or (.not (.var 26)) (.ieq (.var 27) (.lit 0))) <|
       .ob (.ile (.lit 0) (.var 27)) <|
       .new 50 [.be (.and (.ile (.var 27) (.var 50)) (.ile (.var 50) (.lit 9223372036854775807))), .be (.or (.lit true) (.ieq (.var 27) (.lit 0))), .be (.or (.lit true) (.ieq (.var 50) (.lit 0))), .cat 51 (.lit 0) (.ex [] 7 0 0) (.var 27) (.up { r := 29, n1 := (.var 27), s1 := 7, ks := [.int .i64, .int .i64, .int .i64, .int .i64, .bool, .int .i64, .int .i64] } 0 [] (.lit 0))] <|
       .ob (.ile (.mul (.add (.var 27) (.var 35)) (.lit 56)) (.lit 140737488355328)) <|
       .ob (.or (.not (.var 34)) (.ieq (.var 35) (.lit 0))) <|
       .ob (.ile (.lit 0) (.var 35)) <|
       .new 52 [.be (.and (.ile (.add (.var 27) (.var 35)) (.var 52)) (.ile (.var 52) (.lit 9223372036854775807))), .be (.or (.lit true) (.ieq (.add (.var 27) (.var 35)) (.lit 0))), .be (.or (.lit true) (.ieq (.var 52) (.lit 0))), .cat 53 (.var 27) (.up { r := 51, n1 := (.var 27), s1 := 7, ks := [.int .i64, .int .i64, .int .i64, .int .i64, .bool, .int .i64, .int .i64] } 0 [] (.lit 0)) (.var 35) (.up { r := 37, n1 := (.var 35), s1 := 7, ks := [.int .i64, .int .i64, .int .i64, .int .i64, .bool, .int .i64, .int .i64] } 0 [] (.lit 0))] <|
       .call 7 { lo := 0, lob := 0, iv := [(6, (.var 44)), (5, (.var 43)), (2, (.var 52)), (1, (.add (.var 27) (.var 35)))], bv := [(4, (.var 42)), (0, (.lit false))], ct := [(7, .up { r := 45, n1 := (.var 43), s1 := 7, ks := [.int .i64, .int .i64, .int .i64, .int .i64, .bool, .int .i64, .int .i64] } 0 [] (.lit 0)), (3, .up { r := 53, n1 := (.add (.var 27) (.var 35)), s1 := 7, ks := [.int .i64, .int .i64, .int .i64, .int .i64, .bool, .int .i64, .int .i64] } 0 [] (.lit 0))], bk := [(1, { blk := 17, i1 := (.lit 0), s1 := 7 }), (0, { blk := 21, i1 := (.lit 0), s1 := 7 })] } 54 <|
       .ob (.or (.not (.var 54)) (.or (.not (.var 42)) (.ieq (.var 43) (.lit 0)))) <|
       .ob (.or (.not (.var 54)) (.ile (.lit 0) (.var 43))) <|
       .ob (.or (.not (.var 54)) (.or (.not (.var 46)) (.ieq (.var 47) (.lit 0)))) <|
       .ob (.or (.not (.var 54)) (.ile (.lit 0) (.var 47))) <|
       .ob (.or (.not (.var 54)) (.inr .i64 (.add (.var 43) (.var 47)))) <|
       .ob (.or (.not (.var 54)) (.ile (.lit 0) (.add (.var 1) (.var 5)))) <|
       .br (.not (.var 54))
       (.fin { lo := 21, lob := 5, bv := [(21, (.lit false))] })
       (.br (.not (.ieq (.add (.var 43) (.var 47)) (.add (.var 1) (.var 5))))
        (.fin { lo := 21, lob := 5, bv := [(21, (.lit false))] })
        (.ob (.inr .i64 (.add (.var 25) (.lit 1))) <|
         .back 0 { lo := 25, lob := 10, iv := [(25, (.add (.var 25) (.lit 1)))] })))
      (.br (.ieq (.var 25) (.lit 1))
       (.call 2 { lo := 0, lob := 0, iv := [(6, (.var 14)), (5, (.var 13)), (2, (.var 2)), (1, (.var 1))], bv := [(4, (.var 12)), (0, (.var 0))], ct := [(7, .up { r := 15, n1 := (.var 13), s1 := 1, ks := [.int .i64] } 0 [] (.lit 0)), (3, .up { r := 3, n1 := (.var 1), s1 := 7, ks := [.int .i64, .int .i64, .int .i64, .int .i64, .bool, .int .i64, .int .i64] } 0 [] (.lit 0))], bk := [(1, { blk := 3, i1 := (.lit 0), s1 := 1 }), (0, { blk := 0, i1 := (.lit 0), s1 := 7 })] } 26 <|
        .call 2 { lo := 0, lob := 0, iv := [(6, (.var 14)), (5, (.var 13)), (2, (.var 6)), (1, (.var 5))], bv := [(4, (.var 12)), (0, (.var 4))], ct := [(7, .up { r := 15, n1 := (.var 13), s1 := 1, ks := [.int .i64] } 0 [] (.lit 0)), (3, .up { r := 7, n1 := (.var 5), s1 := 7, ks := [.int .i64, .int .i64, .int .i64, .int .i64, .bool, .int .i64, .int .i64] } 0 [] (.lit 0))], bk := [(1, { blk := 3, i1 := (.lit 0), s1 := 1 }), (0, { blk := 1, i1 := (.lit 0), s1 := 7 })] } 34 <|
        .call 2 { lo := 0, lob := 0, iv := [(6, (.var 14)), (5, (.var 13)), (2, (.var 23)), (1, (.add (.var 1) (.var 5)))], bv := [(4, (.var 12)), (0, (.lit false))], ct := [(7, .up { r := 15, n1 := (.var 13), s1 := 1, ks := [.int .i64] } 0 [] (.lit 0)), (3, .up { r := 24, n1 := (.add (.var 1) (.var 5)), s1 := 7, ks := [.int .i64, .int .i64, .int .i64, .int .i64, .bool, .int .i64, .int .i64] } 0 [] (.lit 0))], bk := [(1, { blk := 3, i1 := (.lit 0), s1 := 1 }), (0, { blk := 9, i1 := (.lit 0), s1 := 7 })] } 42 <|
        .ob (.ile (.mul (.var 27) (.lit 56)) (.lit 140737488355328)) <|
        .ob (.or (.not (.var 26)) (.ieq (.var 27) (.lit 0))) <|
        .ob (.ile (.lit 0) (.var 27)) <|
        .new 50 [.be (.and (.ile (.var 27) (.var 50)) (.ile (.var 50) (.lit 9223372036854775807))), .be (.or (.lit true) (.ieq (.var 27) (.lit 0))), .be (.or (.lit true) (.ieq (.var 50) (.lit 0))), .cat 51 (.lit 0) (.ex [] 7 0 0) (.var 27) (.up { r := 29, n1 := (.var 27), s1 := 7, ks := [.int .i64, .int .i64, .int .i64, .int .i64, .bool, .int .i64, .int .i64] } 0 [] (.lit 0))] <|
        .ob (.ile (.mul (.add (.var 27) (.var 35)) (.lit 56)) (.lit 140737488355328)) <|
        .ob (.or (.not (.var 34)) (.ieq (.var 35) (.lit 0))) <|
        .ob (.ile (.lit 0) (.var 35)) <|
        .new 52 [.be (.and (.ile (.add (.var 27) (.var 35)) (.var 52)) (.ile (.var 52) (.lit 9223372036854775807))), .be (.or (.lit true) (.ieq (.add (.var 27) (.var 35)) (.lit 0))), .be (.or (.lit true) (.ieq (.var 52) (.lit 0))), .cat 53 (.var 27) (.up { r := 51, n1 := (.var 27), s1 := 7, ks := [.int .i64, .int .i64, .int .i64, .int .i64, .bool, .int .i64, .int .i64] } 0 [] (.lit 0)) (.var 35) (.up { r := 37, n1 := (.var 35), s1 := 7, ks := [.int .i64, .int .i64, .int .i64, .int .i64, .bool, .int .i64, .int .i64] } 0 [] (.lit 0))] <|
        .call 7 { lo := 0, lob := 0, iv := [(6, (.var 44)), (5, (.var 43)), (2, (.var 52)), (1, (.add (.var 27) (.var 35)))], bv := [(4, (.var 42)), (0, (.lit false))], ct := [(7, .up { r := 45, n1 := (.var 43), s1 := 7, ks := [.int .i64, .int .i64, .int .i64, .int .i64, .bool, .int .i64, .int .i64] } 0 [] (.lit 0)), (3, .up { r := 53, n1 := (.add (.var 27) (.var 35)), s1 := 7, ks := [.int .i64, .int .i64, .int .i64, .int .i64, .bool, .int .i64, .int .i64] } 0 [] (.lit 0))], bk := [(1, { blk := 17, i1 := (.lit 0), s1 := 7 }), (0, { blk := 21, i1 := (.lit 0), s1 := 7 })] } 54 <|
        .ob (.or (.not (.var 54)) (.or (.not (.var 42)) (.ieq (.var 43) (.lit 0)))) <|
        .ob (.or (.not (.var 54)) (.ile (.lit 0) (.var 43))) <|
        .ob (.or (.not (.var 54)) (.or (.not (.var 46)) (.ieq (.var 47) (.lit 0)))) <|
        .ob (.or (.not (.var 54)) (.ile (.lit 0) (.var 47))) <|
        .ob (.or (.not (.var 54)) (.inr .i64 (.add (.var 43) (.var 47)))) <|
        .ob (.or (.not (.var 54)) (.ile (.lit 0) (.add (.var 1) (.var 5)))) <|
        .br (.not (.var 54))
        (.fin { lo := 21, lob := 5, bv := [(21, (.lit false))] })
        (.br (.not (.ieq (.add (.var 43) (.var 47)) (.add (.var 1) (.var 5))))
         (.fin { lo := 21, lob := 5, bv := [(21, (.lit false))] })
         (.ob (.inr .i64 (.add (.var 25) (.lit 1))) <|
          .back 0 { lo := 25, lob := 10, iv := [(25, (.add (.var 25) (.lit 1)))] })))
       (.br (.ieq (.var 25) (.lit 2))
        (.call 3 { lo := 0, lob := 0, iv := [(6, (.var 18)), (5, (.var 17)), (2, (.var 2)), (1, (.var 1))], bv := [(4, (.var 16)), (0, (.var 0))], ct := [(7, .up { r := 19, n1 := (.var 17), s1 := 3, ks := [.bool, .int .i64, .int .i64] } 0 [] (.lit 0)), (3, .up { r := 3, n1 := (.var 1), s1 := 7, ks := [.int .i64, .int .i64, .int .i64, .int .i64, .bool, .int .i64, .int .i64] } 0 [] (.lit 0))], bk := [(1, { blk := 4, i1 := (.lit 0), s1 := 3 }), (0, { blk := 0, i1 := (.lit 0), s1 := 7 })] } 26 <|
         .call 3 { lo := 0, lob := 0, iv := [(6, (.var 18)), (5, (.var 17)), (2, (.var 6)), (1, (.var 5))], bv := [(4, (.var 16)), (0, (.var 4))], ct := [(7, .up { r := 19, n1 := (.var 17), s1 := 3, ks := [.bool, .int .i64, .int .i64] } 0 [] (.lit 0)), (3, .up { r := 7, n1 := (.var 5), s1 := 7, ks := [.int .i64, .int .i64, .int .i64, .int .i64, .bool, .int .i64, .int .i64] } 0 [] (.lit 0))], bk := [(1, { blk := 4, i1 := (.lit 0), s1 := 3 }), (0, { blk := 1, i1 := (.lit 0), s1 := 7 })] } 34 <|
         .call 3 { lo := 0, lob := 0, iv := [(6, (.var 18)), (5, (.var 17)), (2, (.var 23)), (1, (.add (.var 1) (.var 5)))], bv := [(4, (.var 16)), (0, (.lit false))], ct := [(7, .up { r := 19, n1 := (.var 17), s1 := 3, ks := [.bool, .int .i64, .int .i64] } 0 [] (.lit 0)), (3, .up { r := 24, n1 := (.add (.var 1) (.var 5)), s1 := 7, ks := [.int .i64, .int .i64, .int .i64, .int .i64, .bool, .int .i64, .int .i64] } 0 [] (.lit 0))], bk := [(1, { blk := 4, i1 := (.lit 0), s1 := 3 }), (0, { blk := 9, i1 := (.lit 0), s1 := 7 })] } 42 <|
         .ob (.ile (.mul (.var 27) (.lit 56)) (.lit 140737488355328)) <|
         .ob (.or (.not (.var 26)) (.ieq (.var 27) (.lit 0))) <|
         .ob (.ile (.lit 0) (.var 27)) <|
         .new 50 [.be (.and (.ile (.var 27) (.var 50)) (.ile (.var 50) (.lit 9223372036854775807))), .be (.or (.lit true) (.ieq (.var 27) (.lit 0))), .be (.or (.lit true) (.ieq (.var 50) (.lit 0))), .cat 51 (.lit 0) (.ex [] 7 0 0) (.var 27) (.up { r := 29, n1 := (.var 27), s1 := 7, ks := [.int .i64, .int .i64, .int .i64, .int .i64, .bool, .int .i64, .int .i64] } 0 [] (.lit 0))] <|
         .ob (.ile (.mul (.add (.var 27) (.var 35)) (.lit 56)) (.lit 140737488355328)) <|
         .ob (.or (.not (.var 34)) (.ieq (.var 35) (.lit 0))) <|
         .ob (.ile (.lit 0) (.var 35)) <|
         .new 52 [.be (.and (.ile (.add (.var 27) (.var 35)) (.var 52)) (.ile (.var 52) (.lit 9223372036854775807))), .be (.or (.lit true) (.ieq (.add (.var 27) (.var 35)) (.lit 0))), .be (.or (.lit true) (.ieq (.var 52) (.lit 0))), .cat 53 (.var 27) (.up { r := 51, n1 := (.var 27), s1 := 7, ks := [.int .i64, .int .i64, .int .i64, .int .i64, .bool, .int .i64, .int .i64] } 0 [] (.lit 0)) (.var 35) (.up { r := 37, n1 := (.var 35), s1 := 7, ks := [.int .i64, .int .i64, .int .i64, .int .i64, .bool, .int .i64, .int .i64] } 0 [] (.lit 0))] <|
         .call 7 { lo := 0, lob := 0, iv := [(6, (.var 44)), (5, (.var 43)), (2, (.var 52)), (1, (.add (.var 27) (.var 35)))], bv := [(4, (.var 42)), (0, (.lit false))], ct := [(7, .up { r := 45, n1 := (.var 43), s1 := 7, ks := [.int .i64, .int .i64, .int .i64, .int .i64, .bool, .int .i64, .int .i64] } 0 [] (.lit 0)), (3, .up { r := 53, n1 := (.add (.var 27) (.var 35)), s1 := 7, ks := [.int .i64, .int .i64, .int .i64, .int .i64, .bool, .int .i64, .int .i64] } 0 [] (.lit 0))], bk := [(1, { blk := 17, i1 := (.lit 0), s1 := 7 }), (0, { blk := 21, i1 := (.lit 0), s1 := 7 })] } 54 <|
         .ob (.or (.not (.var 54)) (.or (.not (.var 42)) (.ieq (.var 43) (.lit 0)))) <|
         .ob (.or (.not (.var 54)) (.ile (.lit 0) (.var 43))) <|
         .ob (.or (.not (.var 54)) (.or (.not (.var 46)) (.ieq (.var 47) (.lit 0)))) <|
         .ob (.or (.not (.var 54)) (.ile (.lit 0) (.var 47))) <|
         .ob (.or (.not (.var 54)) (.inr .i64 (.add (.var 43) (.var 47)))) <|
         .ob (.or (.not (.var 54)) (.ile (.lit 0) (.add (.var 1) (.var 5)))) <|
         .br (.not (.var 54))
         (.fin { lo := 21, lob := 5, bv := [(21, (.lit false))] })
         (.br (.not (.ieq (.add (.var 43) (.var 47)) (.add (.var 1) (.var 5))))
          (.fin { lo := 21, lob := 5, bv := [(21, (.lit false))] })
          (.ob (.inr .i64 (.add (.var 25) (.lit 1))) <|
           .back 0 { lo := 25, lob := 10, iv := [(25, (.add (.var 25) (.lit 1)))] })))
        (.call 4 { lo := 0, lob := 0, iv := [(4, (.var 20)), (2, (.var 2)), (1, (.var 1))], bv := [(0, (.var 0))], ct := [(3, .up { r := 3, n1 := (.var 1), s1 := 7, ks := [.int .i64, .int .i64, .int .i64, .int .i64, .bool, .int .i64, .int .i64] } 0 [] (.lit 0))], bk := [(0, { blk := 0, i1 := (.lit 0), s1 := 7 })] } 26 <|
         .call 4 { lo := 0, lob := 0, iv := [(4, (.var 20)), (2, (.var 6)), (1, (.var 5))], bv := [(0, (.var 4))], ct := [(3, .up { r := 7, n1 := (.var 5), s1 := 7, ks := [.int .i64, .int .i64, .int .i64, .int .i64, .bool, .int .i64, .int .i64] } 0 [] (.lit 0))], bk := [(0, { blk := 1, i1 := (.lit 0), s1 := 7 })] } 34 <|
         .call 4 { lo := 0, lob := 0, iv := [(4, (.var 20)), (2, (.var 23)), (1, (.add (.var 1) (.var 5)))], bv := [(0, (.lit false))], ct := [(3, .up { r := 24, n1 := (.add (.var 1) (.var 5)), s1 := 7, ks := [.int .i64, .int .i64, .int .i64, .int .i64, .bool, .int .i64, .int .i64] } 0 [] (.lit 0))], bk := [(0, { blk := 9, i1 := (.lit 0), s1 := 7 })] } 42 <|
         .ob (.ile (.mul (.var 27) (.lit 56)) (.lit 140737488355328)) <|
         .ob (.or (.not (.var 26)) (.ieq (.var 27) (.lit 0))) <|
         .ob (.ile (.lit 0) (.var 27)) <|
         .new 50 [.be (.and (.ile (.var 27) (.var 50)) (.ile (.var 50) (.lit 9223372036854775807))), .be (.or (.lit true) (.ieq (.var 27) (.lit 0))), .be (.or (.lit true) (.ieq (.var 50) (.lit 0))), .cat 51 (.lit 0) (.ex [] 7 0 0) (.var 27) (.up { r := 29, n1 := (.var 27), s1 := 7, ks := [.int .i64, .int .i64, .int .i64, .int .i64, .bool, .int .i64, .int .i64] } 0 [] (.lit 0))] <|
         .ob (.ile (.mul (.add (.var 27) (.var 35)) (.lit 56)) (.lit 140737488355328)) <|
         .ob (.or (.not (.var 34)) (.ieq (.var 35) (.lit 0))) <|
         .ob (.ile (.lit 0) (.var 35)) <|
         .new 52 [.be (.and (.ile (.add (.var 27) (.var 35)) (.var 52)) (.ile (.var 52) (.lit 9223372036854775807))), .be (.or (.lit true) (.ieq (.add (.var 27) (.var 35)) (.lit 0))), .be (.or (.lit true) (.ieq (.var 52) (.lit 0))), .cat 53 (.var 27) (.up { r := 51, n1 := (.var 27), s1 := 7, ks := [.int .i64, .int .i64, .int .i64, .int .i64, .bool, .int .i64, .int .i64] } 0 [] (.lit 0)) (.var 35) (.up { r := 37, n1 := (.var 35), s1 := 7, ks := [.int .i64, .int .i64, .int .i64, .int .i64, .bool, .int .i64, .int .i64] } 0 [] (.lit 0))] <|
         .call 7 { lo := 0, lob := 0, iv := [(6, (.var 44)), (5, (.var 43)), (2, (.var 52)), (1, (.add (.var 27) (.var 35)))], bv := [(4, (.var 42)), (0, (.lit false))], ct := [(7, .up { r := 45, n1 := (.var 43), s1 := 7, ks := [.int .i64, .int .i64, .int .i64, .int .i64, .bool, .int .i64, .int .i64] } 0 [] (.lit 0)), (3, .up { r := 53, n1 := (.add (.var 27) (.var 35)), s1 := 7, ks := [.int .i64, .int .i64, .int .i64, .int .i64, .bool, .int .i64, .int .i64] } 0 [] (.lit 0))], bk := [(1, { blk := 17, i1 := (.lit 0), s1 := 7 }), (0, { blk := 21, i1 := (.lit 0), s1 := 7 })] } 54 <|
         .ob (.or (.not (.var 54)) (.or (.not (.var 42)) (.ieq (.var 43) (.lit 0)))) <|
         .ob (.or (.not (.var 54)) (.ile (.lit 0) (.var 43))) <|
         .ob (.or (.not (.var 54)) (.or (.not (.var 46)) (.ieq (.var 47) (.lit 0)))) <|
         .ob (.or (.not (.var 54)) (.ile (.lit 0) (.var 47))) <|
         .ob (.or (.not (.var 54)) (.inr .i64 (.add (.var 43) (.var 47)))) <|
         .ob (.or (.not (.var 54)) (.ile (.lit 0) (.add (.var 1) (.var 5)))) <|
         .br (.not (.var 54))
         (.fin { lo := 21, lob := 5, bv := [(21, (.lit false))] })
         (.br (.not (.ieq (.add (.var 43) (.var 47)) (.add (.var 1) (.var 5))))
          (.fin { lo := 21, lob := 5, bv := [(21, (.lit false))] })
          (.ob (.inr .i64 (.add (.var 25) (.lit 1))) <|
           .back 0 { lo := 25, lob := 10, iv := [(25, (.add (.var 25) (.lit 1)))] }))))))
     (.fin { lo := 21, lob := 5, bv := [(21, (.lit true))] })))
   (.fin { lo := 21, lob := 5, bv := [(21, (.lit true))] })
theorem each_run : exec tab eachE 4000 [] (cfg0 6 21 [] [] (lawCon 6 sh6).hp (lawCon 6 sh6).args) = eachOut := by kernel_rfl
/-- the two lists, one behind the other -/
def allN (ρ : Env) : List Note := (List.range (ρ.iv 1 + ρ.iv 5).toNat).map (noteAt ρ 24)
theorem noteAt_eq {ρ : Env} {r s i k : Nat} (h : ∀ j, ρ.ic r i 0 j = ρ.ic s k 0 j ∧ ρ.bc r i 0 j = ρ.bc s k 0 j) : noteAt ρ r i = noteAt ρ s k := by
  simp only [noteAt, (h 0).1, (h 1).1, (h 2).1, (h 3).1, (h 4).2, (h 5).1, (h 6).1]
theorem cat_notes {ρ : Env} {b c r : Nat} {n : Int} (h0 : 0 ≤ ρ.iv (b + 1)) (h1 : 0 ≤ ρ.iv (c + 1)) (hn : n = ρ.iv (b + 1) + ρ.iv (c + 1)) (h2 : ∀ i j : Nat, (i : Int) < ρ.iv (b + 1) → ρ.ic r i 0 j = ρ.ic (b + 3) i 0 j ∧ ρ.bc r i 0 j = ρ.bc (b + 3) i 0 j)
    (h3 : ∀ i j : Nat, (i : Int) < ρ.iv (c + 1) → ρ.ic r ((ρ.iv (b + 1)).toNat + i) 0 j = ρ.ic (c + 3) i 0 j ∧ ρ.bc r ((ρ.iv (b + 1)).toNat + i) 0 j = ρ.bc (c + 3) i 0 j) : (List.range n.toNat).map (noteAt ρ r) = notes ρ b ++ notes ρ c := by
  unfold notes
  rw [hn, show (ρ.iv (b + 1) + ρ.iv (c + 1)).toNat = (ρ.iv (b + 1)).toNat + (ρ.iv (c + 1)).toNat by omega, List.range_add, List.map_append, List.map_map, range_map_congr fun i hi => noteAt_eq fun j => h2 i j (by omega)]
  exact congrArg _ (range_map_congr fun i hi => noteAt_eq fun j => h3 i j (by omega))
theorem res_eq2 {K K' : Note → Bool} {l l' : List Note} (hK : K = K') (hl : l = l') : l.filter K = l'.filter K' := by rw [hK, hl]
theorem whole_len {ρ : Env} {b c : Nat} {K : Note → Bool} (hall : allN ρ = notes ρ 0 ++ notes ρ 4) (hz : OkSl ρ b ∧ notes ρ b = (allN ρ).filter (fun n => !K n)) (hs : OkSl ρ c ∧ notes ρ c = (allN ρ).filter K) (h0 : 0 ≤ ρ.iv 1) (h1 : 0 ≤ ρ.iv 5) : ρ.iv (b + 1) + ρ.iv (c + 1) = ρ.iv 1 + ρ.iv 5 := by
  have e1 := congrArg List.length hz.2
  have e2 := congrArg List.length hs.2
  have e3 := filter_parts K (allN ρ)
  have e4 := congrArg List.length hall
  have := hz.1.2.1
  have := hs.1.2.1
  rw [List.length_append, notes_length, notes_length] at e4
  rw [notes_length] at e1 e2
  simp only [Nat.zero_add, Nat.reduceAdd] at e4
  omega
def P6 (ρ : Env) : Prop := OkSl ρ 0 ∧ OkSl ρ 4 ∧ OkSl ρ 8 ∧ OkSl ρ 12 ∧ OkSl ρ 16 ∧ -9223372036854775808 ≤ ρ.iv 20 ∧ ρ.iv 20 ≤ 9223372036854775807
def P6a (ρ : Env) : Prop := P6 ρ ∧ ρ.iv 1 ≤ 30 ∧ ρ.iv 5 ≤ 30 ∧ ρ.iv 9 ≤ 60 ∧ ρ.iv 13 ≤ 60 ∧ ρ.iv 17 ≤ 60
def P6s (ρ : Env) : Prop := P6 ρ ∧ ρ.iv 1 ≤ 30 ∧ ρ.iv 5 ≤ 30 ∧ ρ.iv 9 ≤ 60 ∧ ρ.iv 13 ≤ 60 ∧ ρ.iv 17 ≤ 60 ∧ allN ρ = notes ρ 0 ++ notes ρ 4 ∧ ρ.iv 1 + ρ.iv 5 ≤ ρ.iv 23 ∧ ρ.iv 23 ≤ 9223372036854775807
def F6 (M : Nat) (ρ : Env) : Prop := P6s ρ ∧ 0 ≤ ρ.iv 25 ∧ ρ.iv 25 < 4 ∧ M = (4 - ρ.iv 25).toNat
theorem P6_of {ρ : Env} (h : lawPre sh6 ρ) : P6 ρ :=
  have h : preC (sh6.flatMap (·.2)) 0 ρ := h
  ⟨okSl_of h.1, okSl_of h.2.1, okSl_of h.2.2.1, okSl_of h.2.2.2.1, okSl_of h.2.2.2.2.1, h.2.2.2.2.2.1⟩
set_option maxRecDepth 10000 in
theorem each_sat (ρ : Env) (hpre : lawPre sh6 ρ.num) : Sat (lawPost sh6) lawSem [] ρ eachOut := by
  have h0 : P6 ρ := P6_of (ρ := ρ.num) hpre
  unfold eachOut
  refine Sat.call rfl trivial fun e0 _ => ?_
  replace h0 : P6 (ρ.join 21 e0) := h0
  clear hpre
  generalize ρ.join 21 e0 = q at *
  refine Sat.ob (nilOb h0.1) (Sat.ob (decide_eq_true h0.1.2.1) (Sat.ob (D.or.mpr (.inr (nilOb h0.2.1))) (Sat.ob (D.or.mpr (.inr (decide_eq_true h0.2.1.2.1))) (Sat.br (fun hl => ?_) fun _ => Sat.fin rfl))))
  refine Sat.ob (nilOb h0.2.2.1) (Sat.ob (decide_eq_true h0.2.2.1.2.1) (Sat.ob (D.or.mpr (.inr (nilOb h0.2.2.2.1))) (Sat.ob (D.or.mpr (.inr (decide_eq_true h0.2.2.2.1.2.1))) (Sat.ob (D.or.mpr (.inr (nilOb h0.2.2.2.2.1))) (Sat.ob (D.or.mpr (.inr (decide_eq_true h0.2.2.2.2.1.2.1))) (Sat.br (fun _ => Sat.fin rfl) fun hm => ?_))))))
  have hP : P6a q := by
    simp only [D.le, D.lef, D.lt, D.ltf, D.eq, D.eqf, D.not, D.notf, D.and, D.andf, D.or, D.orf, D.inr, D.var, D.lit, D.cellB, D.beq, D.beqf, D.litI, D.varI, D.add, D.sub, D.mul, D.min, D.max, D.cellI, D.i64min, D.i64max] at hl hm
    exact ⟨h0, hl.1, hl.2, hm.1.1, hm.1.2, hm.2⟩
  clear h0 hl hm
  have hn : 0 ≤ q.iv 1 ∧ 0 ≤ q.iv 5 ∧ q.iv 1 ≤ 30 ∧ q.iv 5 ≤ 30 := ⟨hP.1.1.2.1, hP.1.2.1.2.1, hP.2.1, hP.2.2.1⟩
  refine Sat.ob (by simp only [D.le, D.lef, D.lt, D.ltf, D.eq, D.eqf, D.not, D.notf, D.and, D.andf, D.or, D.orf, D.inr, D.var, D.lit, D.cellB, D.beq, D.beqf, D.litI, D.varI, D.add, D.sub, D.mul, D.min, D.max, D.cellI, D.i64min, D.i64max]; omega) (Sat.new fun e1 hf => ?_)
  have hc : ∀ i j : Nat, (i : Int) < (q.join 21 e1).iv 1 → (q.join 21 e1).ic 22 i 0 j = (q.join 21 e1).ic 3 i 0 j ∧ (q.join 21 e1).bc 22 i 0 j = (q.join 21 e1).bc 3 i 0 j := fun i j hi => by
    have := (hf _ (.tail _ (.tail _ (.tail _ (.head _)))) i j).2 hi
    simpa [CV.I, CV.B, Seg.I, Seg.B, upsI, upsB, IE.den] using this
  clear hf
  replace hP : P6a (q.join 21 e1) := hP
  replace hn : 0 ≤ (q.join 21 e1).iv 1 ∧ 0 ≤ (q.join 21 e1).iv 5 ∧ (q.join 21 e1).iv 1 ≤ 30 ∧ (q.join 21 e1).iv 5 ≤ 30 := hn
  generalize q.join 21 e1 = q at *
  refine Sat.ob (by simp only [D.le, D.lef, D.lt, D.ltf, D.eq, D.eqf, D.not, D.notf, D.and, D.andf, D.or, D.orf, D.inr, D.var, D.lit, D.cellB, D.beq, D.beqf, D.litI, D.varI, D.add, D.sub, D.mul, D.min, D.max, D.cellI, D.i64min, D.i64max]; omega) (Sat.ob (nilOb hP.1.2.1) (Sat.ob (decide_eq_true hP.1.2.1.2.1) (Sat.new fun e2 hf => ?_)))
  have hcap : (q.join 23 e2).iv 1 + (q.join 23 e2).iv 5 ≤ (q.join 23 e2).iv 23 ∧ (q.join 23 e2).iv 23 ≤ 9223372036854775807 := by
    have := hf _ (.head _)
    simp only [D.be, D.le, D.lef, D.lt, D.ltf, D.eq, D.eqf, D.not, D.notf, D.and, D.andf, D.or, D.orf, D.inr, D.var, D.lit, D.cellB, D.beq, D.beqf, D.litI, D.varI, D.add, D.sub, D.mul, D.min, D.max, D.cellI, D.i64min, D.i64max] at this
    exact this
  have hd : ∀ i j : Nat, (i : Int) < (q.join 23 e2).iv 1 → (q.join 23 e2).ic 24 i 0 j = (q.join 23 e2).ic 22 i 0 j ∧ (q.join 23 e2).bc 24 i 0 j = (q.join 23 e2).bc 22 i 0 j := fun i j hi => by
    have := (hf _ (.tail _ (.tail _ (.tail _ (.head _)))) i j).1 hi
    simpa [CV.I, CV.B, Seg.I, Seg.B, upsI, upsB, IE.den] using this
  have hd2 : ∀ i j : Nat, (i : Int) < (q.join 23 e2).iv 5 → (q.join 23 e2).ic 24 (((q.join 23 e2).iv 1).toNat + i) 0 j = (q.join 23 e2).ic 7 i 0 j ∧ (q.join 23 e2).bc 24 (((q.join 23 e2).iv 1).toNat + i) 0 j = (q.join 23 e2).bc 7 i 0 j := fun i j hi => by
    have := (hf _ (.tail _ (.tail _ (.tail _ (.head _)))) i j).2 hi
    simpa [CV.I, CV.B, Seg.I, Seg.B, upsI, upsB, IE.den] using this
  clear hf
  replace hP : P6a (q.join 23 e2) := hP
  replace hn : 0 ≤ (q.join 23 e2).iv 1 ∧ 0 ≤ (q.join 23 e2).iv 5 ∧ (q.join 23 e2).iv 1 ≤ 30 ∧ (q.join 23 e2).iv 5 ≤ 30 := hn
  replace hc : ∀ i j : Nat, (i : Int) < (q.join 23 e2).iv 1 → (q.join 23 e2).ic 22 i 0 j = (q.join 23 e2).ic 3 i 0 j ∧ (q.join 23 e2).bc 22 i 0 j = (q.join 23 e2).bc 3 i 0 j := hc
  generalize q.join 23 e2 = q at *
  have hall : allN q = notes q 0 ++ notes q 4 :=
    cat_notes (b := 0) (c := 4) (r := 24) hn.1 hn.2.1 rfl (fun i j hi => ⟨((hd i j hi).1).trans (hc i j hi).1, ((hd i j hi).2).trans (hc i j hi).2⟩) hd2
  have hPs : P6s q := ⟨hP.1, hP.2.1, hP.2.2.1, hP.2.2.2.1, hP.2.2.2.2.1, hP.2.2.2.2.2, hall, hcap⟩
  clear hP hc hd hd2 hcap hall hn
  refine Sat.loop (fun r => P6s r ∧ 0 ≤ r.iv 25 ∧ r.iv 25 ≤ 4) (fun r => (4 - r.iv 25).toNat) ⟨hPs, Int.le_refl 0, show (0 : Int) ≤ 4 by omega⟩ fun e hI => Sat.br (fun hlt => ?_) (fun _ => Sat.fin rfl)
  obtain ⟨M, hM⟩ : ∃ M, M = (4 - (q.join 25 e).num.iv 25).toNat := ⟨_, rfl⟩
  rw [← hM]
  have hF : F6 M (q.join 25 e) := ⟨hI.1, hI.2.1, of_decide_eq_true hlt, hM⟩
  clear hPs hI hlt hM
  generalize q.join 25 e = q at *
  refine Sat.br (fun _ => ?_) (fun _ => Sat.br (fun _ => ?_) (fun _ => Sat.br (fun _ => ?_) (fun _ => ?_)))
  · skip
    refine Sat.call rfl ⟨hF.1.1.1, (show q.iv 1 ≤ 1000000 from Int.le_trans hF.1.2.1 (by decide)), hF.1.1.2.2.1, (show q.iv 9 ≤ 1000000 from Int.le_trans hF.1.2.2.2.1 (by decide))⟩ fun e3 k3 => ?_
    replace hF : F6 M (q.join 26 e3) := hF
    have rx : Res (q.join 26 e3) 0 26 (keepS (annI (q.join 26 e3) 8)) :=
      ⟨k3.1, Eq.trans k3.2.1 (res_eq (congrArg keepS (by exact annI_same rfl fun i => by simp [conEnv, slotsCon, Env.join, Sub.nenv, assoc, CV.I, CV.B, upsI, upsB, Seg.I, Seg.B, SC.I, SC.B, IE.den, BE.den])) (by exact notes_same rfl fun i _ => by simp [noteAt, conEnv, slotsCon, Env.join, Sub.nenv, assoc, CV.I, CV.B, upsI, upsB, Seg.I, Seg.B, SC.I, SC.B, IE.den, BE.den]))⟩
    clear k3
    generalize q.join 26 e3 = q at *
    refine Sat.call rfl ⟨hF.1.1.2.1, (show q.iv 5 ≤ 1000000 from Int.le_trans hF.1.2.2.1 (by decide)), hF.1.1.2.2.1, (show q.iv 9 ≤ 1000000 from Int.le_trans hF.1.2.2.2.1 (by decide))⟩ fun e4 k4 => ?_
    replace hF : F6 M (q.join 34 e4) := hF
    replace rx : Res (q.join 34 e4) 0 26 (keepS (annI (q.join 34 e4) 8)) := rx
    have ry : Res (q.join 34 e4) 4 34 (keepS (annI (q.join 34 e4) 8)) :=
      ⟨k4.1, Eq.trans k4.2.1 (res_eq (congrArg keepS (by exact annI_same rfl fun i => by simp [conEnv, slotsCon, Env.join, Sub.nenv, assoc, CV.I, CV.B, upsI, upsB, Seg.I, Seg.B, SC.I, SC.B, IE.den, BE.den])) (by exact notes_same rfl fun i _ => by simp [noteAt, conEnv, slotsCon, Env.join, Sub.nenv, assoc, CV.I, CV.B, upsI, upsB, Seg.I, Seg.B, SC.I, SC.B, IE.den, BE.den]))⟩
    clear k4
    generalize q.join 34 e4 = q at *
    have hn : 0 ≤ q.iv 1 ∧ 0 ≤ q.iv 5 ∧ q.iv 1 ≤ 30 ∧ q.iv 5 ≤ 30 := ⟨hF.1.1.1.2.1, hF.1.1.2.1.2.1, hF.1.2.1, hF.1.2.2.1⟩
    refine Sat.call rfl ⟨⟨fun h => (Bool.false_ne_true h).elim, show 0 ≤ q.iv 1 + q.iv 5 from by omega, hF.1.2.2.2.2.2.2.2.1, hF.1.2.2.2.2.2.2.2.2⟩, show q.iv 1 + q.iv 5 ≤ 1000000 from by omega, hF.1.1.2.2.1, (show q.iv 9 ≤ 1000000 from Int.le_trans hF.1.2.2.2.1 (by decide))⟩ fun e5 k5 => ?_
    replace hF : F6 M (q.join 42 e5) := hF
    replace rx : Res (q.join 42 e5) 0 26 (keepS (annI (q.join 42 e5) 8)) := rx
    replace ry : Res (q.join 42 e5) 4 34 (keepS (annI (q.join 42 e5) 8)) := ry
    replace hn : 0 ≤ (q.join 42 e5).iv 1 ∧ 0 ≤ (q.join 42 e5).iv 5 ∧ (q.join 42 e5).iv 1 ≤ 30 ∧ (q.join 42 e5).iv 5 ≤ 30 := hn
    have rz : OkSl (q.join 42 e5) 42 ∧ notes (q.join 42 e5) 42 = (allN (q.join 42 e5)).filter (fun n => !keepS (annI (q.join 42 e5) 8) n) :=
      ⟨k5.1, Eq.trans k5.2.1 (res_eq (congrArg keepS (by exact annI_same rfl fun i => by simp [conEnv, slotsCon, Env.join, Sub.nenv, assoc, CV.I, CV.B, upsI, upsB, Seg.I, Seg.B, SC.I, SC.B, IE.den, BE.den])) (by exact range_map_congr fun i _ => by simp [noteAt, conEnv, slotsCon, Env.join, Sub.nenv, assoc, CV.I, CV.B, upsI, upsB, Seg.I, Seg.B, SC.I, SC.B, IE.den, BE.den]))⟩
    have rs : OkSl (q.join 42 e5) 46 ∧ notes (q.join 42 e5) 46 = (allN (q.join 42 e5)).filter (keepS (annI (q.join 42 e5) 8)) :=
      ⟨k5.2.2.1, Eq.trans k5.2.2.2 (res_eq2 (congrArg keepS (by exact annI_same rfl fun i => by simp [conEnv, slotsCon, Env.join, Sub.nenv, assoc, CV.I, CV.B, upsI, upsB, Seg.I, Seg.B, SC.I, SC.B, IE.den, BE.den])) (by exact range_map_congr fun i _ => by simp [noteAt, conEnv, slotsCon, Env.join, Sub.nenv, assoc, CV.I, CV.B, upsI, upsB, Seg.I, Seg.B, SC.I, SC.B, IE.den, BE.den]))⟩
    clear k5
    generalize q.join 42 e5 = q at *
    have lx := rx.len hn.1
    have ly := ry.len hn.2.1
    have hm : 0 ≤ q.iv 27 ∧ 0 ≤ q.iv 35 ∧ q.iv 27 ≤ 30 ∧ q.iv 35 ≤ 30 := ⟨rx.1.2.1, ry.1.2.1, Int.le_trans lx hn.2.2.1, Int.le_trans ly hn.2.2.2⟩
    clear lx ly
    refine Sat.ob (by simp only [D.le, D.lef, D.lt, D.ltf, D.eq, D.eqf, D.not, D.notf, D.and, D.andf, D.or, D.orf, D.inr, D.var, D.lit, D.cellB, D.beq, D.beqf, D.litI, D.varI, D.add, D.sub, D.mul, D.min, D.max, D.cellI, D.i64min, D.i64max]; omega) (Sat.ob (nilOb rx.1) (Sat.ob (decide_eq_true rx.1.2.1) (Sat.new fun e6 hf => ?_)))
    have hc : ∀ i j : Nat, (i : Int) < (q.join 50 e6).iv 27 → (q.join 50 e6).ic 51 i 0 j = (q.join 50 e6).ic 29 i 0 j ∧ (q.join 50 e6).bc 51 i 0 j = (q.join 50 e6).bc 29 i 0 j := fun i j hi => by
      have := (hf _ (.tail _ (.tail _ (.tail _ (.head _)))) i j).2 hi
      simpa [CV.I, CV.B, Seg.I, Seg.B, upsI, upsB, IE.den] using this
    clear hf
    replace hF : F6 M (q.join 50 e6) := hF
    replace rx : Res (q.join 50 e6) 0 26 (keepS (annI (q.join 50 e6) 8)) := rx
    replace ry : Res (q.join 50 e6) 4 34 (keepS (annI (q.join 50 e6) 8)) := ry
    replace hn : 0 ≤ (q.join 50 e6).iv 1 ∧ 0 ≤ (q.join 50 e6).iv 5 ∧ (q.join 50 e6).iv 1 ≤ 30 ∧ (q.join 50 e6).iv 5 ≤ 30 := hn
    replace rz : OkSl (q.join 50 e6) 42 ∧ notes (q.join 50 e6) 42 = (allN (q.join 50 e6)).filter (fun n => !keepS (annI (q.join 50 e6) 8) n) := rz
    replace rs : OkSl (q.join 50 e6) 46 ∧ notes (q.join 50 e6) 46 = (allN (q.join 50 e6)).filter (keepS (annI (q.join 50 e6) 8)) := rs
    replace hm : 0 ≤ (q.join 50 e6).iv 27 ∧ 0 ≤ (q.join 50 e6).iv 35 ∧ (q.join 50 e6).iv 27 ≤ 30 ∧ (q.join 50 e6).iv 35 ≤ 30 := hm
    generalize q.join 50 e6 = q at *
    refine Sat.ob (by simp only [D.le, D.lef, D.lt, D.ltf, D.eq, D.eqf, D.not, D.notf, D.and, D.andf, D.or, D.orf, D.inr, D.var, D.lit, D.cellB, D.beq, D.beqf, D.litI, D.varI, D.add, D.sub, D.mul, D.min, D.max, D.cellI, D.i64min, D.i64max]; omega) (Sat.ob (nilOb ry.1) (Sat.ob (decide_eq_true ry.1.2.1) (Sat.new fun e7 hf => ?_)))
    have hcap : (q.join 52 e7).iv 27 + (q.join 52 e7).iv 35 ≤ (q.join 52 e7).iv 52 ∧ (q.join 52 e7).iv 52 ≤ 9223372036854775807 := by
      have := hf _ (.head _)
      simp only [D.be, D.le, D.lef, D.lt, D.ltf, D.eq, D.eqf, D.not, D.notf, D.and, D.andf, D.or, D.orf, D.inr, D.var, D.lit, D.cellB, D.beq, D.beqf, D.litI, D.varI, D.add, D.sub, D.mul, D.min, D.max, D.cellI, D.i64min, D.i64max] at this
      exact this
    have hd : ∀ i j : Nat, (i : Int) < (q.join 52 e7).iv 27 → (q.join 52 e7).ic 53 i 0 j = (q.join 52 e7).ic 51 i 0 j ∧ (q.join 52 e7).bc 53 i 0 j = (q.join 52 e7).bc 51 i 0 j := fun i j hi => by
      have := (hf _ (.tail _ (.tail _ (.tail _ (.head _)))) i j).1 hi
      simpa [CV.I, CV.B, Seg.I, Seg.B, upsI, upsB, IE.den] using this
    have hd2 : ∀ i j : Nat, (i : Int) < (q.join 52 e7).iv 35 → (q.join 52 e7).ic 53 (((q.join 52 e7).iv 27).toNat + i) 0 j = (q.join 52 e7).ic 37 i 0 j ∧ (q.join 52 e7).bc 53 (((q.join 52 e7).iv 27).toNat + i) 0 j = (q.join 52 e7).bc 37 i 0 j := fun i j hi => by
      have := (hf _ (.tail _ (.tail _ (.tail _ (.head _)))) i j).2 hi
      simpa [CV.I, CV.B, Seg.I, Seg.B, upsI, upsB, IE.den] using this
    clear hf
    replace hF : F6 M (q.join 52 e7) := hF
    replace rx : Res (q.join 52 e7) 0 26 (keepS (annI (q.join 52 e7) 8)) := rx
    replace ry : Res (q.join 52 e7) 4 34 (keepS (annI (q.join 52 e7) 8)) := ry
    replace hn : 0 ≤ (q.join 52 e7).iv 1 ∧ 0 ≤ (q.join 52 e7).iv 5 ∧ (q.join 52 e7).iv 1 ≤ 30 ∧ (q.join 52 e7).iv 5 ≤ 30 := hn
    replace rz : OkSl (q.join 52 e7) 42 ∧ notes (q.join 52 e7) 42 = (allN (q.join 52 e7)).filter (fun n => !keepS (annI (q.join 52 e7) 8) n) := rz
    replace rs : OkSl (q.join 52 e7) 46 ∧ notes (q.join 52 e7) 46 = (allN (q.join 52 e7)).filter (keepS (annI (q.join 52 e7) 8)) := rs
    replace hm : 0 ≤ (q.join 52 e7).iv 27 ∧ 0 ≤ (q.join 52 e7).iv 35 ∧ (q.join 52 e7).iv 27 ≤ 30 ∧ (q.join 52 e7).iv 35 ≤ 30 := hm
    replace hc : ∀ i j : Nat, (i : Int) < (q.join 52 e7).iv 27 → (q.join 52 e7).ic 51 i 0 j = (q.join 52 e7).ic 29 i 0 j ∧ (q.join 52 e7).bc 51 i 0 j = (q.join 52 e7).bc 29 i 0 j := hc
    generalize q.join 52 e7 = q at *
    have hlen := whole_len hF.1.2.2.2.2.2.2.1 rz rs hn.1 hn.2.1
    have hz := rz.1.2.1
    have hs := rs.1.2.1
    simp only [Nat.reduceAdd] at hz hs hlen
    refine Sat.call rfl ⟨⟨fun h => (Bool.false_ne_true h).elim, show 0 ≤ q.iv 27 + q.iv 35 from by omega, hcap⟩, show q.iv 27 + q.iv 35 ≤ 1000000 from by omega, rz.1, show q.iv 43 ≤ 1000000 from by omega⟩ fun e8 k8 => ?_
    have g : (q.join 54 e8).bv 54 = true := k8 (by
      refine Eq.trans (b := (List.range (q.iv 27 + q.iv 35).toNat).map (noteAt q 53)) (by exact range_map_congr fun i _ => by simp [noteAt, conEnv, sameCon, Env.join, Sub.nenv, assoc, CV.I, CV.B, upsI, upsB, Seg.I, Seg.B, SC.I, SC.B, IE.den, BE.den]) ?_
      refine Eq.trans ?_ (show notes q 42 = _ from by exact Eq.symm <| range_map_congr fun i _ => by simp [noteAt, conEnv, sameCon, Env.join, Sub.nenv, assoc, CV.I, CV.B, upsI, upsB, Seg.I, Seg.B, SC.I, SC.B, IE.den, BE.den])
      rw [cat_notes (b := 26) (c := 34) (r := 53) hm.1 hm.2.1 rfl (fun i j hi => ⟨((hd i j hi).1).trans (hc i j hi).1, ((hd i j hi).2).trans (hc i j hi).2⟩) hd2, rx.2, ry.2, rz.2, hF.1.2.2.2.2.2.2.1, List.filter_append])
    clear k8 hc hd hd2 hcap
    replace hF : F6 M (q.join 54 e8) := hF
    replace rx : Res (q.join 54 e8) 0 26 (keepS (annI (q.join 54 e8) 8)) := rx
    replace ry : Res (q.join 54 e8) 4 34 (keepS (annI (q.join 54 e8) 8)) := ry
    replace hn : 0 ≤ (q.join 54 e8).iv 1 ∧ 0 ≤ (q.join 54 e8).iv 5 ∧ (q.join 54 e8).iv 1 ≤ 30 ∧ (q.join 54 e8).iv 5 ≤ 30 := hn
    replace rz : OkSl (q.join 54 e8) 42 ∧ notes (q.join 54 e8) 42 = (allN (q.join 54 e8)).filter (fun n => !keepS (annI (q.join 54 e8) 8) n) := rz
    replace rs : OkSl (q.join 54 e8) 46 ∧ notes (q.join 54 e8) 46 = (allN (q.join 54 e8)).filter (keepS (annI (q.join 54 e8) 8)) := rs
    replace hm : 0 ≤ (q.join 54 e8).iv 27 ∧ 0 ≤ (q.join 54 e8).iv 35 ∧ (q.join 54 e8).iv 27 ≤ 30 ∧ (q.join 54 e8).iv 35 ≤ 30 := hm
    replace hlen : (q.join 54 e8).iv 43 + (q.join 54 e8).iv 47 = (q.join 54 e8).iv 1 + (q.join 54 e8).iv 5 := hlen
    replace hz : 0 ≤ (q.join 54 e8).iv 43 := hz
    replace hs : 0 ≤ (q.join 54 e8).iv 47 := hs
    generalize q.join 54 e8 = q at *
    refine Sat.ob (D.or.mpr (.inr (nilOb rz.1))) (Sat.ob (D.or.mpr (.inr (decide_eq_true hz))) (Sat.ob (D.or.mpr (.inr (nilOb rs.1))) (Sat.ob (D.or.mpr (.inr (decide_eq_true hs))) (Sat.ob (by simp only [D.le, D.lef, D.lt, D.ltf, D.eq, D.eqf, D.not, D.notf, D.and, D.andf, D.or, D.orf, D.inr, D.var, D.lit, D.cellB, D.beq, D.beqf, D.litI, D.varI, D.add, D.sub, D.mul, D.min, D.max, D.cellI, D.i64min, D.i64max]; exact .inr (by omega)) (Sat.ob (by simp only [D.le, D.lef, D.lt, D.ltf, D.eq, D.eqf, D.not, D.notf, D.and, D.andf, D.or, D.orf, D.inr, D.var, D.lit, D.cellB, D.beq, D.beqf, D.litI, D.varI, D.add, D.sub, D.mul, D.min, D.max, D.cellI, D.i64min, D.i64max]; exact .inr (by omega)) (Sat.br (fun hf => ?_) (fun _ => Sat.br (fun hf => ?_) (fun _ => ?_))))))))
    · simp only [D.le, D.lef, D.lt, D.ltf, D.eq, D.eqf, D.not, D.notf, D.and, D.andf, D.or, D.orf, D.inr, D.var, D.lit, D.cellB, D.beq, D.beqf, D.litI, D.varI, D.add, D.sub, D.mul, D.min, D.max, D.cellI, D.i64min, D.i64max] at hf
      exact (Bool.false_ne_true (hf.symm.trans g)).elim
    · simp only [D.le, D.lef, D.lt, D.ltf, D.eq, D.eqf, D.not, D.notf, D.and, D.andf, D.or, D.orf, D.inr, D.var, D.lit, D.cellB, D.beq, D.beqf, D.litI, D.varI, D.add, D.sub, D.mul, D.min, D.max, D.cellI, D.i64min, D.i64max] at hf
      exact (hf hlen).elim
    · have hi := hF.2
      exact Sat.ob (by simp only [D.le, D.lef, D.lt, D.ltf, D.eq, D.eqf, D.not, D.notf, D.and, D.andf, D.or, D.orf, D.inr, D.var, D.lit, D.cellB, D.beq, D.beqf, D.litI, D.varI, D.add, D.sub, D.mul, D.min, D.max, D.cellI, D.i64min, D.i64max]; omega) (Sat.back rfl ⟨⟨hF.1, show 0 ≤ q.iv 25 + 1 from by omega, show q.iv 25 + 1 ≤ 4 from by omega⟩, show (4 - (q.iv 25 + 1)).toNat < M from by omega⟩)
  · skip
    refine Sat.call rfl ⟨hF.1.1.1, (show q.iv 1 ≤ 1000000 from Int.le_trans hF.1.2.1 (by decide)), hF.1.1.2.2.2.1, (show q.iv 13 ≤ 1000000 from Int.le_trans hF.1.2.2.2.2.1 (by decide))⟩ fun e9 k9 => ?_
    replace hF : F6 M (q.join 26 e9) := hF
    have rx : Res (q.join 26 e9) 0 26 (keepE (annI (q.join 26 e9) 12)) :=
      ⟨k9.1, Eq.trans k9.2.1 (res_eq (congrArg keepE (by exact annI_same rfl fun i => by simp [conEnv, erasCon, Env.join, Sub.nenv, assoc, CV.I, CV.B, upsI, upsB, Seg.I, Seg.B, SC.I, SC.B, IE.den, BE.den])) (by exact notes_same rfl fun i _ => by simp [noteAt, conEnv, erasCon, Env.join, Sub.nenv, assoc, CV.I, CV.B, upsI, upsB, Seg.I, Seg.B, SC.I, SC.B, IE.den, BE.den]))⟩
    clear k9
    generalize q.join 26 e9 = q at *
    refine Sat.call rfl ⟨hF.1.1.2.1, (show q.iv 5 ≤ 1000000 from Int.le_trans hF.1.2.2.1 (by decide)), hF.1.1.2.2.2.1, (show q.iv 13 ≤ 1000000 from Int.le_trans hF.1.2.2.2.2.1 (by decide))⟩ fun e10 k10 => ?_
    replace hF : F6 M (q.join 34 e10) := hF
    replace rx : Res (q.join 34 e10) 0 26 (keepE (annI (q.join 34 e10) 12)) := rx
    have ry : Res (q.join 34 e10) 4 34 (keepE (annI (q.join 34 e10) 12)) :=
      ⟨k10.1, Eq.trans k10.2.1 (res_eq (congrArg keepE (by exact annI_same rfl fun i => by simp [conEnv, erasCon, Env.join, Sub.nenv, assoc, CV.I, CV.B, upsI, upsB, Seg.I, Seg.B, SC.I, SC.B, IE.den, BE.den])) (by exact notes_same rfl fun i _ => by simp [noteAt, conEnv, erasCon, Env.join, Sub.nenv, assoc, CV.I, CV.B, upsI, upsB, Seg.I, Seg.B, SC.I, SC.B, IE.den, BE.den]))⟩
    clear k10
    generalize q.join 34 e10 = q at *
    have hn : 0 ≤ q.iv 1 ∧ 0 ≤ q.iv 5 ∧ q.iv 1 ≤ 30 ∧ q.iv 5 ≤ 30 := ⟨hF.1.1.1.2.1, hF.1.1.2.1.2.1, hF.1.2.1, hF.1.2.2.1⟩
    refine Sat.call rfl ⟨⟨fun h => (Bool.false_ne_true h).elim, show 0 ≤ q.iv 1 + q.iv 5 from by omega, hF.1.2.2.2.2.2.2.2.1, hF.1.2.2.2.2.2.2.2.2⟩, show q.iv 1 + q.iv 5 ≤ 1000000 from by omega, hF.1.1.2.2.2.1, (show q.iv 13 ≤ 1000000 from Int.le_trans hF.1.2.2.2.2.1 (by decide))⟩ fun e11 k11 => ?_
    replace hF : F6 M (q.join 42 e11) := hF
    replace rx : Res (q.join 42 e11) 0 26 (keepE (annI (q.join 42 e11) 12)) := rx
    replace ry : Res (q.join 42 e11) 4 34 (keepE (annI (q.join 42 e11) 12)) := ry
    replace hn : 0 ≤ (q.join 42 e11).iv 1 ∧ 0 ≤ (q.join 42 e11).iv 5 ∧ (q.join 42 e11).iv 1 ≤ 30 ∧ (q.join 42 e11).iv 5 ≤ 30 := hn
    have rz : OkSl (q.join 42 e11) 42 ∧ notes (q.join 42 e11) 42 = (allN (q.join 42 e11)).filter (fun n => !keepE (annI (q.join 42 e11) 12) n) :=
      ⟨k11.1, Eq.trans k11.2.1 (res_eq (congrArg keepE (by exact annI_same rfl fun i => by simp [conEnv, erasCon, Env.join, Sub.nenv, assoc, CV.I, CV.B, upsI, upsB, Seg.I, Seg.B, SC.I, SC.B, IE.den, BE.den])) (by exact range_map_congr fun i _ => by simp [noteAt, conEnv, erasCon, Env.join, Sub.nenv, assoc, CV.I, CV.B, upsI, upsB, Seg.I, Seg.B, SC.I, SC.B, IE.den, BE.den]))⟩
    have rs : OkSl (q.join 42 e11) 46 ∧ notes (q.join 42 e11) 46 = (allN (q.join 42 e11)).filter (keepE (annI (q.join 42 e11) 12)) :=
      ⟨k11.2.2.1, Eq.trans k11.2.2.2 (res_eq2 (congrArg keepE (by exact annI_same rfl fun i => by simp [conEnv, erasCon, Env.join, Sub.nenv, assoc, CV.I, CV.B, upsI, upsB, Seg.I, Seg.B, SC.I, SC.B, IE.den, BE.den])) (by exact range_map_congr fun i _ => by simp [noteAt, conEnv, erasCon, Env.join, Sub.nenv, assoc, CV.I, CV.B, upsI, upsB, Seg.I, Seg.B, SC.I, SC.B, IE.den, BE.den]))⟩
    clear k11
    generalize q.join 42 e11 = q at *
    have lx := rx.len hn.1
    have ly := ry.len hn.2.1
    have hm : 0 ≤ q.iv 27 ∧ 0 ≤ q.iv 35 ∧ q.iv 27 ≤ 30 ∧ q.iv 35 ≤ 30 := ⟨rx.1.2.1, ry.1.2.1, Int.le_trans lx hn.2.2.1, Int.le_trans ly hn.2.2.2⟩
    clear lx ly
    refine Sat.ob (by simp only [D.le, D.lef, D.lt, D.ltf, D.eq, D.eqf, D.not, D.notf, D.and, D.andf, D.or, D.orf, D.inr, D.var, D.lit, D.cellB, D.beq, D.beqf, D.litI, D.varI, D.add, D.sub, D.mul, D.min, D.max, D.cellI, D.i64min, D.i64max]; omega) (Sat.ob (nilOb rx.1) (Sat.ob (decide_eq_true rx.1.2.1) (Sat.new fun e12 hf => ?_)))
    have hc : ∀ i j : Nat, (i : Int) < (q.join 50 e12).iv 27 → (q.join 50 e12).ic 51 i 0 j = (q.join 50 e12).ic 29 i 0 j ∧ (q.join 50 e12).bc 51 i 0 j = (q.join 50 e12).bc 29 i 0 j := fun i j hi => by
      have := (hf _ (.tail _ (.tail _ (.tail _ (.head _)))) i j).2 hi
      simpa [CV.I, CV.B, Seg.I, Seg.B, upsI, upsB, IE.den] using this
    clear hf
    replace hF : F6 M (q.join 50 e12) := hF
    replace rx : Res (q.join 50 e12) 0 26 (keepE (annI (q.join 50 e12) 12)) := rx
    replace ry : Res (q.join 50 e12) 4 34 (keepE (annI (q.join 50 e12) 12)) := ry
    replace hn : 0 ≤ (q.join 50 e12).iv 1 ∧ 0 ≤ (q.join 50 e12).iv 5 ∧ (q.join 50 e12).iv 1 ≤ 30 ∧ (q.join 50 e12).iv 5 ≤ 30 := hn
    replace rz : OkSl (q.join 50 e12) 42 ∧ notes (q.join 50 e12) 42 = (allN (q.join 50 e12)).filter (fun n => !keepE (annI (q.join 50 e12) 12) n) := rz
    replace rs : OkSl (q.join 50 e12) 46 ∧ notes (q.join 50 e12) 46 = (allN (q.join 50 e12)).filter (keepE (annI (q.join 50 e12) 12)) := rs
    replace hm : 0 ≤ (q.join 50 e12).iv 27 ∧ 0 ≤ (q.join 50 e12).iv 35 ∧ (q.join 50 e12).iv 27 ≤ 30 ∧ (q.join 50 e12).iv 35 ≤ 30 := hm
    generalize q.join 50 e12 = q at *
    refine Sat.ob (by simp only [D.le, D.lef, D.lt, D.ltf, D.eq, D.eqf, D.not, D.notf, D.and, D.andf, D.or, D.orf, D.inr, D.var, D.lit, D.cellB, D.beq, D.beqf, D.litI, D.varI, D.add, D.sub, D.mul, D.min, D.max, D.cellI, D.i64min, D.i64max]; omega) (Sat.ob (nilOb ry.1) (Sat.ob (decide_eq_true ry.1.2.1) (Sat.new fun e13 hf => ?_)))
    have hcap : (q.join 52 e13).iv 27 + (q.join 52 e13).iv 35 ≤ (q.join 52 e13).iv 52 ∧ (q.join 52 e13).iv 52 ≤ 9223372036854775807 := by
      have := hf _ (.head _)
      simp only [D.be, D.le, D.lef, D.lt, D.ltf, D.eq, D.eqf, D.not, D.notf, D.and, D.andf, D.or, D.orf, D.inr, D.var, D.lit, D.cellB, D.beq, D.beqf, D.litI, D.varI, D.add, D.sub, D.mul, D.min, D.max, D.cellI, D.i64min, D.i64max] at this
      exact this
    have hd : ∀ i j : Nat, (i : Int) < (q.join 52 e13).iv 27 → (q.join 52 e13).ic 53 i 0 j = (q.join 52 e13).ic 51 i 0 j ∧ (q.join 52 e13).bc 53 i 0 j = (q.join 52 e13).bc 51 i 0 j := fun i j hi => by
      have := (hf _ (.tail _ (.tail _ (.tail _ (.head _)))) i j).1 hi
      simpa [CV.I, CV.B, Seg.I, Seg.B, upsI, upsB, IE.den] using this
    have hd2 : ∀ i j : Nat, (i : Int) < (q.join 52 e13).iv 35 → (q.join 52 e13).ic 53 (((q.join 52 e13).iv 27).toNat + i) 0 j = (q.join 52 e13).ic 37 i 0 j ∧ (q.join 52 e13).bc 53 (((q.join 52 e13).iv 27).toNat + i) 0 j = (q.join 52 e13).bc 37 i 0 j := fun i j hi => by
      have := (hf _ (.tail _ (.tail _ (.tail _ (.head _)))) i j).2 hi
      simpa [CV.I, CV.B, Seg.I, Seg.B, upsI, upsB, IE.den] using this
    clear hf
    replace hF : F6 M (q.join 52 e13) := hF
    replace rx : Res (q.join 52 e13) 0 26 (keepE (annI (q.join 52 e13) 12)) := rx
    replace ry : Res (q.join 52 e13) 4 34 (keepE (annI (q.join 52 e13) 12)) := ry
    replace hn : 0 ≤ (q.join 52 e13).iv 1 ∧ 0 ≤ (q.join 52 e13).iv 5 ∧ (q.join 52 e13).iv 1 ≤ 30 ∧ (q.join 52 e13).iv 5 ≤ 30 := hn
    replace rz : OkSl (q.join 52 e13) 42 ∧ notes (q.join 52 e13) 42 = (allN (q.join 52 e13)).filter (fun n => !keepE (annI (q.join 52 e13) 12) n) := rz
    replace rs : OkSl (q.join 52 e13) 46 ∧ notes (q.join 52 e13) 46 = (allN (q.join 52 e13)).filter (keepE (annI (q.join 52 e13) 12)) := rs
    replace hm : 0 ≤ (q.join 52 e13).iv 27 ∧ 0 ≤ (q.join 52 e13).iv 35 ∧ (q.join 52 e13).iv 27 ≤ 30 ∧ (q.join 52 e13).iv 35 ≤ 30 := hm
    replace hc : ∀ i j : Nat, (i : Int) < (q.join 52 e13).iv 27 → (q.join 52 e13).ic 51 i 0 j = (q.join 52 e13).ic 29 i 0 j ∧ (q.join 52 e13).bc 51 i 0 j = (q.join 52 e13).bc 29 i 0 j := hc
    generalize q.join 52 e13 = q at *
    have hlen := whole_len hF.1.2.2.2.2.2.2.1 rz rs hn.1 hn.2.1
    have hz := rz.1.2.1
    have hs := rs.1.2.1
    simp only [Nat.reduceAdd] at hz hs hlen
    refine Sat.call rfl ⟨⟨fun h => (Bool.false_ne_true h).elim, show 0 ≤ q.iv 27 + q.iv 35 from by omega, hcap⟩, show q.iv 27 + q.iv 35 ≤ 1000000 from by omega, rz.1, show q.iv 43 ≤ 1000000 from by omega⟩ fun e14 k14 => ?_
    have g : (q.join 54 e14).bv 54 = true := k14 (by
      refine Eq.trans (b := (List.range (q.iv 27 + q.iv 35).toNat).map (noteAt q 53)) (by exact range_map_congr fun i _ => by simp [noteAt, conEnv, sameCon, Env.join, Sub.nenv, assoc, CV.I, CV.B, upsI, upsB, Seg.I, Seg.B, SC.I, SC.B, IE.den, BE.den]) ?_
      refine Eq.trans ?_ (show notes q 42 = _ from by exact Eq.symm <| range_map_congr fun i _ => by simp [noteAt, conEnv, sameCon, Env.join, Sub.nenv, assoc, CV.I, CV.B, upsI, upsB, Seg.I, Seg.B, SC.I, SC.B, IE.den, BE.den])
      rw [cat_notes (b := 26) (c := 34) (r := 53) hm.1 hm.2.1 rfl (fun i j hi => ⟨((hd i j hi).1).trans (hc i j hi).1, ((hd i j hi).2).trans (hc i j hi).2⟩) hd2, rx.2, ry.2, rz.2, hF.1.2.2.2.2.2.2.1, List.filter_append])
    clear k14 hc hd hd2 hcap
    replace hF : F6 M (q.join 54 e14) := hF
    replace rx : Res (q.join 54 e14) 0 26 (keepE (annI (q.join 54 e14) 12)) := rx
    replace ry : Res (q.join 54 e14) 4 34 (keepE (annI (q.join 54 e14) 12)) := ry
    replace hn : 0 ≤ (q.join 54 e14).iv 1 ∧ 0 ≤ (q.join 54 e14).iv 5 ∧ (q.join 54 e14).iv 1 ≤ 30 ∧ (q.join 54 e14).iv 5 ≤ 30 := hn
    replace rz : OkSl (q.join 54 e14) 42 ∧ notes (q.join 54 e14) 42 = (allN (q.join 54 e14)).filter (fun n => !keepE (annI (q.join 54 e14) 12) n) := rz
    replace rs : OkSl (q.join 54 e14) 46 ∧ notes (q.join 54 e14) 46 = (allN (q.join 54 e14)).filter (keepE (annI (q.join 54 e14) 12)) := rs
    replace hm : 0 ≤ (q.join 54 e14).iv 27 ∧ 0 ≤ (q.join 54 e14).iv 35 ∧ (q.join 54 e14).iv 27 ≤ 30 ∧ (q.join 54 e14).iv 35 ≤ 30 := hm
    replace hlen : (q.join 54 e14).iv 43 + (q.join 54 e14).iv 47 = (q.join 54 e14).iv 1 + (q.join 54 e14).iv 5 := hlen
    replace hz : 0 ≤ (q.join 54 e14).iv 43 := hz
    replace hs : 0 ≤ (q.join 54 e14).iv 47 := hs
    generalize q.join 54 e14 = q at *
    refine Sat.ob (D.or.mpr (.inr (nilOb rz.1))) (Sat.ob (D.or.mpr (.inr (decide_eq_true hz))) (Sat.ob (D.or.mpr (.inr (nilOb rs.1))) (Sat.ob (D.or.mpr (.inr (decide_eq_true hs))) (Sat.ob (by simp only [D.le, D.lef, D.lt, D.ltf, D.eq, D.eqf, D.not, D.notf, D.and, D.andf, D.or, D.orf, D.inr, D.var, D.lit, D.cellB, D.beq, D.beqf, D.litI, D.varI, D.add, D.sub, D.mul, D.min, D.max, D.cellI, D.i64min, D.i64max]; exact .inr (by omega)) (Sat.ob (by simp only [D.le, D.lef, D.lt, D.ltf, D.eq, D.eqf, D.not, D.notf, D.and, D.andf, D.or, D.orf, D.inr, D.var, D.lit, D.cellB, D.beq, D.beqf, D.litI, D.varI, D.add, D.sub, D.mul, D.min, D.max, D.cellI, D.i64min, D.i64max]; exact .inr (by omega)) (Sat.br (fun hf => ?_) (fun _ => Sat.br (fun hf => ?_) (fun _ => ?_))))))))
    · simp only [D.le, D.lef, D.lt, D.ltf, D.eq, D.eqf, D.not, D.notf, D.and, D.andf, D.or, D.orf, D.inr, D.var, D.lit, D.cellB, D.beq, D.beqf, D.litI, D.varI, D.add, D.sub, D.mul, D.min, D.max, D.cellI, D.i64min, D.i64max] at hf
      exact (Bool.false_ne_true (hf.symm.trans g)).elim
    · simp only [D.le, D.lef, D.lt, D.ltf, D.eq, D.eqf, D.not, D.notf, D.and, D.andf, D.or, D.orf, D.inr, D.var, D.lit, D.cellB, D.beq, D.beqf, D.litI, D.varI, D.add, D.sub, D.mul, D.min, D.max, D.cellI, D.i64min, D.i64max] at hf
      exact (hf hlen).elim
    · have hi := hF.2
      exact Sat.ob (by simp only [D.le, D.lef, D.lt, D.ltf, D.eq, D.eqf, D.not, D.notf, D.and, D.andf, D.or, D.orf, D.inr, D.var, D.lit, D.cellB, D.beq, D.beqf, D.litI, D.varI, D.add, D.sub, D.mul, D.min, D.max, D.cellI, D.i64min, D.i64max]; omega) (Sat.back rfl ⟨⟨hF.1, show 0 ≤ q.iv 25 + 1 from by omega, show q.iv 25 + 1 ≤ 4 from by omega⟩, show (4 - (q.iv 25 + 1)).toNat < M from by omega⟩)
  · skip
    refine Sat.call rfl ⟨hF.1.1.1, (show q.iv 1 ≤ 1000000 from Int.le_trans hF.1.2.1 (by decide)), hF.1.1.2.2.2.2.1, (show q.iv 17 ≤ 1000000 from Int.le_trans hF.1.2.2.2.2.2.1 (by decide))⟩ fun e15 k15 => ?_
    replace hF : F6 M (q.join 26 e15) := hF
    have rx : Res (q.join 26 e15) 0 26 (keepP (annP (q.join 26 e15) 16)) :=
      ⟨k15.1, Eq.trans k15.2.1 (res_eq (congrArg keepP (by exact annP_same rfl fun i j => by simp [conEnv, spansCon, Env.join, Sub.nenv, assoc, CV.I, CV.B, upsI, upsB, Seg.I, Seg.B, SC.I, SC.B, IE.den, BE.den])) (by exact notes_same rfl fun i _ => by simp [noteAt, conEnv, spansCon, Env.join, Sub.nenv, assoc, CV.I, CV.B, upsI, upsB, Seg.I, Seg.B, SC.I, SC.B, IE.den, BE.den]))⟩
    clear k15
    generalize q.join 26 e15 = q at *
    refine Sat.call rfl ⟨hF.1.1.2.1, (show q.iv 5 ≤ 1000000 from Int.le_trans hF.1.2.2.1 (by decide)), hF.1.1.2.2.2.2.1, (show q.iv 17 ≤ 1000000 from Int.le_trans hF.1.2.2.2.2.2.1 (by decide))⟩ fun e16 k16 => ?_
    replace hF : F6 M (q.join 34 e16) := hF
    replace rx : Res (q.join 34 e16) 0 26 (keepP (annP (q.join 34 e16) 16)) := rx
    have ry : Res (q.join 34 e16) 4 34 (keepP (annP (q.join 34 e16) 16)) :=
      ⟨k16.1, Eq.trans k16.2.1 (res_eq (congrArg keepP (by exact annP_same rfl fun i j => by simp [conEnv, spansCon, Env.join, Sub.nenv, assoc, CV.I, CV.B, upsI, upsB, Seg.I, Seg.B, SC.I, SC.B, IE.den, BE.den])) (by exact notes_same rfl fun i _ => by simp [noteAt, conEnv, spansCon, Env.join, Sub.nenv, assoc, CV.I, CV.B, upsI, upsB, Seg.I, Seg.B, SC.I, SC.B, IE.den, BE.den]))⟩
    clear k16
    generalize q.join 34 e16 = q at *
    have hn : 0 ≤ q.iv 1 ∧ 0 ≤ q.iv 5 ∧ q.iv 1 ≤ 30 ∧ q.iv 5 ≤ 30 := ⟨hF.1.1.1.2.1, hF.1.1.2.1.2.1, hF.1.2.1, hF.1.2.2.1⟩
    refine Sat.call rfl ⟨⟨fun h => (Bool.false_ne_true h).elim, show 0 ≤ q.iv 1 + q.iv 5 from by omega, hF.1.2.2.2.2.2.2.2.1, hF.1.2.2.2.2.2.2.2.2⟩, show q.iv 1 + q.iv 5 ≤ 1000000 from by omega, hF.1.1.2.2.2.2.1, (show q.iv 17 ≤ 1000000 from Int.le_trans hF.1.2.2.2.2.2.1 (by decide))⟩ fun e17 k17 => ?_
    replace hF : F6 M (q.join 42 e17) := hF
    replace rx : Res (q.join 42 e17) 0 26 (keepP (annP (q.join 42 e17) 16)) := rx
    replace ry : Res (q.join 42 e17) 4 34 (keepP (annP (q.join 42 e17) 16)) := ry
    replace hn : 0 ≤ (q.join 42 e17).iv 1 ∧ 0 ≤ (q.join 42 e17).iv 5 ∧ (q.join 42 e17).iv 1 ≤ 30 ∧ (q.join 42 e17).iv 5 ≤ 30 := hn
    have rz : OkSl (q.join 42 e17) 42 ∧ notes (q.join 42 e17) 42 = (allN (q.join 42 e17)).filter (fun n => !keepP (annP (q.join 42 e17) 16) n) :=
      ⟨k17.1, Eq.trans k17.2.1 (res_eq (congrArg keepP (by exact annP_same rfl fun i j => by simp [conEnv, spansCon, Env.join, Sub.nenv, assoc, CV.I, CV.B, upsI, upsB, Seg.I, Seg.B, SC.I, SC.B, IE.den, BE.den])) (by exact range_map_congr fun i _ => by simp [noteAt, conEnv, spansCon, Env.join, Sub.nenv, assoc, CV.I, CV.B, upsI, upsB, Seg.I, Seg.B, SC.I, SC.B, IE.den, BE.den]))⟩
    have rs : OkSl (q.join 42 e17) 46 ∧ notes (q.join 42 e17) 46 = (allN (q.join 42 e17)).filter (keepP (annP (q.join 42 e17) 16)) :=
      ⟨k17.2.2.1, Eq.trans k17.2.2.2 (res_eq2 (congrArg keepP (by exact annP_same rfl fun i j => by simp [conEnv, spansCon, Env.join, Sub.nenv, assoc, CV.I, CV.B, upsI, upsB, Seg.I, Seg.B, SC.I, SC.B, IE.den, BE.den])) (by exact range_map_congr fun i _ => by simp [noteAt, conEnv, spansCon, Env.join, Sub.nenv, assoc, CV.I, CV.B, upsI, upsB, Seg.I, Seg.B, SC.I, SC.B, IE.den, BE.den]))⟩
    clear k17
    generalize q.join 42 e17 = q at *
    have lx := rx.len hn.1
    have ly := ry.len hn.2.1
    have hm : 0 ≤ q.iv 27 ∧ 0 ≤ q.iv 35 ∧ q.iv 27 ≤ 30 ∧ q.iv 35 ≤ 30 := ⟨rx.1.2.1, ry.1.2.1, Int.le_trans lx hn.2.2.1, Int.le_trans ly hn.2.2.2⟩
    clear lx ly
    refine Sat.ob (by simp only [D.le, D.lef, D.lt, D.ltf, D.eq, D.eqf, D.not, D.notf, D.and, D.andf, D.or, D.orf, D.inr, D.var, D.lit, D.cellB, D.beq, D.beqf, D.litI, D.varI, D.add, D.sub, D.mul, D.min, D.max, D.cellI, D.i64min, D.i64max]; omega) (Sat.ob (nilOb rx.1) (Sat.ob (decide_eq_true rx.1.2.1) (Sat.new fun e18 hf => ?_)))
    have hc : ∀ i j : Nat, (i : Int) < (q.join 50 e18).iv 27 → (q.join 50 e18).ic 51 i 0 j = (q.join 50 e18).ic 29 i 0 j ∧ (q.join 50 e18).bc 51 i 0 j = (q.join 50 e18).bc 29 i 0 j := fun i j hi => by
      have := (hf _ (.tail _ (.tail _ (.tail _ (.head _)))) i j).2 hi
      simpa [CV.I, CV.B, Seg.I, Seg.B, upsI, upsB, IE.den] using this
    clear hf
    replace hF : F6 M (q.join 50 e18) := hF
    replace rx : Res (q.join 50 e18) 0 26 (keepP (annP (q.join 50 e18) 16)) := rx
    replace ry : Res (q.join 50 e18) 4 34 (keepP (annP (q.join 50 e18) 16)) := ry
    replace hn : 0 ≤ (q.join 50 e18).iv 1 ∧ 0 ≤ (q.join 50 e18).iv 5 ∧ (q.join 50 e18).iv 1 ≤ 30 ∧ (q.join 50 e18).iv 5 ≤ 30 := hn
    replace rz : OkSl (q.join 50 e18) 42 ∧ notes (q.join 50 e18) 42 = (allN (q.join 50 e18)).filter (fun n => !keepP (annP (q.join 50 e18) 16) n) := rz
    replace rs : OkSl (q.join 50 e18) 46 ∧ notes (q.join 50 e18) 46 = (allN (q.join 50 e18)).filter (keepP (annP (q.join 50 e18) 16)) := rs
    replace hm : 0 ≤ (q.join 50 e18).iv 27 ∧ 0 ≤ (q.join 50 e18).iv 35 ∧ (q.join 50 e18).iv 27 ≤ 30 ∧ (q.join 50 e18).iv 35 ≤ 30 := hm
    generalize q.join 50 e18 = q at *
    refine Sat.ob (by simp only [D.le, D.lef, D.lt, D.ltf, D.eq, D.eqf, D.not, D.notf, D.and, D.andf, D.or, D.orf, D.inr, D.var, D.lit, D.cellB, D.beq, D.beqf, D.litI, D.varI, D.add, D.sub, D.mul, D.min, D.max, D.cellI, D.i64min, D.i64max]; omega) (Sat.ob (nilOb ry.1) (Sat.ob (decide_eq_true ry.1.2.1) (Sat.new fun e19 hf => ?_)))
    have hcap : (q.join 52 e19).iv 27 + (q.join 52 e19).iv 35 ≤ (q.join 52 e19).iv 52 ∧ (q.join 52 e19).iv 52 ≤ 9223372036854775807 := by
      have := hf _ (.head _)
      simp only [D.be, D.le, D.lef, D.lt, D.ltf, D.eq, D.eqf, D.not, D.notf, D.and, D.andf, D.or, D.orf, D.inr, D.var, D.lit, D.cellB, D.beq, D.beqf, D.litI, D.varI, D.add, D.sub, D.mul, D.min, D.max, D.cellI, D.i64min, D.i64max] at this
      exact this
    have hd : ∀ i j : Nat, (i : Int) < (q.join 52 e19).iv 27 → (q.join 52 e19).ic 53 i 0 j = (q.join 52 e19).ic 51 i 0 j ∧ (q.join 52 e19).bc 53 i 0 j = (q.join 52 e19).bc 51 i 0 j := fun i j hi => by
      have := (hf _ (.tail _ (.tail _ (.tail _ (.head _)))) i j).1 hi
      simpa [CV.I, CV.B, Seg.I, Seg.B, upsI, upsB, IE.den] using this
    have hd2 : ∀ i j : Nat, (i : Int) < (q.join 52 e19).iv 35 → (q.join 52 e19).ic 53 (((q.join 52 e19).iv 27).toNat + i) 0 j = (q.join 52 e19).ic 37 i 0 j ∧ (q.join 52 e19).bc 53 (((q.join 52 e19).iv 27).toNat + i) 0 j = (q.join 52 e19).bc 37 i 0 j := fun i j hi => by
      have := (hf _ (.tail _ (.tail _ (.tail _ (.head _)))) i j).2 hi
      simpa [CV.I, CV.B, Seg.I, Seg.B, upsI, upsB, IE.den] using this
    clear hf
    replace hF : F6 M (q.join 52 e19) := hF
    replace rx : Res (q.join 52 e19) 0 26 (keepP (annP (q.join 52 e19) 16)) := rx
    replace ry : Res (q.join 52 e19) 4 34 (keepP (annP (q.join 52 e19) 16)) := ry
    replace hn : 0 ≤ (q.join 52 e19).iv 1 ∧ 0 ≤ (q.join 52 e19).iv 5 ∧ (q.join 52 e19).iv 1 ≤ 30 ∧ (q.join 52 e19).iv 5 ≤ 30 := hn
    replace rz : OkSl (q.join 52 e19) 42 ∧ notes (q.join 52 e19) 42 = (allN (q.join 52 e19)).filter (fun n => !keepP (annP (q.join 52 e19) 16) n) := rz
    replace rs : OkSl (q.join 52 e19) 46 ∧ notes (q.join 52 e19) 46 = (allN (q.join 52 e19)).filter (keepP (annP (q.join 52 e19) 16)) := rs
    replace hm : 0 ≤ (q.join 52 e19).iv 27 ∧ 0 ≤ (q.join 52 e19).iv 35 ∧ (q.join 52 e19).iv 27 ≤ 30 ∧ (q.join 52 e19).iv 35 ≤ 30 := hm
    replace hc : ∀ i j : Nat, (i : Int) < (q.join 52 e19).iv 27 → (q.join 52 e19).ic 51 i 0 j = (q.join 52 e19).ic 29 i 0 j ∧ (q.join 52 e19).bc 51 i 0 j = (q.join 52 e19).bc 29 i 0 j := hc
    generalize q.join 52 e19 = q at *
    have hlen := whole_len hF.1.2.2.2.2.2.2.1 rz rs hn.1 hn.2.1
    have hz := rz.1.2.1
    have hs := rs.1.2.1
    simp only [Nat.reduceAdd] at hz hs hlen
    refine Sat.call rfl ⟨⟨fun h => (Bool.false_ne_true h).elim, show 0 ≤ q.iv 27 + q.iv 35 from by omega, hcap⟩, show q.iv 27 + q.iv 35 ≤ 1000000 from by omega, rz.1, show q.iv 43 ≤ 1000000 from by omega⟩ fun e20 k20 => ?_
    have g : (q.join 54 e20).bv 54 = true := k20 (by
      refine Eq.trans (b := (List.range (q.iv 27 + q.iv 35).toNat).map (noteAt q 53)) (by exact range_map_congr fun i _ => by simp [noteAt, conEnv, sameCon, Env.join, Sub.nenv, assoc, CV.I, CV.B, upsI, upsB, Seg.I, Seg.B, SC.I, SC.B, IE.den, BE.den]) ?_
      refine Eq.trans ?_ (show notes q 42 = _ from by exact Eq.symm <| range_map_congr fun i _ => by simp [noteAt, conEnv, sameCon, Env.join, Sub.nenv, assoc, CV.I, CV.B, upsI, upsB, Seg.I, Seg.B, SC.I, SC.B, IE.den, BE.den])
      rw [cat_notes (b := 26) (c := 34) (r := 53) hm.1 hm.2.1 rfl (fun i j hi => ⟨((hd i j hi).1).trans (hc i j hi).1, ((hd i j hi).2).trans (hc i j hi).2⟩) hd2, rx.2, ry.2, rz.2, hF.1.2.2.2.2.2.2.1, List.filter_append])
    clear k20 hc hd hd2 hcap
    replace hF : F6 M (q.join 54 e20) := hF
    replace rx : Res (q.join 54 e20) 0 26 (keepP (annP (q.join 54 e20) 16)) := rx
    replace ry : Res (q.join 54 e20) 4 34 (keepP (annP (q.join 54 e20) 16)) := ry
    replace hn : 0 ≤ (q.join 54 e20).iv 1 ∧ 0 ≤ (q.join 54 e20).iv 5 ∧ (q.join 54 e20).iv 1 ≤ 30 ∧ (q.join 54 e20).iv 5 ≤ 30 := hn
    replace rz : OkSl (q.join 54 e20) 42 ∧ notes (q.join 54 e20) 42 = (allN (q.join 54 e20)).filter (fun n => !keepP (annP (q.join 54 e20) 16) n) := rz
    replace rs : OkSl (q.join 54 e20) 46 ∧ notes (q.join 54 e20) 46 = (allN (q.join 54 e20)).filter (keepP (annP (q.join 54 e20) 16)) := rs
    replace hm : 0 ≤ (q.join 54 e20).iv 27 ∧ 0 ≤ (q.join 54 e20).iv 35 ∧ (q.join 54 e20).iv 27 ≤ 30 ∧ (q.join 54 e20).iv 35 ≤ 30 := hm
    replace hlen : (q.join 54 e20).iv 43 + (q.join 54 e20).iv 47 = (q.join 54 e20).iv 1 + (q.join 54 e20).iv 5 := hlen
    replace hz : 0 ≤ (q.join 54 e20).iv 43 := hz
    replace hs : 0 ≤ (q.join 54 e20).iv 47 := hs
    generalize q.join 54 e20 = q at *
    refine Sat.ob (D.or.mpr (.inr (nilOb rz.1))) (Sat.ob (D.or.mpr (.inr (decide_eq_true hz))) (Sat.ob (D.or.mpr (.inr (nilOb rs.1))) (Sat.ob (D.or.mpr (.inr (decide_eq_true hs))) (Sat.ob (by simp only [D.le, D.lef, D.lt, D.ltf, D.eq, D.eqf, D.not, D.notf, D.and, D.andf, D.or, D.orf, D.inr, D.var, D.lit, D.cellB, D.beq, D.beqf, D.litI, D.varI, D.add, D.sub, D.mul, D.min, D.max, D.cellI, D.i64min, D.i64max]; exact .inr (by omega)) (Sat.ob (by simp only [D.le, D.lef, D.lt, D.ltf, D.eq, D.eqf, D.not, D.notf, D.and, D.andf, D.or, D.orf, D.inr, D.var, D.lit, D.cellB, D.beq, D.beqf, D.litI, D.varI, D.add, D.sub, D.mul, D.min, D.max, D.cellI, D.i64min, D.i64max]; exact .inr (by omega)) (Sat.br (fun hf => ?_) (fun _ => Sat.br (fun hf => ?_) (fun _ => ?_))))))))
    · simp only [D.le, D.lef, D.lt, D.ltf, D.eq, D.eqf, D.not, D.notf, D.and, D.andf, D.or, D.orf, D.inr, D.var, D.lit, D.cellB, D.beq, D.beqf, D.litI, D.varI, D.add, D.sub, D.mul, D.min, D.max, D.cellI, D.i64min, D.i64max] at hf
      exact (Bool.false_ne_true (hf.symm.trans g)).elim
    · simp only [D.le, D.lef, D.lt, D.ltf, D.eq, D.eqf, D.not, D.notf, D.and, D.andf, D.or, D.orf, D.inr, D.var, D.lit, D.cellB, D.beq, D.beqf, D.litI, D.varI, D.add, D.sub, D.mul, D.min, D.max, D.cellI, D.i64min, D.i64max] at hf
      exact (hf hlen).elim
    · have hi := hF.2
      exact Sat.ob (by simp only [D.le, D.lef, D.lt, D.ltf, D.eq, D.eqf, D.not, D.notf, D.and, D.andf, D.or, D.orf, D.inr, D.var, D.lit, D.cellB, D.beq, D.beqf, D.litI, D.varI, D.add, D.sub, D.mul, D.min, D.max, D.cellI, D.i64min, D.i64max]; omega) (Sat.back rfl ⟨⟨hF.1, show 0 ≤ q.iv 25 + 1 from by omega, show q.iv 25 + 1 ≤ 4 from by omega⟩, show (4 - (q.iv 25 + 1)).toNat < M from by omega⟩)
  · skip
    refine Sat.call rfl ⟨hF.1.1.1, (show q.iv 1 ≤ 1000000 from Int.le_trans hF.1.2.1 (by decide)), hF.1.1.2.2.2.2.2⟩ fun e21 k21 => ?_
    replace hF : F6 M (q.join 26 e21) := hF
    have rx : Res (q.join 26 e21) 0 26 (keepT ((q.join 26 e21).iv 20)) :=
      ⟨k21.1, Eq.trans k21.2.1 (res_eq (rfl) (by exact notes_same rfl fun i _ => by simp [noteAt, conEnv, epochsCon, Env.join, Sub.nenv, assoc, CV.I, CV.B, upsI, upsB, Seg.I, Seg.B, SC.I, SC.B, IE.den, BE.den]))⟩
    clear k21
    generalize q.join 26 e21 = q at *
    refine Sat.call rfl ⟨hF.1.1.2.1, (show q.iv 5 ≤ 1000000 from Int.le_trans hF.1.2.2.1 (by decide)), hF.1.1.2.2.2.2.2⟩ fun e22 k22 => ?_
    replace hF : F6 M (q.join 34 e22) := hF
    replace rx : Res (q.join 34 e22) 0 26 (keepT ((q.join 34 e22).iv 20)) := rx
    have ry : Res (q.join 34 e22) 4 34 (keepT ((q.join 34 e22).iv 20)) :=
      ⟨k22.1, Eq.trans k22.2.1 (res_eq (rfl) (by exact notes_same rfl fun i _ => by simp [noteAt, conEnv, epochsCon, Env.join, Sub.nenv, assoc, CV.I, CV.B, upsI, upsB, Seg.I, Seg.B, SC.I, SC.B, IE.den, BE.den]))⟩
    clear k22
    generalize q.join 34 e22 = q at *
    have hn : 0 ≤ q.iv 1 ∧ 0 ≤ q.iv 5 ∧ q.iv 1 ≤ 30 ∧ q.iv 5 ≤ 30 := ⟨hF.1.1.1.2.1, hF.1.1.2.1.2.1, hF.1.2.1, hF.1.2.2.1⟩
    refine Sat.call rfl ⟨⟨fun h => (Bool.false_ne_true h).elim, show 0 ≤ q.iv 1 + q.iv 5 from by omega, hF.1.2.2.2.2.2.2.2.1, hF.1.2.2.2.2.2.2.2.2⟩, show q.iv 1 + q.iv 5 ≤ 1000000 from by omega, hF.1.1.2.2.2.2.2⟩ fun e23 k23 => ?_
    replace hF : F6 M (q.join 42 e23) := hF
    replace rx : Res (q.join 42 e23) 0 26 (keepT ((q.join 42 e23).iv 20)) := rx
    replace ry : Res (q.join 42 e23) 4 34 (keepT ((q.join 42 e23).iv 20)) := ry
    replace hn : 0 ≤ (q.join 42 e23).iv 1 ∧ 0 ≤ (q.join 42 e23).iv 5 ∧ (q.join 42 e23).iv 1 ≤ 30 ∧ (q.join 42 e23).iv 5 ≤ 30 := hn
    have rz : OkSl (q.join 42 e23) 42 ∧ notes (q.join 42 e23) 42 = (allN (q.join 42 e23)).filter (fun n => !keepT ((q.join 42 e23).iv 20) n) :=
      ⟨k23.1, Eq.trans k23.2.1 (res_eq (rfl) (by exact range_map_congr fun i _ => by simp [noteAt, conEnv, epochsCon, Env.join, Sub.nenv, assoc, CV.I, CV.B, upsI, upsB, Seg.I, Seg.B, SC.I, SC.B, IE.den, BE.den]))⟩
    have rs : OkSl (q.join 42 e23) 46 ∧ notes (q.join 42 e23) 46 = (allN (q.join 42 e23)).filter (keepT ((q.join 42 e23).iv 20)) :=
      ⟨k23.2.2.1, Eq.trans k23.2.2.2 (res_eq2 (rfl) (by exact range_map_congr fun i _ => by simp [noteAt, conEnv, epochsCon, Env.join, Sub.nenv, assoc, CV.I, CV.B, upsI, upsB, Seg.I, Seg.B, SC.I, SC.B, IE.den, BE.den]))⟩
    clear k23
    generalize q.join 42 e23 = q at *
    have lx := rx.len hn.1
    have ly := ry.len hn.2.1
    have hm : 0 ≤ q.iv 27 ∧ 0 ≤ q.iv 35 ∧ q.iv 27 ≤ 30 ∧ q.iv 35 ≤ 30 := ⟨rx.1.2.1, ry.1.2.1, Int.le_trans lx hn.2.2.1, Int.le_trans ly hn.2.2.2⟩
    clear lx ly
    refine Sat.ob (by simp only [D.le, D.lef, D.lt, D.ltf, D.eq, D.eqf, D.not, D.notf, D.and, D.andf, D.or, D.orf, D.inr, D.var, D.lit, D.cellB, D.beq, D.beqf, D.litI, D.varI, D.add, D.sub, D.mul, D.min, D.max, D.cellI, D.i64min, D.i64max]; omega) (Sat.ob (nilOb rx.1) (Sat.ob (decide_eq_true rx.1.2.1) (Sat.new fun e24 hf => ?_)))
    have hc : ∀ i j : Nat, (i : Int) < (q.join 50 e24).iv 27 → (q.join 50 e24).ic 51 i 0 j = (q.join 50 e24).ic 29 i 0 j ∧ (q.join 50 e24).bc 51 i 0 j = (q.join 50 e24).bc 29 i 0 j := fun i j hi => by
      have := (hf _ (.tail _ (.tail _ (.tail _ (.head _)))) i j).2 hi
      simpa [CV.I, CV.B, Seg.I, Seg.B, upsI, upsB, IE.den] using this
    clear hf
    replace hF : F6 M (q.join 50 e24) := hF
    replace rx : Res (q.join 50 e24) 0 26 (keepT ((q.join 50 e24).iv 20)) := rx
    replace ry : Res (q.join 50 e24) 4 34 (keepT ((q.join 50 e24).iv 20)) := ry
    replace hn : 0 ≤ (q.join 50 e24).iv 1 ∧ 0 ≤ (q.join 50 e24).iv 5 ∧ (q.join 50 e24).iv 1 ≤ 30 ∧ (q.join 50 e24).iv 5 ≤ 30 := hn
    replace rz : OkSl (q.join 50 e24) 42 ∧ notes (q.join 50 e24) 42 = (allN (q.join 50 e24)).filter (fun n => !keepT ((q.join 50 e24).iv 20) n) := rz
    replace rs : OkSl (q.join 50 e24) 46 ∧ notes (q.join 50 e24) 46 = (allN (q.join 50 e24)).filter (keepT ((q.join 50 e24).iv 20)) := rs
    replace hm : 0 ≤ (q.join 50 e24).iv 27 ∧ 0 ≤ (q.join 50 e24).iv 35 ∧ (q.join 50 e24).iv 27 ≤ 30 ∧ (q.join 50 e24).iv 35 ≤ 30 := hm
    generalize q.join 50 e24 = q at *
    refine Sat.ob (by simp only [D.le, D.lef, D.lt, D.ltf, D.eq, D.eqf, D.not, D.notf, D.and, D.andf, D.or, D.orf, D.inr, D.var, D.lit, D.cellB, D.beq, D.beqf, D.litI, D.varI, D.add, D.sub, D.mul, D.min, D.max, D.cellI, D.i64min, D.i64max]; omega) (Sat.ob (nilOb ry.1) (Sat.ob (decide_eq_true ry.1.2.1) (Sat.new fun e25 hf => ?_)))
    have hcap : (q.join 52 e25).iv 27 + (q.join 52 e25).iv 35 ≤ (q.join 52 e25).iv 52 ∧ (q.join 52 e25).iv 52 ≤ 9223372036854775807 := by
      have := hf _ (.head _)
      simp only [D.be, D.le, D.lef, D.lt, D.ltf, D.eq, D.eqf, D.not, D.notf, D.and, D.andf, D.or, D.orf, D.inr, D.var, D.lit, D.cellB, D.beq, D.beqf, D.litI, D.varI, D.add, D.sub, D.mul, D.min, D.max, D.cellI, D.i64min, D.i64max] at this
      exact this
    have hd : ∀ i j : Nat, (i : Int) < (q.join 52 e25).iv 27 → (q.join 52 e25).ic 53 i 0 j = (q.join 52 e25).ic 51 i 0 j ∧ (q.join 52 e25).bc 53 i 0 j = (q.join 52 e25).bc 51 i 0 j := fun i j hi => by
      have := (hf _ (.tail _ (.tail _ (.tail _ (.head _)))) i j).1 hi
      simpa [CV.I, CV.B, Seg.I, Seg.B, upsI, upsB, IE.den] using this
    have hd2 : ∀ i j : Nat, (i : Int) < (q.join 52 e25).iv 35 → (q.join 52 e25).ic 53 (((q.join 52 e25).iv 27).toNat + i) 0 j = (q.join 52 e25).ic 37 i 0 j ∧ (q.join 52 e25).bc 53 (((q.join 52 e25).iv 27).toNat + i) 0 j = (q.join 52 e25).bc 37 i 0 j := fun i j hi => by
      have := (hf _ (.tail _ (.tail _ (.tail _ (.head _)))) i j).2 hi
      simpa [CV.I, CV.B, Seg.I, Seg.B, upsI, upsB, IE.den] using this
    clear hf
    replace hF : F6 M (q.join 52 e25) := hF
    replace rx : Res (q.join 52 e25) 0 26 (keepT ((q.join 52 e25).iv 20)) := rx
    replace ry : Res (q.join 52 e25) 4 34 (keepT ((q.join 52 e25).iv 20)) := ry
    replace hn : 0 ≤ (q.join 52 e25).iv 1 ∧ 0 ≤ (q.join 52 e25).iv 5 ∧ (q.join 52 e25).iv 1 ≤ 30 ∧ (q.join 52 e25).iv 5 ≤ 30 := hn
    replace rz : OkSl (q.join 52 e25) 42 ∧ notes (q.join 52 e25) 42 = (allN (q.join 52 e25)).filter (fun n => !keepT ((q.join 52 e25).iv 20) n) := rz
    replace rs : OkSl (q.join 52 e25) 46 ∧ notes (q.join 52 e25) 46 = (allN (q.join 52 e25)).filter (keepT ((q.join 52 e25).iv 20)) := rs
    replace hm : 0 ≤ (q.join 52 e25).iv 27 ∧ 0 ≤ (q.join 52 e25).iv 35 ∧ (q.join 52 e25).iv 27 ≤ 30 ∧ (q.join 52 e25).iv 35 ≤ 30 := hm
    replace hc : ∀ i j : Nat, (i : Int) < (q.join 52 e25).iv 27 → (q.join 52 e25).ic 51 i 0 j = (q.join 52 e25).ic 29 i 0 j ∧ (q.join 52 e25).bc 51 i 0 j = (q.join 52 e25).bc 29 i 0 j := hc
    generalize q.join 52 e25 = q at *
    have hlen := whole_len hF.1.2.2.2.2.2.2.1 rz rs hn.1 hn.2.1
    have hz := rz.1.2.1
    have hs := rs.1.2.1
    simp only [Nat.reduceAdd] at hz hs hlen
    refine Sat.call rfl ⟨⟨fun h => (Bool.false_ne_true h).elim, show 0 ≤ q.iv 27 + q.iv 35 from by omega, hcap⟩, show q.iv 27 + q.iv 35 ≤ 1000000 from by omega, rz.1, show q.iv 43 ≤ 1000000 from by omega⟩ fun e26 k26 => ?_
    have g : (q.join 54 e26).bv 54 = true := k26 (by
      refine Eq.trans (b := (List.range (q.iv 27 + q.iv 35).toNat).map (noteAt q 53)) (by exact range_map_congr fun i _ => by simp [noteAt, conEnv, sameCon, Env.join, Sub.nenv, assoc, CV.I, CV.B, upsI, upsB, Seg.I, Seg.B, SC.I, SC.B, IE.den, BE.den]) ?_
      refine Eq.trans ?_ (show notes q 42 = _ from by exact Eq.symm <| range_map_congr fun i _ => by simp [noteAt, conEnv, sameCon, Env.join, Sub.nenv, assoc, CV.I, CV.B, upsI, upsB, Seg.I, Seg.B, SC.I, SC.B, IE.den, BE.den])
      rw [cat_notes (b := 26) (c := 34) (r := 53) hm.1 hm.2.1 rfl (fun i j hi => ⟨((hd i j hi).1).trans (hc i j hi).1, ((hd i j hi).2).trans (hc i j hi).2⟩) hd2, rx.2, ry.2, rz.2, hF.1.2.2.2.2.2.2.1, List.filter_append])
    clear k26 hc hd hd2 hcap
    replace hF : F6 M (q.join 54 e26) := hF
    replace rx : Res (q.join 54 e26) 0 26 (keepT ((q.join 54 e26).iv 20)) := rx
    replace ry : Res (q.join 54 e26) 4 34 (keepT ((q.join 54 e26).iv 20)) := ry
    replace hn : 0 ≤ (q.join 54 e26).iv 1 ∧ 0 ≤ (q.join 54 e26).iv 5 ∧ (q.join 54 e26).iv 1 ≤ 30 ∧ (q.join 54 e26).iv 5 ≤ 30 := hn
    replace rz : OkSl (q.join 54 e26) 42 ∧ notes (q.join 54 e26) 42 = (allN (q.join 54 e26)).filter (fun n => !keepT ((q.join 54 e26).iv 20) n) := rz
    replace rs : OkSl (q.join 54 e26) 46 ∧ notes (q.join 54 e26) 46 = (allN (q.join 54 e26)).filter (keepT ((q.join 54 e26).iv 20)) := rs
    replace hm : 0 ≤ (q.join 54 e26).iv 27 ∧ 0 ≤ (q.join 54 e26).iv 35 ∧ (q.join 54 e26).iv 27 ≤ 30 ∧ (q.join 54 e26).iv 35 ≤ 30 := hm
    replace hlen : (q.join 54 e26).iv 43 + (q.join 54 e26).iv 47 = (q.join 54 e26).iv 1 + (q.join 54 e26).iv 5 := hlen
    replace hz : 0 ≤ (q.join 54 e26).iv 43 := hz
    replace hs : 0 ≤ (q.join 54 e26).iv 47 := hs
    generalize q.join 54 e26 = q at *
    refine Sat.ob (D.or.mpr (.inr (nilOb rz.1))) (Sat.ob (D.or.mpr (.inr (decide_eq_true hz))) (Sat.ob (D.or.mpr (.inr (nilOb rs.1))) (Sat.ob (D.or.mpr (.inr (decide_eq_true hs))) (Sat.ob (by simp only [D.le, D.lef, D.lt, D.ltf, D.eq, D.eqf, D.not, D.notf, D.and, D.andf, D.or, D.orf, D.inr, D.var, D.lit, D.cellB, D.beq, D.beqf, D.litI, D.varI, D.add, D.sub, D.mul, D.min, D.max, D.cellI, D.i64min, D.i64max]; exact .inr (by omega)) (Sat.ob (by simp only [D.le, D.lef, D.lt, D.ltf, D.eq, D.eqf, D.not, D.notf, D.and, D.andf, D.or, D.orf, D.inr, D.var, D.lit, D.cellB, D.beq, D.beqf, D.litI, D.varI, D.add, D.sub, D.mul, D.min, D.max, D.cellI, D.i64min, D.i64max]; exact .inr (by omega)) (Sat.br (fun hf => ?_) (fun _ => Sat.br (fun hf => ?_) (fun _ => ?_))))))))
    · simp only [D.le, D.lef, D.lt, D.ltf, D.eq, D.eqf, D.not, D.notf, D.and, D.andf, D.or, D.orf, D.inr, D.var, D.lit, D.cellB, D.beq, D.beqf, D.litI, D.varI, D.add, D.sub, D.mul, D.min, D.max, D.cellI, D.i64min, D.i64max] at hf
      exact (Bool.false_ne_true (hf.symm.trans g)).elim
    · simp only [D.le, D.lef, D.lt, D.ltf, D.eq, D.eqf, D.not, D.notf, D.and, D.andf, D.or, D.orf, D.inr, D.var, D.lit, D.cellB, D.beq, D.beqf, D.litI, D.varI, D.add, D.sub, D.mul, D.min, D.max, D.cellI, D.i64min, D.i64max] at hf
      exact (hf hlen).elim
    · have hi := hF.2
      exact Sat.ob (by simp only [D.le, D.lef, D.lt, D.ltf, D.eq, D.eqf, D.not, D.notf, D.and, D.andf, D.or, D.orf, D.inr, D.var, D.lit, D.cellB, D.beq, D.beqf, D.litI, D.varI, D.add, D.sub, D.mul, D.min, D.max, D.cellI, D.i64min, D.i64max]; omega) (Sat.back rfl ⟨⟨hF.1, show 0 ≤ q.iv 25 + 1 from by omega, show q.iv 25 + 1 ≤ 4 from by omega⟩, show (4 - (q.iv 25 + 1)).toNat < M from by omega⟩)
theorem each_con {P : Program} (hT : TabOK P tab) : ConOK P (lawCon 6 sh6) (lawPre sh6) (lawPost sh6) :=
  con_ok hT (E := eachE) (cs := lawSem) rfl (lawSem_ok hT) schedOK rfl each_run (by kernel_rfl) (fun ρ _ p hp => by cases hp) each_sat
end Go.Proofs.Ytniacabgcjccdaa
