/- 'SieveParts': each note is in one of the two, as often as it was -/
import Derived.Test.YtniacabgcjccdaaLawSem
set_option linter.unusedSimpArgs false
set_option linter.unusedVariables false
namespace Go.Proofs.Ytniacabgcjccdaa
open Go.Rex
noncomputable def partsE : Ex := { sched := sched, loops := [L3a, L3b], cons := lawCons, fin := lawCon 3 sh3 }
def partsOut : Out :=
  .call 0 { lo := 0, lob := 0 } 17 <|
   .ob (.or (.not (.var 0)) (.ieq (.var 1) (.lit 0))) <|
   .ob (.ile (.lit 0) (.var 1)) <|
   .ob (.or (.ilt (.lit 60) (.var 1)) (.or (.not (.var 4)) (.ieq (.var 5) (.lit 0)))) <|
   .ob (.or (.ilt (.lit 60) (.var 1)) (.ile (.lit 0) (.var 5))) <|
   .ob (.or (.or (.ilt (.lit 60) (.var 1)) (.ilt (.lit 60) (.var 5))) (.or (.not (.var 8)) (.ieq (.var 9) (.lit 0)))) <|
   .ob (.or (.or (.ilt (.lit 60) (.var 1)) (.ilt (.lit 60) (.var 5))) (.ile (.lit 0) (.var 9))) <|
   .ob (.or (.or (.or (.ilt (.lit 60) (.var 1)) (.ilt (.lit 60) (.var 5))) (.ilt (.lit 60) (.var 9))) (.or (.not (.var 12)) (.ieq (.var 13) (.lit 0)))) <|
   .ob (.or (.or (.or (.ilt (.lit 60) (.var 1)) (.ilt (.lit 60) (.var 5))) (.ilt (.lit 60) (.var 9))) (.ile (.lit 0) (.var 13))) <|
   .br (.or (.or (.or (.ilt (.lit 60) (.var 1)) (.ilt (.lit 60) (.var 5))) (.ilt (.lit 60) (.var 9))) (.ilt (.lit 60) (.var 13)))
   (.fin { lo := 17, lob := 4, bv := [(17, (.lit true))] })
   (.loop 17 { lo := 17, lob := 6, iv := [(17, (.lit 0))] } <|
    .br (.ilt (.var 17) (.lit 4))
    (.call 4 { lo := 0, lob := 0, iv := [(4, (.var 16)), (2, (.var 2)), (1, (.var 1))], bv := [(0, (.var 0))], ct := [(3, .up { r := 3, n1 := (.var 1), s1 := 7, ks := [.int .i64, .int .i64, .int .i64, .int .i64, .bool, .int .i64, .int .i64] } 0 [] (.lit 0))], bk := [(0, { blk := 0, i1 := (.lit 0), s1 := 7 })] } 18 <|
     .br (.ieq (.var 17) (.lit 0))
     (.call 1 { lo := 0, lob := 0, iv := [(6, (.var 6)), (5, (.var 5)), (2, (.var 2)), (1, (.var 1))], bv := [(4, (.var 4)), (0, (.var 0))], ct := [(7, .up { r := 7, n1 := (.var 5), s1 := 5, ks := [.int .i64, .int .i64, .int .i64, .int .i64, .bool] } 0 [] (.lit 0)), (3, .up { r := 3, n1 := (.var 1), s1 := 7, ks := [.int .i64, .int .i64, .int .i64, .int .i64, .bool, .int .i64, .int .i64] } 0 [] (.lit 0))], bk := [(1, { blk := 1, i1 := (.lit 0), s1 := 5 }), (0, { blk := 0, i1 := (.lit 0), s1 := 7 })] } 26 <|
      .ob (.or (.not (.var 26)) (.ieq (.var 27) (.lit 0))) <|
      .ob (.ile (.lit 0) (.var 27)) <|
      .ob (.or (.not (.var 30)) (.ieq (.var 31) (.lit 0))) <|
      .ob (.ile (.lit 0) (.var 31)) <|
      .ob (.inr .i64 (.add (.var 27) (.var 31))) <|
      .br (.not (.ieq (.add (.var 27) (.var 31)) (.var 1)))
      (.fin { lo := 17, lob := 4, bv := [(17, (.lit false))] })
      (.loop 34 { lo := 34, lob := 10, iv := [(34, (.lit 0))] } <|
       .br (.ilt (.var 34) (.var 1))
       (.ob (.not (.var 0)) <|
        .ob (.ile (.lit 0) (.var 34)) <|
        .call 5 { lo := 0, lob := 0, iv := [(10, (.cell 3 (.var 34) (.lit 0) 6)), (9, (.cell 3 (.var 34) (.lit 0) 5)), (7, (.cell 3 (.var 34) (.lit 0) 3)), (6, (.cell 3 (.var 34) (.lit 0) 2)), (5, (.cell 3 (.var 34) (.lit 0) 1)), (4, (.cell 3 (.var 34) (.lit 0) 0)), (2, (.var 28)), (1, (.var 27))], bv := [(8, (.cell 3 (.var 34) (.lit 0) 4)), (0, (.var 26))], ct := [(3, .up { r := 29, n1 := (.var 27), s1 := 7, ks := [.int .i64, .int .i64, .int .i64, .int .i64, .bool, .int .i64, .int .i64] } 0 [] (.lit 0))], bk := [(0, { blk := 8, i1 := (.lit 0), s1 := 7 })] } 35 <|
        .call 5 { lo := 0, lob := 0, iv := [(10, (.cell 3 (.var 34) (.lit 0) 6)), (9, (.cell 3 (.var 34) (.lit 0) 5)), (7, (.cell 3 (.var 34) (.lit 0) 3)), (6, (.cell 3 (.var 34) (.lit 0) 2)), (5, (.cell 3 (.var 34) (.lit 0) 1)), (4, (.cell 3 (.var 34) (.lit 0) 0)), (2, (.var 32)), (1, (.var 31))], bv := [(8, (.cell 3 (.var 34) (.lit 0) 4)), (0, (.var 30))], ct := [(3, .up { r := 33, n1 := (.var 31), s1 := 7, ks := [.int .i64, .int .i64, .int .i64, .int .i64, .bool, .int .i64, .int .i64] } 0 [] (.lit 0))], bk := [(0, { blk := 9, i1 := (.lit 0), s1 := 7 })] } 36 <|
        .ob (.inr .i64 (.add (.var 35) (.var 36))) <|
        .call 5 { lo := 0, lob := 0, iv := [(10, (.cell 3 (.var 34) (.lit 0) 6)), (9, (.cell 3 (.var 34) (.lit 0) 5)), (7, (.cell 3 (.var 34) (.lit 0) 3)), (6, (.cell 3 (.var 34) (.lit 0) 2)), (5, (.cell 3 (.var 34) (.lit 0) 1)), (4, (.cell 3 (.var 34) (.lit 0) 0)), (2, (.var 2)), (1, (.var 1))], bv := [(8, (.cell 3 (.var 34) (.lit 0) 4)), (0, (.var 0))], ct := [(3, .up { r := 3, n1 := (.var 1), s1 := 7, ks := [.int .i64, .int .i64, .int .i64, .int .i64, .bool, .int .i64, .int .i64] } 0 [] (.lit 0))], bk := [(0, { blk := 0, i1 := (.lit 0), s1 := 7 })] } 37 <|
        .br (.ieq (.add (.var 35) (.var 36)) (.var 37))
        (.call 5 { lo := 0, lob := 0, iv := [(10, (.cell 3 (.var 34) (.lit 0) 6)), (9, (.cell 3 (.var 34) (.lit 0) 5)), (7, (.cell 3 (.var 34) (.lit 0) 3)), (6, (.cell 3 (.var 34) (.lit 0) 2)), (5, (.cell 3 (.var 34) (.lit 0) 1)), (4, (.cell 3 (.var 34) (.lit 0) 0)), (2, (.var 28)), (1, (.var 27))], bv := [(8, (.cell 3 (.var 34) (.lit 0) 4)), (0, (.var 26))], ct := [(3, .up { r := 29, n1 := (.var 27), s1 := 7, ks := [.int .i64, .int .i64, .int .i64, .int .i64, .bool, .int .i64, .int .i64] } 0 [] (.lit 0))], bk := [(0, { blk := 8, i1 := (.lit 0), s1 := 7 })] } 38 <|
         .br (.ilt (.lit 0) (.var 38))
         (.call 5 { lo := 0, lob := 0, iv := [(10, (.cell 3 (.var 34) (.lit 0) 6)), (9, (.cell 3 (.var 34) (.lit 0) 5)), (7, (.cell 3 (.var 34) (.lit 0) 3)), (6, (.cell 3 (.var 34) (.lit 0) 2)), (5, (.cell 3 (.var 34) (.lit 0) 1)), (4, (.cell 3 (.var 34) (.lit 0) 0)), (2, (.var 32)), (1, (.var 31))], bv := [(8, (.cell 3 (.var 34) (.lit 0) 4)), (0, (.var 30))], ct := [(3, .up { r := 33, n1 := (.var 31), s1 := 7, ks := [.int .i64, .int .i64, .int .i64, .int .i64, .bool, .int .i64, .int .i64] } 0 [] (.lit 0))], bk := [(0, { blk := 9, i1 := (.lit 0), s1 := 7 })] } 39 <|
          .br (.ilt (.lit 0) (.var 39))
          (.fin { lo := 17, lob := 4, bv := [(17, (.lit false))] })
          (.ob (.inr .i64 (.add (.var 34) (.lit 1))) <|
           .back 0 { lo := 34, lob := 10, iv := [(34, (.add (.var 34) (.lit 1)))] }))
         (.ob (.inr .i64 (.add (.var 34) (.lit 1))) <|
          .back 0 { lo := 34, lob := 10, iv := [(34, (.add (.var 34) (.lit 1)))] }))
        (.fin { lo := 17, lob := 4, bv := [(17, (.lit false))] }))
       (.ob (.inr .i64 (.add (.var 17) (.lit 1))) <|
        .back 1 { lo := 17, lob := 6, iv := [(17, (.add (.var 17) (.lit 1)))] })))
     (.br (.ieq (.var 17) (.lit 1))
      (.call 2 { lo := 0, lob := 0, iv := [(6, (.var 10)), (5, (.var 9)), (2, (.var 2)), (1, (.var 1))], bv := [(4, (.var 8)), (0, (.var 0))], ct := [(7, .up { r := 11, n1 := (.var 9), s1 := 1, ks := [.int .i64] } 0 [] (.lit 0)), (3, .up { r := 3, n1 := (.var 1), s1 := 7, ks := [.int .i64, .int .i64, .int .i64, .int .i64, .bool, .int .i64, .int .i64] } 0 [] (.lit 0))], bk := [(1, { blk := 2, i1 := (.lit 0), s1 := 1 }), (0, { blk := 0, i1 := (.lit 0), s1 := 7 })] } 26 <|
       .ob (.or (.not (.var 26)) (.ieq (.var 27) (.lit 0))) <|
       .ob (.ile (.lit 0) (.var 27)) <|
       .ob (.or (.not (.var 30)) (.ieq (.var 31) (.lit 0))) <|
       .ob (.ile (.lit 0) (.var 31)) <|
       .ob (.inr .i64 (.add (.var 27) (.var 31))) <|
       .br (.not (.ieq (.add (.var 27) (.var 31)) (.var 1)))
       (.fin { lo := 17, lob := 4, bv := [(17, (.lit false))] })
       (.loop 34 { lo := 34, lob := 10, iv := [(34, (.lit 0))] } <|
        .br (.ilt (.var 34) (.var 1))
        (.ob (.not (.var 0)) <|
         .ob (.ile (.lit 0) (.var 34)) <|
         .call 5 { lo := 0, lob := 0, iv := [(10, (.cell 3 (.var 34) (.lit 0) 6)), (9, (.cell 3 (.var 34) (.lit 0) 5)), (7, (.cell 3 (.var 34) (.lit 0) 3)), (6, (.cell 3 (.var 34) (.lit 0) 2)), (5, (.cell 3 (.var 34) (.lit 0) 1)), (4, (.cell 3 (.var 34) (.lit 0) 0)), (2, (.var 28)), (1, (.var 27))], bv := [(8, (.cell 3 (.var 34) (.lit 0) 4)), (0, (.var 26))], ct := [(3, .up { r := 29, n1 := (.var 27), s1 := 7, ks := [.int .i64, .int .i64, .int .i64, .int .i64, .bool, .int .i64, .int .i64] } 0 [] (.lit 0))], bk := [(0, { blk := 8, i1 := (.lit 0), s1 := 7 })] } 35 <|
         .call 5 { lo := 0, lob := 0, iv := [(10, (.cell 3 (.var 34) (.lit 0) 6)), (9, (.cell 3 (.var 34) (.lit 0) 5)), (7, (.cell 3 (.var 34) (.lit 0) 3)), (6, (.cell 3 (.var 34) (.lit 0) 2)), (5, (.cell 3 (.var 34) (.lit 0) 1)), (4, (.cell 3 (.var 34) (.lit 0) 0)), (2, (.var 32)), (1, (.var 31))], bv := [(8, (.cell 3 (.var 34) (.lit 0) 4)), (0, (.var 30))], ct := [(3, .up { r := 33, n1 := (.var 31), s1 := 7, ks := [.int .i64, .int .i64, .int .i64, .int .i64, .bool, .int .i64, .int .i64] } 0 [] (.lit 0))], bk := [(0, { blk := 9, i1 := (.lit 0), s1 := 7 })] } 36 <|
         .ob (.inr .i64 (.add (.var 35) (.var 36))) <|
         .call 5 { lo := 0, lob := 0, iv := [(10, (.cell 3 (.var 34) (.lit 0) 6)), (9, (.cell 3 (.var 34) (.lit 0) 5)), (7, (.cell 3 (.var 34) (.lit 0) 3)), (6, (.cell 3 (.var 34) (.lit 0) 2)), (5, (.cell 3 (.var 34) (.lit 0) 1)), (4, (.cell 3 (.var 34) (.lit 0) 0)), (2, (.var 2)), (1, (.var 1))], bv := [(8, (.cell 3 (.var 34) (.lit 0) 4)), (0, (.var 0))], ct := [(3, .up { r := 3, n1 := (.var 1), s1 := 7, ks := [.int .i64, .int .i64, .int .i64, .int .i64, .bool, .int .i64, .int .i64] } 0 [] (.lit 0))], bk := [(0, { blk := 0, i1 := (.lit 0), s1 := 7 })] } 37 <|
         .br (.ieq (.add (.var 35) (.var 36)) (.var 37))
         (.call 5 { lo := 0, lob := 0, iv := [(10, (.cell 3 (.var 34) (.lit 0) 6)), (9, (.cell 3 (.var 34) (.lit 0) 5)), (7, (.cell 3 (.var 34) (.lit 0) 3)), (6, (.cell 3 (.var 34) (.lit 0) 2)), (5, (.cell 3 (.var 34) (.lit 0) 1)), (4, (.cell 3 (.var 34) (.lit 0) 0)), (2, (.var 28)), (1, (.var 27))], bv := [(8, (.cell 3 (.var 34) (.lit 0) 4)), (0, (.var 26))], ct := [(3, .up { r := 29, n1 := (.var 27), s1 := 7, ks := [.int .i64, .int .i64, .int .i64, .int .i64, .bool, .int .i64, .int .i64] } 0 [] (.lit 0))], bk := [(0, { blk := 8, i1 := (.lit 0), s1 := 7 })] } 38 <|
          .br (.ilt (.lit 0) (.var 38))
          (.call 5 { lo := 0, lob := 0, iv := [(10, (.cell 3 (.var 34) (.lit 0) 6)), (9, (.cell 3 (.var 34) (.lit 0) 5)), (7, (.cell 3 (.var 34) (.lit 0) 3)), (6, (.cell 3 (.var 34) (.lit 0) 2)), (5, (.cell 3 (.var 34) (.lit 0) 1)), (4, (.cell 3 (.var 34) (.lit 0) 0)), (2, (.var 32)), (1, (.var 31))], bv := [(8, (.cell 3 (.var 34) (.lit 0) 4)), (0, (.var 30))], ct := [(3, .up { r := 33, n1 := (.var 31), s1 := 7, ks := [.int .i64, .int .i64, .int .i64, .int .i64, .bool, .int .i64, .int .i64] } 0 [] (.lit 0))], bk := [(0, { blk := 9, i1 := (.lit 0), s1 := 7 })] } 39 <|
           .br (.ilt (.lit 0) (.var 39))
           (.fin { lo := 17, lob := 4, bv := [(17, (.lit false))] })
           (.ob (.inr .i64 (.add (.var 34) (.lit 1))) <|
            .back 0 { lo := 34, lob := 10, iv := [(34, (.add (.var 34) (.lit 1)))] }))
          (.ob (.inr .i64 (.add (.var 34) (.lit 1))) <|
           .back 0 { lo := 34, lob := 10, iv := [(34, (.add (.var 34) (.lit 1)))] }))
         (.fin { lo := 17, lob := 4, bv := [(17, (.lit false))] }))
        (.ob (.inr .i64 (.add (.var 17) (.lit 1))) <|
         .back 1 { lo := 17, lob := 6, iv := [(17, (.add (.var 17) (.lit 1)))] })))
      (.br (.ieq (.var 17) (.lit 2))
       (.call 3 { lo := 0, lob := 0, iv := [(6, (.var 14)), (5, (.var 13)), (2, (.var 2)), (1, (.var 1))], bv := [(4, (.var 12)), (0, (.var 0))], ct := [(7, .up { r := 15, n1 := (.var 13), s1 := 3, ks := [.bool, .int .i64, .int .i64] } 0 [] (.lit 0)), (3, .up { r := 3, n1 := (.var 1), s1 := 7, ks := [.int .i64, .int .i64, .int .i64, .int .i64, .bool, .int .i64, .int .i64] } 0 [] (.lit 0))], bk := [(1, { blk := 3, i1 := (.lit 0), s1 := 3 }), (0, { blk := 0, i1 := (.lit 0), s1 := 7 })] } 26 <|
        .ob (.or (.not (.var 26)) (.ieq (.var 27) (.lit 0))) <|
        .ob (.ile (.lit 0) (.var 27)) <|
        .ob (.or (.not (.var 30)) (.ieq (.var 31) (.lit 0))) <|
        .ob (.ile (.lit 0) (.var 31)) <|
        .ob (.inr .i64 (.add (.var 27) (.var 31))) <|
        .br (.not (.ieq (.add (.var 27) (.var 31)) (.var 1)))
        (.fin { lo := 17, lob := 4, bv := [(17, (.lit false))] })
        (.loop 34 { lo := 34, lob := 10, iv := [(34, (.lit 0))] } <|
         .br (.ilt (.var 34) (.var 1))
         (.ob (.not (.var 0)) <|
          .ob (.ile (.lit 0) (.var 34)) <|
          .call 5 { lo := 0, lob := 0, iv := [(10, (.cell 3 (.var 34) (.lit 0) 6)), (9, (.cell 3 (.var 34) (.lit 0) 5)), (7, (.cell 3 (.var 34) (.lit 0) 3)), (6, (.cell 3 (.var 34) (.lit 0) 2)), (5, (.cell 3 (.var 34) (.lit 0) 1)), (4, (.cell 3 (.var 34) (.lit 0) 0)), (2, (.var 28)), (1, (.var 27))], bv := [(8, (.cell 3 (.var 34) (.lit 0) 4)), (0, (.var 26))], ct := [(3, .up { r := 29, n1 := (.var 27), s1 := 7, ks := [.int .i64, .int .i64, .int .i64, .int .i64, .bool, .int .i64, .int .i64] } 0 [] (.lit 0))], bk := [(0, { blk := 8, i1 := (.lit 0), s1 := 7 })] } 35 <|
          .call 5 { lo := 0, lob := 0, iv := [(10, (.cell 3 (.var 34) (.lit 0) 6)), (9, (.cell 3 (.var 34) (.lit 0) 5)), (7, (.cell 3 (.var 34) (.lit 0) 3)), (6, (.cell 3 (.var 34) (.lit 0) 2)), (5, (.cell 3 (.var 34) (.lit 0) 1)), (4, (.cell 3 (.var 34) (.lit 0) 0)), (2, (.var 32)), (1, (.var 31))], bv := [(8, (.cell 3 (.var 34) (.lit 0) 4)), (0, (.var 30))], ct := [(3, .up { r := 33, n1 := (.var 31), s1 := 7, ks := [.int .i64, .int .i64, .int .i64, .int .i64, .bool, .int .i64, .int .i64] } 0 [] (.lit 0))], bk := [(0, { blk := 9, i1 := (.lit 0), s1 := 7 })] } 36 <|
          .ob (.inr .i64 (.add (.var 35) (.var 36))) <|
          .call 5 { lo := 0, lob := 0, iv := [(10, (.cell 3 (.var 34) (.lit 0) 6)), (9, (.cell 3 (.var 34) (.lit 0) 5)), (7, (.cell 3 (.var 34) (.lit 0) 3)), (6, (.cell 3 (.var 34) (.lit 0) 2)), (5, (.cell 3 (.var 34) (.lit 0) 1)), (4, (.cell 3 (.var 34) (.lit 0) 0)), (2, (.var 2)), (1, (.var 1))], bv := [(8, (.cell 3 (.var 34) (.lit 0) 4)), (0, (.var 0))], ct := [(3, .up { r := 3, n1 := (.var 1), s1 := 7, ks := [.int .i64, .int .i64, .int .i64, .int .i64, .bool, .int .i64, .int .i64] } 0 [] (.lit 0))], bk := [(0, { blk := 0, i1 := (.lit 0), s1 := 7 })] } 37 <|
          .br (.ieq (.add (.var 35) (.var 36)) (.var 37))
          (.call 5 { lo := 0, lob := 0, iv := [(10, (.cell 3 (.var 34) (.lit 0) 6)), (9, (.cell 3 (.var 34) (.lit 0) 5)), (7, (.cell 3 (.var 34) (.lit 0) 3)), (6, (.cell 3 (.var 34) (.lit 0) 2)), (5, (.cell 3 (.var 34) (.lit 0) 1)), (4, (.cell 3 (.var 34) (.lit 0) 0)), (2, (.var 28)), (1, (.var 27))], bv := [(8, (.cell 3 (.var 34) (.lit 0) 4)), (0, (.var 26))], ct := [(3, .up { r := 29, n1 := (.var 27), s1 := 7, ks := [.int .i64, .int .i64, .int .i64, .int .i64, .bool, .int .i64, .int .i64] } 0 [] (.lit 0))], bk := [(0, { blk := 8, i1 := (.lit 0), s1 := 7 })] } 38 <|
           .br (.ilt (.lit 0) (.var 38))
           (.call 5 { lo := 0, lob := 0, iv := [(10, (.cell 3 (.var 34) (.lit 0) 6)), (9, (.cell 3 (.var 34) (.lit 0) 5)), (7, (.cell 3 (.var 34) (.lit 0) 3)), (6, (.cell 3 (.var 34) (.lit 0) 2)), (5, (.cell 3 (.var 34) (.lit 0) 1)), (4, (.cell 3 (.var 34) (.lit 0) 0)), (2, (.var 32)), (1, (.var 31))], bv := [(8, (.cell 3 (.var 34) (.lit 0) 4)), (0, (.var 30))], ct := [(3, .up { r := 33, n1 := (.var 31), s1 := 7, ks := [.int .i64, .int .i64, .int .i64, .int .i64, .bool, .int .i64, .int .i64] } 0 [] (.lit 0))], bk := [(0, { blk := 9, i1 := (.lit 0), s1 := 7 })] } 39 <|
            .br (.ilt (.lit 0) (.var 39))
            (.fin { lo := 17, lob := 4, bv := [(17, (.lit false))] })
            (.ob (.inr .i64 (.add (.var 34) (.lit 1))) <|
             .back 0 { lo := 34, lob := 10, iv := [(34, (.add (.var 34) (.lit 1)))] }))
           (.ob (.inr .i64 (.add (.var 34) (.lit 1))) <|
            .back 0 { lo := 34, lob := 10, iv := [(34, (.add (.var 34) (.lit 1)))] }))
          (.fin { lo := 17, lob := 4, bv := [(17, (.lit false))] }))
         (.ob (.inr .i64 (.add (.var 17) (.lit 1))) <|
          .back 1 { lo := 17, lob := 6, iv := [(17, (.add (.var 17) (.lit 1)))] })))
       (.ob (.or (.not (.var 18)) (.ieq (.var 19) (.lit 0))) <|
        .ob (.ile (.lit 0) (.var 19)) <|
        .ob (.or (.not (.var 22)) (.ieq (.var 23) (.lit 0))) <|
        .ob (.ile (.lit 0) (.var 23)) <|
        .ob (.inr .i64 (.add (.var 19) (.var 23))) <|
        .br (.not (.ieq (.add (.var 19) (.var 23)) (.var 1)))
        (.fin { lo := 17, lob := 4, bv := [(17, (.lit false))] })
        (.loop 26 { lo := 26, lob := 8, iv := [(26, (.lit 0))] } <|
         .br (.ilt (.var 26) (.var 1))
         (.ob (.not (.var 0)) <|
          .ob (.ile (.lit 0) (.var 26)) <|
          .call 5 { lo := 0, lob := 0, iv := [(10, (.cell 3 (.var 26) (.lit 0) 6)), (9, (.cell 3 (.var 26) (.lit 0) 5)), (7, (.cell 3 (.var 26) (.lit 0) 3)), (6, (.cell 3 (.var 26) (.lit 0) 2)), (5, (.cell 3 (.var 26) (.lit 0) 1)), (4, (.cell 3 (.var 26) (.lit 0) 0)), (2, (.var 20)), (1, (.var 19))], bv := [(8, (.cell 3 (.var 26) (.lit 0) 4)), (0, (.var 18))], ct := [(3, .up { r := 21, n1 := (.var 19), s1 := 7, ks := [.int .i64, .int .i64, .int .i64, .int .i64, .bool, .int .i64, .int .i64] } 0 [] (.lit 0))], bk := [(0, { blk := 6, i1 := (.lit 0), s1 := 7 })] } 27 <|
          .call 5 { lo := 0, lob := 0, iv := [(10, (.cell 3 (.var 26) (.lit 0) 6)), (9, (.cell 3 (.var 26) (.lit 0) 5)), (7, (.cell 3 (.var 26) (.lit 0) 3)), (6, (.cell 3 (.var 26) (.lit 0) 2)), (5, (.cell 3 (.var 26) (.lit 0) 1)), (4, (.cell 3 (.var 26) (.lit 0) 0)), (2, (.var 24)), (1, (.var 23))], bv := [(8, (.cell 3 (.var 26) (.lit 0) 4)), (0, (.var 22))], ct := [(3, .up { r := 25, n1 := (.var 23), s1 := 7, ks := [.int .i64, .int .i64, .int .i64, .int .i64, .bool, .int .i64, .int .i64] } 0 [] (.lit 0))], bk := [(0, { blk := 7, i1 := (.lit 0), s1 := 7 })] } 28 <|
          .ob (.inr .i64 (.add (.var 27) (.var 28))) <|
          .call 5 { lo := 0, lob := 0, iv := [(10, (.cell 3 (.var 26) (.lit 0) 6)), (9, (.cell 3 (.var 26) (.lit 0) 5)), (7, (.cell 3 (.var 26) (.lit 0) 3)), (6, (.cell 3 (.var 26) (.lit 0) 2)), (5, (.cell 3 (.var 26) (.lit 0) 1)), (4, (.cell 3 (.var 26) (.lit 0) 0)), (2, (.var 2)), (1, (.var 1))], bv := [(8, (.cell 3 (.var 26) (.lit 0) 4)), (0, (.var 0))], ct := [(3, .up { r := 3, n1 := (.var 1), s1 := 7, ks := [.int .i64, .int .i64, .int .i64, .int .i64, .bool, .int .i64, .int .i64] } 0 [] (.lit 0))], bk := [(0, { blk := 0, i1 := (.lit 0), s1 := 7 })] } 29 <|
          .br (.ieq (.add (.var 27) (.var 28)) (.var 29))
          (.call 5 { lo := 0, lob := 0, iv := [(10, (.cell 3 (.var 26) (.lit 0) 6)), (9, (.cell 3 (.var 26) (.lit 0) 5)), (7, (.cell 3 (.var 26) (.lit 0) 3)), (6, (.cell 3 (.var 26) (.lit 0) 2)), (5, (.cell 3 (.var 26) (.lit 0) 1)), (4, (.cell 3 (.var 26) (.lit 0) 0)), (2, (.var 20)), (1, (.var 19))], bv := [(8, (.cell 3 (.var 26) (.lit 0) 4)), (0, (.var 18))], ct := [(3, .up { r := 21, n1 := (.var 19), s1 := 7, ks := [.int .i64, .int .i64, .int .i64, .int .i64, .bool, .int .i64, .int .i64] } 0 [] (.lit 0))], bk := [(0, { blk := 6, i1 := (.lit 0), s1 := 7 })] } 30 <|
           .br (.ilt (.lit 0) (.var 30))
           (.call 5 { lo := 0, lob := 0, iv := [(10, (.cell 3 (.var 26) (.lit 0) 6)), (9, (.cell 3 (.var 26) (.lit 0) 5)), (7, (.cell 3 (.var 26) (.lit 0) 3)), (6, (.cell 3 (.var 26) (.lit 0) 2)), (5, (.cell 3 (.var 26) (.lit 0) 1)), (4, (.cell 3 (.var 26) (.lit 0) 0)), (2, (.var 24)), (1, (.var 23))], bv := [(8, (.cell 3 (.var 26) (.lit 0) 4)), (0, (.var 22))], ct := [(3, .up { r := 25, n1 := (.var 23), s1 := 7, ks := [.int .i64, .int .i64, .int .i64, .int .i64, .bool, .int .i64, .int .i64] } 0 [] (.lit 0))], bk := [(0, { blk := 7, i1 := (.lit 0), s1 := 7 })] } 31 <|
            .br (.ilt (.lit 0) (.var 31))
            (.fin { lo := 17, lob := 4, bv := [(17, (.lit false))] })
            (.ob (.inr .i64 (.add (.var 26) (.lit 1))) <|
             .back 0 { lo := 26, lob := 8, iv := [(26, (.add (.var 26) (.lit 1)))] }))
           (.ob (.inr .i64 (.add (.var 26) (.lit 1))) <|
            .back 0 { lo := 26, lob := 8, iv := [(26, (.add (.var 26) (.lit 1)))] }))
          (.fin { lo := 17, lob := 4, bv := [(17, (.lit false))] }))
         (.ob (.inr .i64 (.add (.var 17) (.lit 1))) <|
          .back 1 { lo := 17, lob := 6, iv := [(17, (.add (.var 17) (.lit 1)))] }))))))
    (.fin { lo := 17, lob := 4, bv := [(17, (.lit true))] }))
theorem parts_run : exec tab partsE 4000 [] (cfg0 3 17 [] [] (lawCon 3 sh3).hp (lawCon 3 sh3).args) = partsOut := by kernel_rfl
/-- what was made of the list at 0: the freed at b, the kept behind it -/
def Div (ρ : Env) (b : Nat) : Prop := OkSl ρ b ∧ OkSl ρ (b + 4) ∧ ∃ K : Note → Bool, notes ρ b = (notes ρ 0).filter (fun n => !K n) ∧ notes ρ (b + 4) = (notes ρ 0).filter K
theorem Div.len {ρ : Env} {b : Nat} (h : Div ρ b) (h0 : OkSl ρ 0) : ρ.iv (b + 1) + ρ.iv (b + 5) = ρ.iv 1 := by
  obtain ⟨⟨_, p1, _, _⟩, ⟨_, q1, _, _⟩, K, h1, h2⟩ := h
  have e1 := congrArg List.length h1
  have e2 := congrArg List.length h2
  have e3 := filter_parts K (notes ρ 0)
  have := h0.2.1
  rw [notes_length] at e1 e2 e3
  rw [show b + 4 + 1 = b + 5 by omega] at e2 q1
  simp only [Nat.zero_add] at e3 this
  omega
theorem Div.count {ρ : Env} {b : Nat} (h : Div ρ b) (x : Note) : (notes ρ b).count x + (notes ρ (b + 4)).count x = (notes ρ 0).count x ∧ ¬ (0 < (notes ρ b).count x ∧ 0 < (notes ρ (b + 4)).count x) := by
  obtain ⟨_, _, K, h1, h2⟩ := h
  rw [h1, h2, count_filter_if, count_filter_if]
  cases K x <;> simp
def P3 (ρ : Env) : Prop := OkSl ρ 0 ∧ OkSl ρ 4 ∧ OkSl ρ 8 ∧ OkSl ρ 12 ∧ -9223372036854775808 ≤ ρ.iv 16 ∧ ρ.iv 16 ≤ 9223372036854775807
def P3s (ρ : Env) : Prop := P3 ρ ∧ ρ.iv 1 ≤ 60 ∧ ρ.iv 5 ≤ 60 ∧ ρ.iv 9 ≤ 60 ∧ ρ.iv 13 ≤ 60
def F3 (M : Nat) (ρ : Env) : Prop := P3s ρ ∧ 0 ≤ ρ.iv 17 ∧ ρ.iv 17 < 4 ∧ M = (4 - ρ.iv 17).toNat
theorem P3_of {ρ : Env} (h : lawPre sh3 ρ) : P3 ρ :=
  have h : preC (sh3.flatMap (·.2)) 0 ρ := h
  ⟨okSl_of h.1, okSl_of h.2.1, okSl_of h.2.2.1, okSl_of h.2.2.2.1, h.2.2.2.2.1⟩
set_option maxRecDepth 10000 in
theorem parts_sat (ρ : Env) (hpre : lawPre sh3 ρ.num) : Sat (lawPost sh3) lawSem [] ρ partsOut := by
  have h0 : P3 ρ := P3_of (ρ := ρ.num) hpre
  unfold partsOut
  refine Sat.call rfl trivial fun e0 _ => ?_
  replace h0 : P3 (ρ.join 17 e0) := h0
  clear hpre
  generalize ρ.join 17 e0 = q at *
  refine Sat.ob (nilOb h0.1) (Sat.ob (decide_eq_true h0.1.2.1) (Sat.ob (D.or.mpr (.inr (nilOb h0.2.1))) (Sat.ob (D.or.mpr (.inr (decide_eq_true h0.2.1.2.1))) (Sat.ob (D.or.mpr (.inr (nilOb h0.2.2.1))) (Sat.ob (D.or.mpr (.inr (decide_eq_true h0.2.2.1.2.1))) (Sat.ob (D.or.mpr (.inr (nilOb h0.2.2.2.1))) (Sat.ob (D.or.mpr (.inr (decide_eq_true h0.2.2.2.1.2.1))) (Sat.br (fun _ => Sat.fin rfl) fun hl => ?_))))))))
  have h1 : P3s q := by
    simp only [D.le, D.lef, D.lt, D.ltf, D.eq, D.eqf, D.not, D.notf, D.and, D.andf, D.or, D.orf, D.inr, D.var, D.lit, D.cellB, D.beq, D.beqf, D.litI, D.varI, D.add, D.sub, D.mul, D.min, D.max, D.cellI, D.i64min, D.i64max] at hl
    exact ⟨h0, hl.1.1.1, hl.1.1.2, hl.1.2, hl.2⟩
  clear h0 hl
  refine Sat.loop (fun r => P3s r ∧ 0 ≤ r.iv 17 ∧ r.iv 17 ≤ 4) (fun r => (4 - r.iv 17).toNat) ⟨h1, Int.le_refl 0, show (0 : Int) ≤ 4 by omega⟩ fun e hI => Sat.br (fun hlt => ?_) (fun _ => Sat.fin rfl)
  obtain ⟨M, hM⟩ : ∃ M, M = (4 - (q.join 17 e).num.iv 17).toNat := ⟨_, rfl⟩
  rw [← hM]
  have hF : F3 M (q.join 17 e) := ⟨hI.1, hI.2.1, of_decide_eq_true hlt, hM⟩
  clear h1 hI hlt hM
  generalize q.join 17 e = q at *
  have h60 := hF.1.2
  refine Sat.call rfl ⟨hF.1.1.1, show q.iv 1 ≤ 1000000 from by omega, hF.1.1.2.2.2.2⟩ fun e1 h1 => ?_
  have hb : Div (q.join 18 e1) 18 :=
    ⟨h1.1, h1.2.2.1, _, Eq.trans h1.2.1 (congrArg (a₂ := notes (q.join 18 e1) 0) (List.filter _) (by exact notes_same rfl fun i _ => by simp [noteAt, conEnv, epochsCon, Env.join, Sub.nenv, assoc, CV.I, CV.B, upsI, upsB, Seg.I, Seg.B, SC.I, SC.B, IE.den, BE.den])), Eq.trans h1.2.2.2 (congrArg (a₂ := notes (q.join 18 e1) 0) (List.filter _) (by exact notes_same rfl fun i _ => by simp [noteAt, conEnv, epochsCon, Env.join, Sub.nenv, assoc, CV.I, CV.B, upsI, upsB, Seg.I, Seg.B, SC.I, SC.B, IE.den, BE.den]))⟩
  replace hF : F3 M (q.join 18 e1) := hF
  replace h60 : (q.join 18 e1).iv 1 ≤ 60 ∧ (q.join 18 e1).iv 5 ≤ 60 ∧ (q.join 18 e1).iv 9 ≤ 60 ∧ (q.join 18 e1).iv 13 ≤ 60 := h60
  clear h1
  generalize q.join 18 e1 = q at *
  refine Sat.br (fun _ => ?_) (fun _ => Sat.br (fun _ => ?_) (fun _ => Sat.br (fun _ => ?_) (fun _ => ?_)))
  · refine Sat.call rfl ⟨hF.1.1.1, show q.iv 1 ≤ 1000000 from by omega, hF.1.1.2.1, show q.iv 5 ≤ 1000000 from by omega⟩ fun e2 h2 => ?_
    have hD : Div (q.join 26 e2) 26 :=
      ⟨h2.1, h2.2.2.1, _, Eq.trans h2.2.1 (congrArg (a₂ := notes (q.join 26 e2) 0) (List.filter _) (by exact notes_same rfl fun i _ => by simp [noteAt, conEnv, slotsCon, Env.join, Sub.nenv, assoc, CV.I, CV.B, upsI, upsB, Seg.I, Seg.B, SC.I, SC.B, IE.den, BE.den])), Eq.trans h2.2.2.2 (congrArg (a₂ := notes (q.join 26 e2) 0) (List.filter _) (by exact notes_same rfl fun i _ => by simp [noteAt, conEnv, slotsCon, Env.join, Sub.nenv, assoc, CV.I, CV.B, upsI, upsB, Seg.I, Seg.B, SC.I, SC.B, IE.den, BE.den]))⟩
    replace hF : F3 M (q.join 26 e2) := hF
    clear h2 hb
    generalize q.join 26 e2 = q at *
    have hlen := hD.len hF.1.1.1
    simp only [Nat.reduceAdd] at hlen
    refine Sat.ob (nilOb hD.1) (Sat.ob (decide_eq_true hD.1.2.1) (Sat.ob (nilOb hD.2.1) (Sat.ob (decide_eq_true hD.2.1.2.1) (Sat.ob ?_ (Sat.br (fun hne => ?_) (fun _ => ?_))))))
    · have := hF.1.2.1
      have : 0 ≤ q.iv 1 := hF.1.1.1.2.1
      simp only [D.le, D.lef, D.lt, D.ltf, D.eq, D.eqf, D.not, D.notf, D.and, D.andf, D.or, D.orf, D.inr, D.var, D.lit, D.cellB, D.beq, D.beqf, D.litI, D.varI, D.add, D.sub, D.mul, D.min, D.max, D.cellI, D.i64min, D.i64max]
      omega
    · exfalso
      simp only [D.le, D.lef, D.lt, D.ltf, D.eq, D.eqf, D.not, D.notf, D.and, D.andf, D.or, D.orf, D.inr, D.var, D.lit, D.cellB, D.beq, D.beqf, D.litI, D.varI, D.add, D.sub, D.mul, D.min, D.max, D.cellI, D.i64min, D.i64max] at hne
      exact hne hlen
    refine Sat.loop (fun r => (F3 M r ∧ Div r 26) ∧ 0 ≤ r.iv 34 ∧ r.iv 34 ≤ r.iv 1) (fun r => (r.iv 1 - r.iv 34).toNat) ⟨⟨hF, hD⟩, Int.le_refl 0, hF.1.1.1.2.1⟩ fun e hJ => Sat.br (fun hlt => ?_) (fun _ => ?_)
    · replace hJ : (F3 M (q.join 34 e) ∧ Div (q.join 34 e) 26) ∧ 0 ≤ (q.join 34 e).iv 34 ∧ (q.join 34 e).iv 34 ≤ (q.join 34 e).iv 1 := hJ
      replace hlt : (q.join 34 e).iv 34 < (q.join 34 e).iv 1 := of_decide_eq_true hlt
      obtain ⟨M2, hM2⟩ : ∃ M2, M2 = ((q.join 34 e).num.iv 1 - (q.join 34 e).num.iv 34).toNat := ⟨_, rfl⟩
      rw [← hM2]
      replace hM2 : M2 = ((q.join 34 e).iv 1 - (q.join 34 e).iv 34).toNat := hM2
      clear hF hD hlen
      generalize q.join 34 e = r at *
      obtain ⟨⟨hF, hD⟩, j1, j2⟩ := hJ
      have hlen := hD.len hF.1.1.1
      simp only [Nat.reduceAdd] at hlen
      obtain ⟨hsum, hex⟩ := hD.count (noteAt r 3 (r.iv 34).toNat)
      have hle : (notes r 0).count (noteAt r 3 (r.iv 34).toNat) ≤ (r.iv 1).toNat := by
        have := List.count_le_length (a := noteAt r 3 (r.iv 34).toNat) (l := notes r 0)
        rw [notes_length] at this
        exact this
      simp only [Nat.reduceAdd] at hsum hex
      have hn1 : 0 ≤ r.iv 27 := hD.1.2.1
      have hn2 : 0 ≤ r.iv 31 := hD.2.1.2.1
      have h60 := hF.1.2.1
      refine Sat.ob (nilLt hF.1.1.1 (by simp only [Nat.zero_add]; omega)) (Sat.ob (decide_eq_true j1) (Sat.call rfl ⟨hD.1, show r.iv 27 ≤ 1000000 from by omega⟩ fun e1 h1 => Sat.call rfl ⟨hD.2.1, show r.iv 31 ≤ 1000000 from by omega⟩ fun e2 h2 => ?_))
      replace h1 : e1.iv 35 = ((notes r 26).count (noteAt r 3 (r.iv 34).toNat) : Nat) :=
        Eq.trans h1 (congrArg (a₂ := notes r 26) (fun l => ((l.count (noteAt r 3 (r.iv 34).toNat) : Nat) : Int)) (by exact notes_same rfl fun i _ => by simp [noteAt, conEnv, countCon, Env.join, Sub.nenv, assoc, CV.I, CV.B, upsI, upsB, Seg.I, Seg.B, SC.I, SC.B, IE.den, BE.den]))
      replace h2 : e2.iv 36 = ((notes r 30).count (noteAt r 3 (r.iv 34).toNat) : Nat) :=
        Eq.trans h2 (congrArg (a₂ := notes r 30) (fun l => ((l.count (noteAt r 3 (r.iv 34).toNat) : Nat) : Int)) (by exact notes_same rfl fun i _ => by simp [noteAt, conEnv, countCon, Env.join, Sub.nenv, assoc, CV.I, CV.B, upsI, upsB, Seg.I, Seg.B, SC.I, SC.B, IE.den, BE.den]))
      refine Sat.ob (D.inr.mpr (show IntKind.i64.min ≤ e1.iv 35 + e2.iv 36 ∧ e1.iv 35 + e2.iv 36 ≤ IntKind.i64.max from by simp only [D.i64min, D.i64max]; omega)) (Sat.call rfl ⟨hF.1.1.1, show r.iv 1 ≤ 1000000 from by omega⟩ fun e3 h3 => ?_)
      replace h3 : e3.iv 37 = ((notes r 0).count (noteAt r 3 (r.iv 34).toNat) : Nat) :=
        Eq.trans h3 (congrArg (a₂ := notes r 0) (fun l => ((l.count (noteAt r 3 (r.iv 34).toNat) : Nat) : Int)) (by exact notes_same rfl fun i _ => by simp [noteAt, conEnv, countCon, Env.join, Sub.nenv, assoc, CV.I, CV.B, upsI, upsB, Seg.I, Seg.B, SC.I, SC.B, IE.den, BE.den]))
      refine Sat.br (fun _ => ?_) (fun hne => ?_)
      · refine Sat.call rfl ⟨hD.1, show r.iv 27 ≤ 1000000 from by omega⟩ fun e4 h4 => Sat.br (fun hp => ?_) (fun _ => ?_)
        · replace h4 : e4.iv 38 = ((notes r 26).count (noteAt r 3 (r.iv 34).toNat) : Nat) :=
            Eq.trans h4 (congrArg (a₂ := notes r 26) (fun l => ((l.count (noteAt r 3 (r.iv 34).toNat) : Nat) : Int)) (by exact notes_same rfl fun i _ => by simp [noteAt, conEnv, countCon, Env.join, Sub.nenv, assoc, CV.I, CV.B, upsI, upsB, Seg.I, Seg.B, SC.I, SC.B, IE.den, BE.den]))
          replace hp : 0 < e4.iv 38 := of_decide_eq_true hp
          refine Sat.call rfl ⟨hD.2.1, show r.iv 31 ≤ 1000000 from by omega⟩ fun e5 h5 => Sat.br (fun hp5 => ?_) (fun _ => ?_)
          · replace h5 : e5.iv 39 = ((notes r 30).count (noteAt r 3 (r.iv 34).toNat) : Nat) :=
              Eq.trans h5 (congrArg (a₂ := notes r 30) (fun l => ((l.count (noteAt r 3 (r.iv 34).toNat) : Nat) : Int)) (by exact notes_same rfl fun i _ => by simp [noteAt, conEnv, countCon, Env.join, Sub.nenv, assoc, CV.I, CV.B, upsI, upsB, Seg.I, Seg.B, SC.I, SC.B, IE.den, BE.den]))
            replace hp5 : 0 < e5.iv 39 := of_decide_eq_true hp5
            exact (hex ⟨by omega, by omega⟩).elim
          · exact Sat.ob (D.inr.mpr (show IntKind.i64.min ≤ r.iv 34 + 1 ∧ r.iv 34 + 1 ≤ IntKind.i64.max from by simp only [D.i64min, D.i64max]; have := hF.1.2.1; omega))
              (Sat.back rfl ⟨⟨⟨hF, hD⟩, show 0 ≤ r.iv 34 + 1 from by omega, show r.iv 34 + 1 ≤ r.iv 1 from by omega⟩, show (r.iv 1 - (r.iv 34 + 1)).toNat < M2 from by omega⟩)
        · exact Sat.ob (D.inr.mpr (show IntKind.i64.min ≤ r.iv 34 + 1 ∧ r.iv 34 + 1 ≤ IntKind.i64.max from by simp only [D.i64min, D.i64max]; have := hF.1.2.1; omega))
            (Sat.back rfl ⟨⟨⟨hF, hD⟩, show 0 ≤ r.iv 34 + 1 from by omega, show r.iv 34 + 1 ≤ r.iv 1 from by omega⟩, show (r.iv 1 - (r.iv 34 + 1)).toNat < M2 from by omega⟩)
      · exfalso
        replace hne : ¬ e1.iv 35 + e2.iv 36 = e3.iv 37 := of_decide_eq_false hne
        omega
    · replace hJ : (F3 M (q.join 34 e) ∧ Div (q.join 34 e) 26) ∧ 0 ≤ (q.join 34 e).iv 34 ∧ (q.join 34 e).iv 34 ≤ (q.join 34 e).iv 1 := hJ
      clear hF hD hlen
      generalize q.join 34 e = r at *
      obtain ⟨⟨⟨hP, i1, i2, hM⟩, hD⟩, j1, j2⟩ := hJ
      refine Sat.ob (D.inr.mpr (show IntKind.i64.min ≤ r.iv 17 + 1 ∧ r.iv 17 + 1 ≤ IntKind.i64.max from by simp only [D.i64min, D.i64max]; omega))
        (Sat.back rfl ⟨⟨hP, show 0 ≤ r.iv 17 + 1 from by omega, show r.iv 17 + 1 ≤ 4 from by omega⟩, show (4 - (r.iv 17 + 1)).toNat < M from by omega⟩)
  · refine Sat.call rfl ⟨hF.1.1.1, show q.iv 1 ≤ 1000000 from by omega, hF.1.1.2.2.1, show q.iv 9 ≤ 1000000 from by omega⟩ fun e2 h2 => ?_
    have hD : Div (q.join 26 e2) 26 :=
      ⟨h2.1, h2.2.2.1, _, Eq.trans h2.2.1 (congrArg (a₂ := notes (q.join 26 e2) 0) (List.filter _) (by exact notes_same rfl fun i _ => by simp [noteAt, conEnv, erasCon, Env.join, Sub.nenv, assoc, CV.I, CV.B, upsI, upsB, Seg.I, Seg.B, SC.I, SC.B, IE.den, BE.den])), Eq.trans h2.2.2.2 (congrArg (a₂ := notes (q.join 26 e2) 0) (List.filter _) (by exact notes_same rfl fun i _ => by simp [noteAt, conEnv, erasCon, Env.join, Sub.nenv, assoc, CV.I, CV.B, upsI, upsB, Seg.I, Seg.B, SC.I, SC.B, IE.den, BE.den]))⟩
    replace hF : F3 M (q.join 26 e2) := hF
    clear h2 hb
    generalize q.join 26 e2 = q at *
    have hlen := hD.len hF.1.1.1
    simp only [Nat.reduceAdd] at hlen
    refine Sat.ob (nilOb hD.1) (Sat.ob (decide_eq_true hD.1.2.1) (Sat.ob (nilOb hD.2.1) (Sat.ob (decide_eq_true hD.2.1.2.1) (Sat.ob ?_ (Sat.br (fun hne => ?_) (fun _ => ?_))))))
    · have := hF.1.2.1
      have : 0 ≤ q.iv 1 := hF.1.1.1.2.1
      simp only [D.le, D.lef, D.lt, D.ltf, D.eq, D.eqf, D.not, D.notf, D.and, D.andf, D.or, D.orf, D.inr, D.var, D.lit, D.cellB, D.beq, D.beqf, D.litI, D.varI, D.add, D.sub, D.mul, D.min, D.max, D.cellI, D.i64min, D.i64max]
      omega
    · exfalso
      simp only [D.le, D.lef, D.lt, D.ltf, D.eq, D.eqf, D.not, D.notf, D.and, D.andf, D.or, D.orf, D.inr, D.var, D.lit, D.cellB, D.beq, D.beqf, D.litI, D.varI, D.add, D.sub, D.mul, D.min, D.max, D.cellI, D.i64min, D.i64max] at hne
      exact hne hlen
    refine Sat.loop (fun r => (F3 M r ∧ Div r 26) ∧ 0 ≤ r.iv 34 ∧ r.iv 34 ≤ r.iv 1) (fun r => (r.iv 1 - r.iv 34).toNat) ⟨⟨hF, hD⟩, Int.le_refl 0, hF.1.1.1.2.1⟩ fun e hJ => Sat.br (fun hlt => ?_) (fun _ => ?_)
    · replace hJ : (F3 M (q.join 34 e) ∧ Div (q.join 34 e) 26) ∧ 0 ≤ (q.join 34 e).iv 34 ∧ (q.join 34 e).iv 34 ≤ (q.join 34 e).iv 1 := hJ
      replace hlt : (q.join 34 e).iv 34 < (q.join 34 e).iv 1 := of_decide_eq_true hlt
      obtain ⟨M2, hM2⟩ : ∃ M2, M2 = ((q.join 34 e).num.iv 1 - (q.join 34 e).num.iv 34).toNat := ⟨_, rfl⟩
      rw [← hM2]
      replace hM2 : M2 = ((q.join 34 e).iv 1 - (q.join 34 e).iv 34).toNat := hM2
      clear hF hD hlen
      generalize q.join 34 e = r at *
      obtain ⟨⟨hF, hD⟩, j1, j2⟩ := hJ
      have hlen := hD.len hF.1.1.1
      simp only [Nat.reduceAdd] at hlen
      obtain ⟨hsum, hex⟩ := hD.count (noteAt r 3 (r.iv 34).toNat)
      have hle : (notes r 0).count (noteAt r 3 (r.iv 34).toNat) ≤ (r.iv 1).toNat := by
        have := List.count_le_length (a := noteAt r 3 (r.iv 34).toNat) (l := notes r 0)
        rw [notes_length] at this
        exact this
      simp only [Nat.reduceAdd] at hsum hex
      have hn1 : 0 ≤ r.iv 27 := hD.1.2.1
      have hn2 : 0 ≤ r.iv 31 := hD.2.1.2.1
      have h60 := hF.1.2.1
      refine Sat.ob (nilLt hF.1.1.1 (by simp only [Nat.zero_add]; omega)) (Sat.ob (decide_eq_true j1) (Sat.call rfl ⟨hD.1, show r.iv 27 ≤ 1000000 from by omega⟩ fun e1 h1 => Sat.call rfl ⟨hD.2.1, show r.iv 31 ≤ 1000000 from by omega⟩ fun e2 h2 => ?_))
      replace h1 : e1.iv 35 = ((notes r 26).count (noteAt r 3 (r.iv 34).toNat) : Nat) :=
        Eq.trans h1 (congrArg (a₂ := notes r 26) (fun l => ((l.count (noteAt r 3 (r.iv 34).toNat) : Nat) : Int)) (by exact notes_same rfl fun i _ => by simp [noteAt, conEnv, countCon, Env.join, Sub.nenv, assoc, CV.I, CV.B, upsI, upsB, Seg.I, Seg.B, SC.I, SC.B, IE.den, BE.den]))
      replace h2 : e2.iv 36 = ((notes r 30).count (noteAt r 3 (r.iv 34).toNat) : Nat) :=
        Eq.trans h2 (congrArg (a₂ := notes r 30) (fun l => ((l.count (noteAt r 3 (r.iv 34).toNat) : Nat) : Int)) (by exact notes_same rfl fun i _ => by simp [noteAt, conEnv, countCon, Env.join, Sub.nenv, assoc, CV.I, CV.B, upsI, upsB, Seg.I, Seg.B, SC.I, SC.B, IE.den, BE.den]))
      refine Sat.ob (D.inr.mpr (show IntKind.i64.min ≤ e1.iv 35 + e2.iv 36 ∧ e1.iv 35 + e2.iv 36 ≤ IntKind.i64.max from by simp only [D.i64min, D.i64max]; omega)) (Sat.call rfl ⟨hF.1.1.1, show r.iv 1 ≤ 1000000 from by omega⟩ fun e3 h3 => ?_)
      replace h3 : e3.iv 37 = ((notes r 0).count (noteAt r 3 (r.iv 34).toNat) : Nat) :=
        Eq.trans h3 (congrArg (a₂ := notes r 0) (fun l => ((l.count (noteAt r 3 (r.iv 34).toNat) : Nat) : Int)) (by exact notes_same rfl fun i _ => by simp [noteAt, conEnv, countCon, Env.join, Sub.nenv, assoc, CV.I, CV.B, upsI, upsB, Seg.I, Seg.B, SC.I, SC.B, IE.den, BE.den]))
      refine Sat.br (fun _ => ?_) (fun hne => ?_)
      · refine Sat.call rfl ⟨hD.1, show r.iv 27 ≤ 1000000 from by omega⟩ fun e4 h4 => Sat.br (fun hp => ?_) (fun _ => ?_)
        · replace h4 : e4.iv 38 = ((notes r 26).count (noteAt r 3 (r.iv 34).toNat) : Nat) :=
            Eq.trans h4 (congrArg (a₂ := notes r 26) (fun l => ((l.count (noteAt r 3 (r.iv 34).toNat) : Nat) : Int)) (by exact notes_same rfl fun i _ => by simp [noteAt, conEnv, countCon, Env.join, Sub.nenv, assoc, CV.I, CV.B, upsI, upsB, Seg.I, Seg.B, SC.I, SC.B, IE.den, BE.den]))
          replace hp : 0 < e4.iv 38 := of_decide_eq_true hp
          refine Sat.call rfl ⟨hD.2.1, show r.iv 31 ≤ 1000000 from by omega⟩ fun e5 h5 => Sat.br (fun hp5 => ?_) (fun _ => ?_)
          · replace h5 : e5.iv 39 = ((notes r 30).count (noteAt r 3 (r.iv 34).toNat) : Nat) :=
              Eq.trans h5 (congrArg (a₂ := notes r 30) (fun l => ((l.count (noteAt r 3 (r.iv 34).toNat) : Nat) : Int)) (by exact notes_same rfl fun i _ => by simp [noteAt, conEnv, countCon, Env.join, Sub.nenv, assoc, CV.I, CV.B, upsI, upsB, Seg.I, Seg.B, SC.I, SC.B, IE.den, BE.den]))
            replace hp5 : 0 < e5.iv 39 := of_decide_eq_true hp5
            exact (hex ⟨by omega, by omega⟩).elim
          · exact Sat.ob (D.inr.mpr (show IntKind.i64.min ≤ r.iv 34 + 1 ∧ r.iv 34 + 1 ≤ IntKind.i64.max from by simp only [D.i64min, D.i64max]; have := hF.1.2.1; omega))
              (Sat.back rfl ⟨⟨⟨hF, hD⟩, show 0 ≤ r.iv 34 + 1 from by omega, show r.iv 34 + 1 ≤ r.iv 1 from by omega⟩, show (r.iv 1 - (r.iv 34 + 1)).toNat < M2 from by omega⟩)
        · exact Sat.ob (D.inr.mpr (show IntKind.i64.min ≤ r.iv 34 + 1 ∧ r.iv 34 + 1 ≤ IntKind.i64.max from by simp only [D.i64min, D.i64max]; have := hF.1.2.1; omega))
            (Sat.back rfl ⟨⟨⟨hF, hD⟩, show 0 ≤ r.iv 34 + 1 from by omega, show r.iv 34 + 1 ≤ r.iv 1 from by omega⟩, show (r.iv 1 - (r.iv 34 + 1)).toNat < M2 from by omega⟩)
      · exfalso
        replace hne : ¬ e1.iv 35 + e2.iv 36 = e3.iv 37 := of_decide_eq_false hne
        omega
    · replace hJ : (F3 M (q.join 34 e) ∧ Div (q.join 34 e) 26) ∧ 0 ≤ (q.join 34 e).iv 34 ∧ (q.join 34 e).iv 34 ≤ (q.join 34 e).iv 1 := hJ
      clear hF hD hlen
      generalize q.join 34 e = r at *
      obtain ⟨⟨⟨hP, i1, i2, hM⟩, hD⟩, j1, j2⟩ := hJ
      refine Sat.ob (D.inr.mpr (show IntKind.i64.min ≤ r.iv 17 + 1 ∧ r.iv 17 + 1 ≤ IntKind.i64.max from by simp only [D.i64min, D.i64max]; omega))
        (Sat.back rfl ⟨⟨hP, show 0 ≤ r.iv 17 + 1 from by omega, show r.iv 17 + 1 ≤ 4 from by omega⟩, show (4 - (r.iv 17 + 1)).toNat < M from by omega⟩)
  · refine Sat.call rfl ⟨hF.1.1.1, show q.iv 1 ≤ 1000000 from by omega, hF.1.1.2.2.2.1, show q.iv 13 ≤ 1000000 from by omega⟩ fun e2 h2 => ?_
    have hD : Div (q.join 26 e2) 26 :=
      ⟨h2.1, h2.2.2.1, _, Eq.trans h2.2.1 (congrArg (a₂ := notes (q.join 26 e2) 0) (List.filter _) (by exact notes_same rfl fun i _ => by simp [noteAt, conEnv, spansCon, Env.join, Sub.nenv, assoc, CV.I, CV.B, upsI, upsB, Seg.I, Seg.B, SC.I, SC.B, IE.den, BE.den])), Eq.trans h2.2.2.2 (congrArg (a₂ := notes (q.join 26 e2) 0) (List.filter _) (by exact notes_same rfl fun i _ => by simp [noteAt, conEnv, spansCon, Env.join, Sub.nenv, assoc, CV.I, CV.B, upsI, upsB, Seg.I, Seg.B, SC.I, SC.B, IE.den, BE.den]))⟩
    replace hF : F3 M (q.join 26 e2) := hF
    clear h2 hb
    generalize q.join 26 e2 = q at *
    have hlen := hD.len hF.1.1.1
    simp only [Nat.reduceAdd] at hlen
    refine Sat.ob (nilOb hD.1) (Sat.ob (decide_eq_true hD.1.2.1) (Sat.ob (nilOb hD.2.1) (Sat.ob (decide_eq_true hD.2.1.2.1) (Sat.ob ?_ (Sat.br (fun hne => ?_) (fun _ => ?_))))))
    · have := hF.1.2.1
      have : 0 ≤ q.iv 1 := hF.1.1.1.2.1
      simp only [D.le, D.lef, D.lt, D.ltf, D.eq, D.eqf, D.not, D.notf, D.and, D.andf, D.or, D.orf, D.inr, D.var, D.lit, D.cellB, D.beq, D.beqf, D.litI, D.varI, D.add, D.sub, D.mul, D.min, D.max, D.cellI, D.i64min, D.i64max]
      omega
    · exfalso
      simp only [D.le, D.lef, D.lt, D.ltf, D.eq, D.eqf, D.not, D.notf, D.and, D.andf, D.or, D.orf, D.inr, D.var, D.lit, D.cellB, D.beq, D.beqf, D.litI, D.varI, D.add, D.sub, D.mul, D.min, D.max, D.cellI, D.i64min, D.i64max] at hne
      exact hne hlen
    refine Sat.loop (fun r => (F3 M r ∧ Div r 26) ∧ 0 ≤ r.iv 34 ∧ r.iv 34 ≤ r.iv 1) (fun r => (r.iv 1 - r.iv 34).toNat) ⟨⟨hF, hD⟩, Int.le_refl 0, hF.1.1.1.2.1⟩ fun e hJ => Sat.br (fun hlt => ?_) (fun _ => ?_)
    · replace hJ : (F3 M (q.join 34 e) ∧ Div (q.join 34 e) 26) ∧ 0 ≤ (q.join 34 e).iv 34 ∧ (q.join 34 e).iv 34 ≤ (q.join 34 e).iv 1 := hJ
      replace hlt : (q.join 34 e).iv 34 < (q.join 34 e).iv 1 := of_decide_eq_true hlt
      obtain ⟨M2, hM2⟩ : ∃ M2, M2 = ((q.join 34 e).num.iv 1 - (q.join 34 e).num.iv 34).toNat := ⟨_, rfl⟩
      rw [← hM2]
      replace hM2 : M2 = ((q.join 34 e).iv 1 - (q.join 34 e).iv 34).toNat := hM2
      clear hF hD hlen
      generalize q.join 34 e = r at *
      obtain ⟨⟨hF, hD⟩, j1, j2⟩ := hJ
      have hlen := hD.len hF.1.1.1
      simp only [Nat.reduceAdd] at hlen
      obtain ⟨hsum, hex⟩ := hD.count (noteAt r 3 (r.iv 34).toNat)
      have hle : (notes r 0).count (noteAt r 3 (r.iv 34).toNat) ≤ (r.iv 1).toNat := by
        have := List.count_le_length (a := noteAt r 3 (r.iv 34).toNat) (l := notes r 0)
        rw [notes_length] at this
        exact this
      simp only [Nat.reduceAdd] at hsum hex
      have hn1 : 0 ≤ r.iv 27 := hD.1.2.1
      have hn2 : 0 ≤ r.iv 31 := hD.2.1.2.1
      have h60 := hF.1.2.1
      refine Sat.ob (nilLt hF.1.1.1 (by simp only [Nat.zero_add]; omega)) (Sat.ob (decide_eq_true j1) (Sat.call rfl ⟨hD.1, show r.iv 27 ≤ 1000000 from by omega⟩ fun e1 h1 => Sat.call rfl ⟨hD.2.1, show r.iv 31 ≤ 1000000 from by omega⟩ fun e2 h2 => ?_))
      replace h1 : e1.iv 35 = ((notes r 26).count (noteAt r 3 (r.iv 34).toNat) : Nat) :=
        Eq.trans h1 (congrArg (a₂ := notes r 26) (fun l => ((l.count (noteAt r 3 (r.iv 34).toNat) : Nat) : Int)) (by exact notes_same rfl fun i _ => by simp [noteAt, conEnv, countCon, Env.join, Sub.nenv, assoc, CV.I, CV.B, upsI, upsB, Seg.I, Seg.B, SC.I, SC.B, IE.den, BE.den]))
      replace h2 : e2.iv 36 = ((notes r 30).count (noteAt r 3 (r.iv 34).toNat) : Nat) :=
        Eq.trans h2 (congrArg (a₂ := notes r 30) (fun l => ((l.count (noteAt r 3 (r.iv 34).toNat) : Nat) : Int)) (by exact notes_same rfl fun i _ => by simp [noteAt, conEnv, countCon, Env.join, Sub.nenv, assoc, CV.I, CV.B, upsI, upsB, Seg.I, Seg.B, SC.I, SC.B, IE.den, BE.den]))
      refine Sat.ob (D.inr.mpr (show IntKind.i64.min ≤ e1.iv 35 + e2.iv 36 ∧ e1.iv 35 + e2.iv 36 ≤ IntKind.i64.max from by simp only [D.i64min, D.i64max]; omega)) (Sat.call rfl ⟨hF.1.1.1, show r.iv 1 ≤ 1000000 from by omega⟩ fun e3 h3 => ?_)
      replace h3 : e3.iv 37 = ((notes r 0).count (noteAt r 3 (r.iv 34).toNat) : Nat) :=
        Eq.trans h3 (congrArg (a₂ := notes r 0) (fun l => ((l.count (noteAt r 3 (r.iv 34).toNat) : Nat) : Int)) (by exact notes_same rfl fun i _ => by simp [noteAt, conEnv, countCon, Env.join, Sub.nenv, assoc, CV.I, CV.B, upsI, upsB, Seg.I, Seg.B, SC.I, SC.B, IE.den, BE.den]))
      refine Sat.br (fun _ => ?_) (fun hne => ?_)
      · refine Sat.call rfl ⟨hD.1, show r.iv 27 ≤ 1000000 from by omega⟩ fun e4 h4 => Sat.br (fun hp => ?_) (fun _ => ?_)
        · replace h4 : e4.iv 38 = ((notes r 26).count (noteAt r 3 (r.iv 34).toNat) : Nat) :=
            Eq.trans h4 (congrArg (a₂ := notes r 26) (fun l => ((l.count (noteAt r 3 (r.iv 34).toNat) : Nat) : Int)) (by exact notes_same rfl fun i _ => by simp [noteAt, conEnv, countCon, Env.join, Sub.nenv, assoc, CV.I, CV.B, upsI, upsB, Seg.I, Seg.B, SC.I, SC.B, IE.den, BE.den]))
          replace hp : 0 < e4.iv 38 := of_decide_eq_true hp
          refine Sat.call rfl ⟨hD.2.1, show r.iv 31 ≤ 1000000 from by omega⟩ fun e5 h5 => Sat.br (fun hp5 => ?_) (fun _ => ?_)
          · replace h5 : e5.iv 39 = ((notes r 30).count (noteAt r 3 (r.iv 34).toNat) : Nat) :=
              Eq.trans h5 (congrArg (a₂ := notes r 30) (fun l => ((l.count (noteAt r 3 (r.iv 34).toNat) : Nat) : Int)) (by exact notes_same rfl fun i _ => by simp [noteAt, conEnv, countCon, Env.join, Sub.nenv, assoc, CV.I, CV.B, upsI, upsB, Seg.I, Seg.B, SC.I, SC.B, IE.den, BE.den]))
            replace hp5 : 0 < e5.iv 39 := of_decide_eq_true hp5
            exact (hex ⟨by omega, by omega⟩).elim
          · exact Sat.ob (D.inr.mpr (show IntKind.i64.min ≤ r.iv 34 + 1 ∧ r.iv 34 + 1 ≤ IntKind.i64.max from by simp only [D.i64min, D.i64max]; have := hF.1.2.1; omega))
              (Sat.back rfl ⟨⟨⟨hF, hD⟩, show 0 ≤ r.iv 34 + 1 from by omega, show r.iv 34 + 1 ≤ r.iv 1 from by omega⟩, show (r.iv 1 - (r.iv 34 + 1)).toNat < M2 from by omega⟩)
        · exact Sat.ob (D.inr.mpr (show IntKind.i64.min ≤ r.iv 34 + 1 ∧ r.iv 34 + 1 ≤ IntKind.i64.max from by simp only [D.i64min, D.i64max]; have := hF.1.2.1; omega))
            (Sat.back rfl ⟨⟨⟨hF, hD⟩, show 0 ≤ r.iv 34 + 1 from by omega, show r.iv 34 + 1 ≤ r.iv 1 from by omega⟩, show (r.iv 1 - (r.iv 34 + 1)).toNat < M2 from by omega⟩)
      · exfalso
        replace hne : ¬ e1.iv 35 + e2.iv 36 = e3.iv 37 := of_decide_eq_false hne
        omega
    · replace hJ : (F3 M (q.join 34 e) ∧ Div (q.join 34 e) 26) ∧ 0 ≤ (q.join 34 e).iv 34 ∧ (q.join 34 e).iv 34 ≤ (q.join 34 e).iv 1 := hJ
      clear hF hD hlen
      generalize q.join 34 e = r at *
      obtain ⟨⟨⟨hP, i1, i2, hM⟩, hD⟩, j1, j2⟩ := hJ
      refine Sat.ob (D.inr.mpr (show IntKind.i64.min ≤ r.iv 17 + 1 ∧ r.iv 17 + 1 ≤ IntKind.i64.max from by simp only [D.i64min, D.i64max]; omega))
        (Sat.back rfl ⟨⟨hP, show 0 ≤ r.iv 17 + 1 from by omega, show r.iv 17 + 1 ≤ 4 from by omega⟩, show (4 - (r.iv 17 + 1)).toNat < M from by omega⟩)
  · have hD := hb
    clear hb
    have hlen := hD.len hF.1.1.1
    simp only [Nat.reduceAdd] at hlen
    refine Sat.ob (nilOb hD.1) (Sat.ob (decide_eq_true hD.1.2.1) (Sat.ob (nilOb hD.2.1) (Sat.ob (decide_eq_true hD.2.1.2.1) (Sat.ob ?_ (Sat.br (fun hne => ?_) (fun _ => ?_))))))
    · have := hF.1.2.1
      have : 0 ≤ q.iv 1 := hF.1.1.1.2.1
      simp only [D.le, D.lef, D.lt, D.ltf, D.eq, D.eqf, D.not, D.notf, D.and, D.andf, D.or, D.orf, D.inr, D.var, D.lit, D.cellB, D.beq, D.beqf, D.litI, D.varI, D.add, D.sub, D.mul, D.min, D.max, D.cellI, D.i64min, D.i64max]
      omega
    · exfalso
      simp only [D.le, D.lef, D.lt, D.ltf, D.eq, D.eqf, D.not, D.notf, D.and, D.andf, D.or, D.orf, D.inr, D.var, D.lit, D.cellB, D.beq, D.beqf, D.litI, D.varI, D.add, D.sub, D.mul, D.min, D.max, D.cellI, D.i64min, D.i64max] at hne
      exact hne hlen
    refine Sat.loop (fun r => (F3 M r ∧ Div r 18) ∧ 0 ≤ r.iv 26 ∧ r.iv 26 ≤ r.iv 1) (fun r => (r.iv 1 - r.iv 26).toNat) ⟨⟨hF, hD⟩, Int.le_refl 0, hF.1.1.1.2.1⟩ fun e hJ => Sat.br (fun hlt => ?_) (fun _ => ?_)
    · replace hJ : (F3 M (q.join 26 e) ∧ Div (q.join 26 e) 18) ∧ 0 ≤ (q.join 26 e).iv 26 ∧ (q.join 26 e).iv 26 ≤ (q.join 26 e).iv 1 := hJ
      replace hlt : (q.join 26 e).iv 26 < (q.join 26 e).iv 1 := of_decide_eq_true hlt
      obtain ⟨M2, hM2⟩ : ∃ M2, M2 = ((q.join 26 e).num.iv 1 - (q.join 26 e).num.iv 26).toNat := ⟨_, rfl⟩
      rw [← hM2]
      replace hM2 : M2 = ((q.join 26 e).iv 1 - (q.join 26 e).iv 26).toNat := hM2
      clear hF hD hlen
      generalize q.join 26 e = r at *
      obtain ⟨⟨hF, hD⟩, j1, j2⟩ := hJ
      have hlen := hD.len hF.1.1.1
      simp only [Nat.reduceAdd] at hlen
      obtain ⟨hsum, hex⟩ := hD.count (noteAt r 3 (r.iv 26).toNat)
      have hle : (notes r 0).count (noteAt r 3 (r.iv 26).toNat) ≤ (r.iv 1).toNat := by
        have := List.count_le_length (a := noteAt r 3 (r.iv 26).toNat) (l := notes r 0)
        rw [notes_length] at this
        exact this
      simp only [Nat.reduceAdd] at hsum hex
      have hn1 : 0 ≤ r.iv 19 := hD.1.2.1
      have hn2 : 0 ≤ r.iv 23 := hD.2.1.2.1
      have h60 := hF.1.2.1
      refine Sat.ob (nilLt hF.1.1.1 (by simp only [Nat.zero_add]; omega)) (Sat.ob (decide_eq_true j1) (Sat.call rfl ⟨hD.1, show r.iv 19 ≤ 1000000 from by omega⟩ fun e1 h1 => Sat.call rfl ⟨hD.2.1, show r.iv 23 ≤ 1000000 from by omega⟩ fun e2 h2 => ?_))
      replace h1 : e1.iv 27 = ((notes r 18).count (noteAt r 3 (r.iv 26).toNat) : Nat) :=
        Eq.trans h1 (congrArg (a₂ := notes r 18) (fun l => ((l.count (noteAt r 3 (r.iv 26).toNat) : Nat) : Int)) (by exact notes_same rfl fun i _ => by simp [noteAt, conEnv, countCon, Env.join, Sub.nenv, assoc, CV.I, CV.B, upsI, upsB, Seg.I, Seg.B, SC.I, SC.B, IE.den, BE.den]))
      replace h2 : e2.iv 28 = ((notes r 22).count (noteAt r 3 (r.iv 26).toNat) : Nat) :=
        Eq.trans h2 (congrArg (a₂ := notes r 22) (fun l => ((l.count (noteAt r 3 (r.iv 26).toNat) : Nat) : Int)) (by exact notes_same rfl fun i _ => by simp [noteAt, conEnv, countCon, Env.join, Sub.nenv, assoc, CV.I, CV.B, upsI, upsB, Seg.I, Seg.B, SC.I, SC.B, IE.den, BE.den]))
      refine Sat.ob (D.inr.mpr (show IntKind.i64.min ≤ e1.iv 27 + e2.iv 28 ∧ e1.iv 27 + e2.iv 28 ≤ IntKind.i64.max from by simp only [D.i64min, D.i64max]; omega)) (Sat.call rfl ⟨hF.1.1.1, show r.iv 1 ≤ 1000000 from by omega⟩ fun e3 h3 => ?_)
      replace h3 : e3.iv 29 = ((notes r 0).count (noteAt r 3 (r.iv 26).toNat) : Nat) :=
        Eq.trans h3 (congrArg (a₂ := notes r 0) (fun l => ((l.count (noteAt r 3 (r.iv 26).toNat) : Nat) : Int)) (by exact notes_same rfl fun i _ => by simp [noteAt, conEnv, countCon, Env.join, Sub.nenv, assoc, CV.I, CV.B, upsI, upsB, Seg.I, Seg.B, SC.I, SC.B, IE.den, BE.den]))
      refine Sat.br (fun _ => ?_) (fun hne => ?_)
      · refine Sat.call rfl ⟨hD.1, show r.iv 19 ≤ 1000000 from by omega⟩ fun e4 h4 => Sat.br (fun hp => ?_) (fun _ => ?_)
        · replace h4 : e4.iv 30 = ((notes r 18).count (noteAt r 3 (r.iv 26).toNat) : Nat) :=
            Eq.trans h4 (congrArg (a₂ := notes r 18) (fun l => ((l.count (noteAt r 3 (r.iv 26).toNat) : Nat) : Int)) (by exact notes_same rfl fun i _ => by simp [noteAt, conEnv, countCon, Env.join, Sub.nenv, assoc, CV.I, CV.B, upsI, upsB, Seg.I, Seg.B, SC.I, SC.B, IE.den, BE.den]))
          replace hp : 0 < e4.iv 30 := of_decide_eq_true hp
          refine Sat.call rfl ⟨hD.2.1, show r.iv 23 ≤ 1000000 from by omega⟩ fun e5 h5 => Sat.br (fun hp5 => ?_) (fun _ => ?_)
          · replace h5 : e5.iv 31 = ((notes r 22).count (noteAt r 3 (r.iv 26).toNat) : Nat) :=
              Eq.trans h5 (congrArg (a₂ := notes r 22) (fun l => ((l.count (noteAt r 3 (r.iv 26).toNat) : Nat) : Int)) (by exact notes_same rfl fun i _ => by simp [noteAt, conEnv, countCon, Env.join, Sub.nenv, assoc, CV.I, CV.B, upsI, upsB, Seg.I, Seg.B, SC.I, SC.B, IE.den, BE.den]))
            replace hp5 : 0 < e5.iv 31 := of_decide_eq_true hp5
            exact (hex ⟨by omega, by omega⟩).elim
          · exact Sat.ob (D.inr.mpr (show IntKind.i64.min ≤ r.iv 26 + 1 ∧ r.iv 26 + 1 ≤ IntKind.i64.max from by simp only [D.i64min, D.i64max]; have := hF.1.2.1; omega))
              (Sat.back rfl ⟨⟨⟨hF, hD⟩, show 0 ≤ r.iv 26 + 1 from by omega, show r.iv 26 + 1 ≤ r.iv 1 from by omega⟩, show (r.iv 1 - (r.iv 26 + 1)).toNat < M2 from by omega⟩)
        · exact Sat.ob (D.inr.mpr (show IntKind.i64.min ≤ r.iv 26 + 1 ∧ r.iv 26 + 1 ≤ IntKind.i64.max from by simp only [D.i64min, D.i64max]; have := hF.1.2.1; omega))
            (Sat.back rfl ⟨⟨⟨hF, hD⟩, show 0 ≤ r.iv 26 + 1 from by omega, show r.iv 26 + 1 ≤ r.iv 1 from by omega⟩, show (r.iv 1 - (r.iv 26 + 1)).toNat < M2 from by omega⟩)
      · exfalso
        replace hne : ¬ e1.iv 27 + e2.iv 28 = e3.iv 29 := of_decide_eq_false hne
        omega
    · replace hJ : (F3 M (q.join 26 e) ∧ Div (q.join 26 e) 18) ∧ 0 ≤ (q.join 26 e).iv 26 ∧ (q.join 26 e).iv 26 ≤ (q.join 26 e).iv 1 := hJ
      clear hF hD hlen
      generalize q.join 26 e = r at *
      obtain ⟨⟨⟨hP, i1, i2, hM⟩, hD⟩, j1, j2⟩ := hJ
      refine Sat.ob (D.inr.mpr (show IntKind.i64.min ≤ r.iv 17 + 1 ∧ r.iv 17 + 1 ≤ IntKind.i64.max from by simp only [D.i64min, D.i64max]; omega))
        (Sat.back rfl ⟨⟨hP, show 0 ≤ r.iv 17 + 1 from by omega, show r.iv 17 + 1 ≤ 4 from by omega⟩, show (4 - (r.iv 17 + 1)).toNat < M from by omega⟩)
theorem parts_con {P : Program} (hT : TabOK P tab) : ConOK P (lawCon 3 sh3) (lawPre sh3) (lawPost sh3) :=
  con_ok hT (E := partsE) (cs := lawSem) rfl (lawSem_ok hT) schedOK rfl parts_run (by kernel_rfl) (fun ρ _ p hp => by cases hp) parts_sat
end Go.Proofs.Ytniacabgcjccdaa
