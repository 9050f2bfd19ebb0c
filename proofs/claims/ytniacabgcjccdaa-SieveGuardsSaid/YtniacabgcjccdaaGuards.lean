/- 'SieveGuards': what a thread keeps stays -/
import Derived.Test.YtniacabgcjccdaaLawSem
set_option linter.unusedSimpArgs false
set_option linter.unusedVariables false
namespace Go.Proofs.Ytniacabgcjccdaa
open Go.Rex
noncomputable def guardsE : Ex := { sched := sched, loops := [], cons := lawCons, fin := lawCon 5 sh5 }
def guardsOut : Out :=
  .call 0 { lo := 0, lob := 0 } 24 <|
   .ob (.or (.not (.var 11)) (.ieq (.var 12) (.lit 0))) <|
   .ob (.ile (.lit 0) (.var 12)) <|
   .ob (.or (.ilt (.lit 60) (.var 12)) (.or (.not (.var 15)) (.ieq (.var 16) (.lit 0)))) <|
   .ob (.or (.ilt (.lit 60) (.var 12)) (.ile (.lit 0) (.var 16))) <|
   .ob (.or (.or (.ilt (.lit 60) (.var 12)) (.ilt (.lit 60) (.var 16))) (.or (.not (.var 19)) (.ieq (.var 20) (.lit 0)))) <|
   .ob (.or (.or (.ilt (.lit 60) (.var 12)) (.ilt (.lit 60) (.var 16))) (.ile (.lit 0) (.var 20))) <|
   .br (.or (.or (.ilt (.lit 60) (.var 12)) (.ilt (.lit 60) (.var 16))) (.ilt (.lit 60) (.var 20)))
   (.fin { lo := 24, lob := 3, bv := [(24, (.lit true))] })
   (.alt
    (.alt
     (.ob (.ile (.mul (.var 12) (.lit 40)) (.lit 140737488355328)) <|
      .new 24 [.be (.and (.ile (.var 12) (.var 24)) (.ile (.var 24) (.lit 9223372036854775807))), .be (.or (.lit true) (.ieq (.var 12) (.lit 0))), .be (.or (.lit true) (.ieq (.var 24) (.lit 0))), .cat 25 (.lit 0) (.ex [] 5 0 0) (.var 12) (.up { r := 14, n1 := (.var 12), s1 := 5, ks := [.int .i64, .int .i64, .int .i64, .int .i64, .bool] } 0 [] (.lit 0))] <|
      .ob (.ile (.mul (.add (.var 12) (.lit 1)) (.lit 40)) (.lit 140737488355328)) <|
      .new 26 [.be (.and (.ile (.add (.var 12) (.lit 1)) (.var 26)) (.ile (.var 26) (.lit 9223372036854775807)))] <|
      .call 1 { lo := 0, lob := 0, iv := [(6, (.var 26)), (5, (.add (.var 12) (.lit 1))), (2, (.lit 1)), (1, (.lit 1))], bv := [(4, (.lit false)), (0, (.lit false))], ct := [(7, .up { r := 25, n1 := (.add (.var 12) (.lit 1)), s1 := 5, ks := [.int .i64, .int .i64, .int .i64, .int .i64, .bool] } 0 [⟨0, (.var 12), (.lit 0), 0, .int .i64 (.var 0)⟩, ⟨0, (.var 12), (.lit 0), 1, .int .i64 (.lit 7)⟩, ⟨0, (.var 12), (.lit 0), 2, .int .i64 (.lit 3)⟩, ⟨0, (.var 12), (.lit 0), 3, .int .i64 (.lit 0)⟩, ⟨0, (.var 12), (.lit 0), 4, .bool (.lit false)⟩] (.lit 0)), (3, .ex [.int .i64 (.var 0), .int .i64 (.var 1), .int .i64 (.var 2), .int .i64 (.var 3), .bool (.var 4), .int .i64 (.var 5), .int .i64 (.var 6)] 7 0 0)], bk := [(1, { blk := 11, i1 := (.lit 0), s1 := 5 }), (0, { blk := 6, i1 := (.lit 0), s1 := 7 })] } 27 <|
      .ob (.ile (.mul (.var 16) (.lit 8)) (.lit 140737488355328)) <|
      .ob (.or (.not (.var 15)) (.ieq (.var 16) (.lit 0))) <|
      .ob (.ile (.lit 0) (.var 16)) <|
      .new 35 [.be (.and (.ile (.var 16) (.var 35)) (.ile (.var 35) (.lit 9223372036854775807))), .be (.or (.lit true) (.ieq (.var 16) (.lit 0))), .be (.or (.lit true) (.ieq (.var 35) (.lit 0))), .cat 36 (.lit 0) (.ex [] 1 0 0) (.var 16) (.up { r := 18, n1 := (.var 16), s1 := 1, ks := [.int .i64] } 0 [] (.lit 0))] <|
      .ob (.ile (.mul (.add (.var 16) (.lit 1)) (.lit 8)) (.lit 140737488355328)) <|
      .new 37 [.be (.and (.ile (.add (.var 16) (.lit 1)) (.var 37)) (.ile (.var 37) (.lit 9223372036854775807)))] <|
      .call 2 { lo := 0, lob := 0, iv := [(6, (.var 37)), (5, (.add (.var 16) (.lit 1))), (2, (.lit 1)), (1, (.lit 1))], bv := [(4, (.lit false)), (0, (.lit false))], ct := [(7, .up { r := 36, n1 := (.add (.var 16) (.lit 1)), s1 := 1, ks := [.int .i64] } 0 [⟨0, (.var 16), (.lit 0), 0, .int .i64 (.var 7)⟩] (.lit 0)), (3, .ex [.int .i64 (.var 0), .int .i64 (.var 1), .int .i64 (.var 2), .int .i64 (.var 3), .bool (.var 4), .int .i64 (.var 5), .int .i64 (.var 6)] 7 0 0)], bk := [(1, { blk := 17, i1 := (.lit 0), s1 := 1 }), (0, { blk := 6, i1 := (.lit 0), s1 := 7 })] } 38 <|
      .alt
      (.alt
       (.ob (.ile (.mul (.var 20) (.lit 24)) (.lit 140737488355328)) <|
        .ob (.or (.not (.var 19)) (.ieq (.var 20) (.lit 0))) <|
        .ob (.ile (.lit 0) (.var 20)) <|
        .new 46 [.be (.and (.ile (.var 20) (.var 46)) (.ile (.var 46) (.lit 9223372036854775807))), .be (.or (.lit true) (.ieq (.var 20) (.lit 0))), .be (.or (.lit true) (.ieq (.var 46) (.lit 0))), .cat 47 (.lit 0) (.ex [] 3 0 0) (.var 20) (.up { r := 22, n1 := (.var 20), s1 := 3, ks := [.bool, .int .i64, .int .i64] } 0 [] (.lit 0))] <|
        .ob (.ile (.mul (.add (.var 20) (.lit 1)) (.lit 24)) (.lit 140737488355328)) <|
        .new 48 [.be (.and (.ile (.add (.var 20) (.lit 1)) (.var 48)) (.ile (.var 48) (.lit 9223372036854775807)))] <|
        .call 3 { lo := 0, lob := 0, iv := [(6, (.var 48)), (5, (.add (.var 20) (.lit 1))), (2, (.lit 1)), (1, (.lit 1))], bv := [(4, (.lit false)), (0, (.lit false))], ct := [(7, .up { r := 47, n1 := (.add (.var 20) (.lit 1)), s1 := 3, ks := [.bool, .int .i64, .int .i64] } 0 [⟨0, (.var 20), (.lit 0), 0, .bool (.var 8)⟩, ⟨0, (.var 20), (.lit 0), 1, .int .i64 (.var 9)⟩, ⟨0, (.var 20), (.lit 0), 2, .int .i64 (.var 10)⟩] (.lit 0)), (3, .ex [.int .i64 (.var 0), .int .i64 (.var 1), .int .i64 (.var 2), .int .i64 (.var 3), .bool (.var 4), .int .i64 (.var 5), .int .i64 (.var 6)] 7 0 0)], bk := [(1, { blk := 23, i1 := (.lit 0), s1 := 3 }), (0, { blk := 6, i1 := (.lit 0), s1 := 7 })] } 49 <|
        .ob (.or (.not (.var 27)) (.ieq (.var 28) (.lit 0))) <|
        .ob (.ile (.lit 0) (.var 28)) <|
        .ob (.or (.not (.and (.ieq (.var 28) (.lit 0)) (.and (.and (.ilt (.lit 0) (.var 7)) (.ile (.var 5) (.var 7))) (.ile (.var 7) (.var 6))))) (.or (.not (.var 38)) (.ieq (.var 39) (.lit 0)))) <|
        .ob (.or (.not (.and (.ieq (.var 28) (.lit 0)) (.and (.and (.ilt (.lit 0) (.var 7)) (.ile (.var 5) (.var 7))) (.ile (.var 7) (.var 6))))) (.ile (.lit 0) (.var 39))) <|
        .br (.not (.ieq (.var 28) (.lit 0)))
        (.fin { lo := 24, lob := 3, bv := [(24, (.lit false))] })
        (.br (.and (.and (.and (.ilt (.lit 0) (.var 7)) (.ile (.var 5) (.var 7))) (.ile (.var 7) (.var 6))) (.not (.ieq (.var 39) (.lit 0))))
         (.fin { lo := 24, lob := 3, bv := [(24, (.lit false))] })
         (.ob (.or (.not (.and (.and (.and (.var 8) (.ile (.var 5) (.var 6))) (.ile (.var 9) (.var 10))) (.or (.and (.ile (.var 5) (.var 9)) (.ile (.var 9) (.var 6))) (.and (.ile (.var 9) (.var 5)) (.ile (.var 5) (.var 10)))))) (.or (.not (.var 49)) (.ieq (.var 50) (.lit 0)))) <|
          .ob (.or (.not (.and (.and (.and (.var 8) (.ile (.var 5) (.var 6))) (.ile (.var 9) (.var 10))) (.or (.and (.ile (.var 5) (.var 9)) (.ile (.var 9) (.var 6))) (.and (.ile (.var 9) (.var 5)) (.ile (.var 5) (.var 10)))))) (.ile (.lit 0) (.var 50))) <|
          .br (.not (.and (.and (.and (.var 8) (.ile (.var 5) (.var 6))) (.ile (.var 9) (.var 10))) (.or (.and (.ile (.var 5) (.var 9)) (.ile (.var 9) (.var 6))) (.and (.ile (.var 9) (.var 5)) (.ile (.var 5) (.var 10))))))
          (.fin { lo := 24, lob := 3, bv := [(24, (.lit true))] })
          (.fin { lo := 24, lob := 3, bv := [(24, (.ieq (.var 50) (.lit 0)))] }))))
       (.ob (.ile (.mul (.var 20) (.lit 24)) (.lit 140737488355328)) <|
        .ob (.or (.not (.var 19)) (.ieq (.var 20) (.lit 0))) <|
        .ob (.ile (.lit 0) (.var 20)) <|
        .new 46 [.be (.and (.ile (.var 20) (.var 46)) (.ile (.var 46) (.lit 9223372036854775807))), .be (.or (.lit true) (.ieq (.var 20) (.lit 0))), .be (.or (.lit true) (.ieq (.var 46) (.lit 0))), .cat 47 (.lit 0) (.ex [] 3 0 0) (.var 20) (.up { r := 22, n1 := (.var 20), s1 := 3, ks := [.bool, .int .i64, .int .i64] } 0 [] (.lit 0))] <|
        .ob (.ile (.mul (.add (.var 20) (.lit 1)) (.lit 24)) (.lit 140737488355328)) <|
        .new 48 [.be (.and (.ile (.add (.var 20) (.lit 1)) (.var 48)) (.ile (.var 48) (.lit 9223372036854775807)))] <|
        .call 3 { lo := 0, lob := 0, iv := [(6, (.var 48)), (5, (.add (.var 20) (.lit 1))), (2, (.lit 1)), (1, (.lit 1))], bv := [(4, (.lit false)), (0, (.lit false))], ct := [(7, .up { r := 47, n1 := (.add (.var 20) (.lit 1)), s1 := 3, ks := [.bool, .int .i64, .int .i64] } 0 [⟨0, (.var 20), (.lit 0), 0, .bool (.var 8)⟩, ⟨0, (.var 20), (.lit 0), 1, .int .i64 (.var 9)⟩, ⟨0, (.var 20), (.lit 0), 2, .int .i64 (.var 10)⟩] (.lit 0)), (3, .ex [.int .i64 (.var 0), .int .i64 (.var 1), .int .i64 (.var 2), .int .i64 (.var 3), .bool (.var 4), .int .i64 (.var 5), .int .i64 (.var 6)] 7 0 0)], bk := [(1, { blk := 23, i1 := (.lit 0), s1 := 3 }), (0, { blk := 6, i1 := (.lit 0), s1 := 7 })] } 49 <|
        .ob (.or (.not (.var 27)) (.ieq (.var 28) (.lit 0))) <|
        .ob (.ile (.lit 0) (.var 28)) <|
        .ob (.or (.not (.and (.ieq (.var 28) (.lit 0)) (.and (.and (.ilt (.lit 0) (.var 7)) (.ile (.var 5) (.var 7))) (.ile (.var 7) (.var 6))))) (.or (.not (.var 38)) (.ieq (.var 39) (.lit 0)))) <|
        .ob (.or (.not (.and (.ieq (.var 28) (.lit 0)) (.and (.and (.ilt (.lit 0) (.var 7)) (.ile (.var 5) (.var 7))) (.ile (.var 7) (.var 6))))) (.ile (.lit 0) (.var 39))) <|
        .br (.not (.ieq (.var 28) (.lit 0)))
        (.fin { lo := 24, lob := 3, bv := [(24, (.lit false))] })
        (.br (.and (.and (.and (.ilt (.lit 0) (.var 7)) (.ile (.var 5) (.var 7))) (.ile (.var 7) (.var 6))) (.not (.ieq (.var 39) (.lit 0))))
         (.fin { lo := 24, lob := 3, bv := [(24, (.lit false))] })
         (.ob (.or (.not (.and (.and (.and (.var 8) (.ile (.var 5) (.var 6))) (.ile (.var 9) (.var 10))) (.or (.and (.ile (.var 5) (.var 9)) (.ile (.var 9) (.var 6))) (.and (.ile (.var 9) (.var 5)) (.ile (.var 5) (.var 10)))))) (.or (.not (.var 49)) (.ieq (.var 50) (.lit 0)))) <|
          .ob (.or (.not (.and (.and (.and (.var 8) (.ile (.var 5) (.var 6))) (.ile (.var 9) (.var 10))) (.or (.and (.ile (.var 5) (.var 9)) (.ile (.var 9) (.var 6))) (.and (.ile (.var 9) (.var 5)) (.ile (.var 5) (.var 10)))))) (.ile (.lit 0) (.var 50))) <|
          .br (.not (.and (.and (.and (.var 8) (.ile (.var 5) (.var 6))) (.ile (.var 9) (.var 10))) (.or (.and (.ile (.var 5) (.var 9)) (.ile (.var 9) (.var 6))) (.and (.ile (.var 9) (.var 5)) (.ile (.var 5) (.var 10))))))
          (.fin { lo := 24, lob := 3, bv := [(24, (.lit true))] })
          (.fin { lo := 24, lob := 3, bv := [(24, (.ieq (.var 50) (.lit 0)))] })))))
      (.ob (.ile (.mul (.var 20) (.lit 24)) (.lit 140737488355328)) <|
       .ob (.or (.not (.var 19)) (.ieq (.var 20) (.lit 0))) <|
       .ob (.ile (.lit 0) (.var 20)) <|
       .new 46 [.be (.and (.ile (.var 20) (.var 46)) (.ile (.var 46) (.lit 9223372036854775807))), .be (.or (.lit true) (.ieq (.var 20) (.lit 0))), .be (.or (.lit true) (.ieq (.var 46) (.lit 0))), .cat 47 (.lit 0) (.ex [] 3 0 0) (.var 20) (.up { r := 22, n1 := (.var 20), s1 := 3, ks := [.bool, .int .i64, .int .i64] } 0 [] (.lit 0))] <|
       .ob (.ile (.mul (.add (.var 20) (.lit 1)) (.lit 24)) (.lit 140737488355328)) <|
       .new 48 [.be (.and (.ile (.add (.var 20) (.lit 1)) (.var 48)) (.ile (.var 48) (.lit 9223372036854775807)))] <|
       .call 3 { lo := 0, lob := 0, iv := [(6, (.var 48)), (5, (.add (.var 20) (.lit 1))), (2, (.lit 1)), (1, (.lit 1))], bv := [(4, (.lit false)), (0, (.lit false))], ct := [(7, .up { r := 47, n1 := (.add (.var 20) (.lit 1)), s1 := 3, ks := [.bool, .int .i64, .int .i64] } 0 [⟨0, (.var 20), (.lit 0), 0, .bool (.var 8)⟩, ⟨0, (.var 20), (.lit 0), 1, .int .i64 (.var 9)⟩, ⟨0, (.var 20), (.lit 0), 2, .int .i64 (.var 10)⟩] (.lit 0)), (3, .ex [.int .i64 (.var 0), .int .i64 (.var 1), .int .i64 (.var 2), .int .i64 (.var 3), .bool (.var 4), .int .i64 (.var 5), .int .i64 (.var 6)] 7 0 0)], bk := [(1, { blk := 23, i1 := (.lit 0), s1 := 3 }), (0, { blk := 6, i1 := (.lit 0), s1 := 7 })] } 49 <|
       .ob (.or (.not (.var 27)) (.ieq (.var 28) (.lit 0))) <|
       .ob (.ile (.lit 0) (.var 28)) <|
       .ob (.or (.not (.and (.ieq (.var 28) (.lit 0)) (.and (.and (.ilt (.lit 0) (.var 7)) (.ile (.var 5) (.var 7))) (.ile (.var 7) (.var 6))))) (.or (.not (.var 38)) (.ieq (.var 39) (.lit 0)))) <|
       .ob (.or (.not (.and (.ieq (.var 28) (.lit 0)) (.and (.and (.ilt (.lit 0) (.var 7)) (.ile (.var 5) (.var 7))) (.ile (.var 7) (.var 6))))) (.ile (.lit 0) (.var 39))) <|
       .br (.not (.ieq (.var 28) (.lit 0)))
       (.fin { lo := 24, lob := 3, bv := [(24, (.lit false))] })
       (.br (.and (.and (.and (.ilt (.lit 0) (.var 7)) (.ile (.var 5) (.var 7))) (.ile (.var 7) (.var 6))) (.not (.ieq (.var 39) (.lit 0))))
        (.fin { lo := 24, lob := 3, bv := [(24, (.lit false))] })
        (.ob (.or (.not (.and (.and (.and (.var 8) (.ile (.var 5) (.var 6))) (.ile (.var 9) (.var 10))) (.or (.and (.ile (.var 5) (.var 9)) (.ile (.var 9) (.var 6))) (.and (.ile (.var 9) (.var 5)) (.ile (.var 5) (.var 10)))))) (.or (.not (.var 49)) (.ieq (.var 50) (.lit 0)))) <|
         .ob (.or (.not (.and (.and (.and (.var 8) (.ile (.var 5) (.var 6))) (.ile (.var 9) (.var 10))) (.or (.and (.ile (.var 5) (.var 9)) (.ile (.var 9) (.var 6))) (.and (.ile (.var 9) (.var 5)) (.ile (.var 5) (.var 10)))))) (.ile (.lit 0) (.var 50))) <|
         .br (.not (.and (.and (.and (.var 8) (.ile (.var 5) (.var 6))) (.ile (.var 9) (.var 10))) (.or (.and (.ile (.var 5) (.var 9)) (.ile (.var 9) (.var 6))) (.and (.ile (.var 9) (.var 5)) (.ile (.var 5) (.var 10))))))
         (.fin { lo := 24, lob := 3, bv := [(24, (.lit true))] })
         (.fin { lo := 24, lob := 3, bv := [(24, (.ieq (.var 50) (.lit 0)))] })))))
     (.ob (.ile (.mul (.var 12) (.lit 40)) (.lit 140737488355328)) <|
      .new 24 [.be (.and (.ile (.var 12) (.var 24)) (.ile (.var 24) (.lit 9223372036854775807))), .be (.or (.lit true) (.ieq (.var 12) (.lit 0))), .be (.or (.lit true) (.ieq (.var 24) (.lit 0))), .cat 25 (.lit 0) (.ex [] 5 0 0) (.var 12) (.up { r := 14, n1 := (.var 12), s1 := 5, ks := [.int .i64, .int .i64, .int .i64, .int .i64, .bool] } 0 [] (.lit 0))] <|
      .ob (.ile (.mul (.add (.var 12) (.lit 1)) (.lit 40)) (.lit 140737488355328)) <|
      .new 26 [.be (.and (.ile (.add (.var 12) (.lit 1)) (.var 26)) (.ile (.var 26) (.lit 9223372036854775807)))] <|
      .call 1 { lo := 0, lob := 0, iv := [(6, (.var 26)), (5, (.add (.var 12) (.lit 1))), (2, (.lit 1)), (1, (.lit 1))], bv := [(4, (.lit false)), (0, (.lit false))], ct := [(7, .up { r := 25, n1 := (.add (.var 12) (.lit 1)), s1 := 5, ks := [.int .i64, .int .i64, .int .i64, .int .i64, .bool] } 0 [⟨0, (.var 12), (.lit 0), 0, .int .i64 (.var 0)⟩, ⟨0, (.var 12), (.lit 0), 1, .int .i64 (.lit 7)⟩, ⟨0, (.var 12), (.lit 0), 2, .int .i64 (.lit 3)⟩, ⟨0, (.var 12), (.lit 0), 3, .int .i64 (.lit 0)⟩, ⟨0, (.var 12), (.lit 0), 4, .bool (.lit false)⟩] (.lit 0)), (3, .ex [.int .i64 (.var 0), .int .i64 (.var 1), .int .i64 (.var 2), .int .i64 (.var 3), .bool (.var 4), .int .i64 (.var 5), .int .i64 (.var 6)] 7 0 0)], bk := [(1, { blk := 11, i1 := (.lit 0), s1 := 5 }), (0, { blk := 6, i1 := (.lit 0), s1 := 7 })] } 27 <|
      .ob (.ile (.mul (.var 16) (.lit 8)) (.lit 140737488355328)) <|
      .ob (.or (.not (.var 15)) (.ieq (.var 16) (.lit 0))) <|
      .ob (.ile (.lit 0) (.var 16)) <|
      .new 35 [.be (.and (.ile (.var 16) (.var 35)) (.ile (.var 35) (.lit 9223372036854775807))), .be (.or (.lit true) (.ieq (.var 16) (.lit 0))), .be (.or (.lit true) (.ieq (.var 35) (.lit 0))), .cat 36 (.lit 0) (.ex [] 1 0 0) (.var 16) (.up { r := 18, n1 := (.var 16), s1 := 1, ks := [.int .i64] } 0 [] (.lit 0))] <|
      .ob (.ile (.mul (.add (.var 16) (.lit 1)) (.lit 8)) (.lit 140737488355328)) <|
      .new 37 [.be (.and (.ile (.add (.var 16) (.lit 1)) (.var 37)) (.ile (.var 37) (.lit 9223372036854775807)))] <|
      .call 2 { lo := 0, lob := 0, iv := [(6, (.var 37)), (5, (.add (.var 16) (.lit 1))), (2, (.lit 1)), (1, (.lit 1))], bv := [(4, (.lit false)), (0, (.lit false))], ct := [(7, .up { r := 36, n1 := (.add (.var 16) (.lit 1)), s1 := 1, ks := [.int .i64] } 0 [⟨0, (.var 16), (.lit 0), 0, .int .i64 (.var 7)⟩] (.lit 0)), (3, .ex [.int .i64 (.var 0), .int .i64 (.var 1), .int .i64 (.var 2), .int .i64 (.var 3), .bool (.var 4), .int .i64 (.var 5), .int .i64 (.var 6)] 7 0 0)], bk := [(1, { blk := 17, i1 := (.lit 0), s1 := 1 }), (0, { blk := 6, i1 := (.lit 0), s1 := 7 })] } 38 <|
      .alt
      (.alt
       (.ob (.ile (.mul (.var 20) (.lit 24)) (.lit 140737488355328)) <|
        .ob (.or (.not (.var 19)) (.ieq (.var 20) (.lit 0))) <|
        .ob (.ile (.lit 0) (.var 20)) <|
        .new 46 [.be (.and (.ile (.var 20) (.var 46)) (.ile (.var 46) (.lit 9223372036854775807))), .be (.or (.lit true) (.ieq (.var 20) (.lit 0))), .be (.or (.lit true) (.ieq (.var 46) (.lit 0))), .cat 47 (.lit 0) (.ex [] 3 0 0) (.var 20) (.up { r := 22, n1 := (.var 20), s1 := 3, ks := [.bool, .int .i64, .int .i64] } 0 [] (.lit 0))] <|
        .ob (.ile (.mul (.add (.var 20) (.lit 1)) (.lit 24)) (.lit 140737488355328)) <|
        .new 48 [.be (.and (.ile (.add (.var 20) (.lit 1)) (.var 48)) (.ile (.var 48) (.lit 9223372036854775807)))] <|
        .call 3 { lo := 0, lob := 0, iv := [(6, (.var 48)), (5, (.add (.var 20) (.lit 1))), (2, (.lit 1)), (1, (.lit 1))], bv := [(4, (.lit false)), (0, (.lit false))], ct := [(7, .up { r := 47, n1 := (.add (.var 20) (.lit 1)), s1 := 3, ks := [.bool, .int .i64, .int .i64] } 0 [⟨0, (.var 20), (.lit 0), 0, .bool (.var 8)⟩, ⟨0, (.var 20), (.lit 0), 1, .int .i64 (.var 9)⟩, ⟨0, (.var 20), (.lit 0), 2, .int .i64 (.var 10)⟩] (.lit 0)), (3, .ex [.int .i64 (.var 0), .int .i64 (.var 1), .int .i64 (.var 2), .int .i64 (.var 3), .bool (.var 4), .int .i64 (.var 5), .int .i64 (.var 6)] 7 0 0)], bk := [(1, { blk := 23, i1 := (.lit 0), s1 := 3 }), (0, { blk := 6, i1 := (.lit 0), s1 := 7 })] } 49 <|
        .ob (.or (.not (.var 27)) (.ieq (.var 28) (.lit 0))) <|
        .ob (.ile (.lit 0) (.var 28)) <|
        .ob (.or (.not (.and (.ieq (.var 28) (.lit 0)) (.and (.and (.ilt (.lit 0) (.var 7)) (.ile (.var 5) (.var 7))) (.ile (.var 7) (.var 6))))) (.or (.not (.var 38)) (.ieq (.var 39) (.lit 0)))) <|
        .ob (.or (.not (.and (.ieq (.var 28) (.lit 0)) (.and (.and (.ilt (.lit 0) (.var 7)) (.ile (.var 5) (.var 7))) (.ile (.var 7) (.var 6))))) (.ile (.lit 0) (.var 39))) <|
        .br (.not (.ieq (.var 28) (.lit 0)))
        (.fin { lo := 24, lob := 3, bv := [(24, (.lit false))] })
        (.br (.and (.and (.and (.ilt (.lit 0) (.var 7)) (.ile (.var 5) (.var 7))) (.ile (.var 7) (.var 6))) (.not (.ieq (.var 39) (.lit 0))))
         (.fin { lo := 24, lob := 3, bv := [(24, (.lit false))] })
         (.ob (.or (.not (.and (.and (.and (.var 8) (.ile (.var 5) (.var 6))) (.ile (.var 9) (.var 10))) (.or (.and (.ile (.var 5) (.var 9)) (.ile (.var 9) (.var 6))) (.and (.ile (.var 9) (.var 5)) (.ile (.var 5) (.var 10)))))) (.or (.not (.var 49)) (.ieq (.var 50) (.lit 0)))) <|
          .ob (.or (.not (.and (.and (.and (.var 8) (.ile (.var 5) (.var 6))) (.ile (.var 9) (.var 10))) (.or (.and (.ile (.var 5) (.var 9)) (.ile (.var 9) (.var 6))) (.and (.ile (.var 9) (.var 5)) (.ile (.var 5) (.var 10)))))) (.ile (.lit 0) (.var 50))) <|
          .br (.not (.and (.and (.and (.var 8) (.ile (.var 5) (.var 6))) (.ile (.var 9) (.var 10))) (.or (.and (.ile (.var 5) (.var 9)) (.ile (.var 9) (.var 6))) (.and (.ile (.var 9) (.var 5)) (.ile (.var 5) (.var 10))))))
          (.fin { lo := 24, lob := 3, bv := [(24, (.lit true))] })
          (.fin { lo := 24, lob := 3, bv := [(24, (.ieq (.var 50) (.lit 0)))] }))))
       (.ob (.ile (.mul (.var 20) (.lit 24)) (.lit 140737488355328)) <|
        .ob (.or (.not (.var 19)) (.ieq (.var 20) (.lit 0))) <|
        .ob (.ile (.lit 0) (.var 20)) <|
        .new 46 [.be (.and (.ile (.var 20) (.var 46)) (.ile (.var 46) (.lit 9223372036854775807))), .be (.or (.lit true) (.ieq (.var 20) (.lit 0))), .be (.or (.lit true) (.ieq (.var 46) (.lit 0))), .cat 47 (.lit 0) (.ex [] 3 0 0) (.var 20) (.up { r := 22, n1 := (.var 20), s1 := 3, ks := [.bool, .int .i64, .int .i64] } 0 [] (.lit 0))] <|
        .ob (.ile (.mul (.add (.var 20) (.lit 1)) (.lit 24)) (.lit 140737488355328)) <|
        .new 48 [.be (.and (.ile (.add (.var 20) (.lit 1)) (.var 48)) (.ile (.var 48) (.lit 9223372036854775807)))] <|
        .call 3 { lo := 0, lob := 0, iv := [(6, (.var 48)), (5, (.add (.var 20) (.lit 1))), (2, (.lit 1)), (1, (.lit 1))], bv := [(4, (.lit false)), (0, (.lit false))], ct := [(7, .up { r := 47, n1 := (.add (.var 20) (.lit 1)), s1 := 3, ks := [.bool, .int .i64, .int .i64] } 0 [⟨0, (.var 20), (.lit 0), 0, .bool (.var 8)⟩, ⟨0, (.var 20), (.lit 0), 1, .int .i64 (.var 9)⟩, ⟨0, (.var 20), (.lit 0), 2, .int .i64 (.var 10)⟩] (.lit 0)), (3, .ex [.int .i64 (.var 0), .int .i64 (.var 1), .int .i64 (.var 2), .int .i64 (.var 3), .bool (.var 4), .int .i64 (.var 5), .int .i64 (.var 6)] 7 0 0)], bk := [(1, { blk := 23, i1 := (.lit 0), s1 := 3 }), (0, { blk := 6, i1 := (.lit 0), s1 := 7 })] } 49 <|
        .ob (.or (.not (.var 27)) (.ieq (.var 28) (.lit 0))) <|
        .ob (.ile (.lit 0) (.var 28)) <|
        .ob (.or (.not (.and (.ieq (.var 28) (.lit 0)) (.and (.and (.ilt (.lit 0) (.var 7)) (.ile (.var 5) (.var 7))) (.ile (.var 7) (.var 6))))) (.or (.not (.var 38)) (.ieq (.var 39) (.lit 0)))) <|
        .ob (.or (.not (.and (.ieq (.var 28) (.lit 0)) (.and (.and (.ilt (.lit 0) (.var 7)) (.ile (.var 5) (.var 7))) (.ile (.var 7) (.var 6))))) (.ile (.lit 0) (.var 39))) <|
        .br (.not (.ieq (.var 28) (.lit 0)))
        (.fin { lo := 24, lob := 3, bv := [(24, (.lit false))] })
        (.br (.and (.and (.and (.ilt (.lit 0) (.var 7)) (.ile (.var 5) (.var 7))) (.ile (.var 7) (.var 6))) (.not (.ieq (.var 39) (.lit 0))))
         (.fin { lo := 24, lob := 3, bv := [(24, (.lit false))] })
         (.ob (.or (.not (.and (.and (.and (.var 8) (.ile (.var 5) (.var 6))) (.ile (.var 9) (.var 10))) (.or (.and (.ile (.var 5) (.var 9)) (.ile (.var 9) (.var 6))) (.and (.ile (.var 9) (.var 5)) (.ile (.var 5) (.var 10)))))) (.or (.not (.var 49)) (.ieq (.var 50) (.lit 0)))) <|
          .ob (.or (.not (.and (.and (.and (.var 8) (.ile (.var 5) (.var 6))) (.ile (.var 9) (.var 10))) (.or (.and (.ile (.var 5) (.var 9)) (.ile (.var 9) (.var 6))) (.and (.ile (.var 9) (.var 5)) (.ile (.var 5) (.var 10)))))) (.ile (.lit 0) (.var 50))) <|
          .br (.not (.and (.and (.and (.var 8) (.ile (.var 5) (.var 6))) (.ile (.var 9) (.var 10))) (.or (.and (.ile (.var 5) (.var 9)) (.ile (.var 9) (.var 6))) (.and (.ile (.var 9) (.var 5)) (.ile (.var 5) (.var 10))))))
          (.fin { lo := 24, lob := 3, bv := [(24, (.lit true))] })
          (.fin { lo := 24, lob := 3, bv := [(24, (.ieq (.var 50) (.lit 0)))] })))))
      (.ob (.ile (.mul (.var 20) (.lit 24)) (.lit 140737488355328)) <|
       .ob (.or (.not (.var 19)) (.ieq (.var 20) (.lit 0))) <|
       .ob (.ile (.lit 0) (.var 20)) <|
       .new 46 [.be (.and (.ile (.var 20) (.var 46)) (.ile (.var 46) (.lit 9223372036854775807))), .be (.or (.lit true) (.ieq (.var 20) (.lit 0))), .be (.or (.lit true) (.ieq (.var 46) (.lit 0))), .cat 47 (.lit 0) (.ex [] 3 0 0) (.var 20) (.up { r := 22, n1 := (.var 20), s1 := 3, ks := [.bool, .int .i64, .int .i64] } 0 [] (.lit 0))] <|
       .ob (.ile (.mul (.add (.var 20) (.lit 1)) (.lit 24)) (.lit 140737488355328)) <|
       .new 48 [.be (.and (.ile (.add (.var 20) (.lit 1)) (.var 48)) (.ile (.var 48) (.lit 9223372036854775807)))] <|
       .call 3 { lo := 0, lob := 0, iv := [(6, (.var 48)), (5, (.add (.var 20) (.lit 1))), (2, (.lit 1)), (1, (.lit 1))], bv := [(4, (.lit false)), (0, (.lit false))], ct := [(7, .up { r := 47, n1 := (.add (.var 20) (.lit 1)), s1 := 3, ks := [.bool, .int .i64, .int .i64] } 0 [⟨0, (.var 20), (.lit 0), 0, .bool (.var 8)⟩, ⟨0, (.var 20), (.lit 0), 1, .int .i64 (.var 9)⟩, ⟨0, (.var 20), (.lit 0), 2, .int .i64 (.var 10)⟩] (.lit 0)), (3, .ex [.int .i64 (.var 0), .int .i64 (.var 1), .int .i64 (.var 2), .int .i64 (.var 3), .bool (.var 4), .int .i64 (.var 5), .int .i64 (.var 6)] 7 0 0)], bk := [(1, { blk := 23, i1 := (.lit 0), s1 := 3 }), (0, { blk := 6, i1 := (.lit 0), s1 := 7 })] } 49 <|
       .ob (.or (.not (.var 27)) (.ieq (.var 28) (.lit 0))) <|
       .ob (.ile (.lit 0) (.var 28)) <|
       .ob (.or (.not (.and (.ieq (.var 28) (.lit 0)) (.and (.and (.ilt (.lit 0) (.var 7)) (.ile (.var 5) (.var 7))) (.ile (.var 7) (.var 6))))) (.or (.not (.var 38)) (.ieq (.var 39) (.lit 0)))) <|
       .ob (.or (.not (.and (.ieq (.var 28) (.lit 0)) (.and (.and (.ilt (.lit 0) (.var 7)) (.ile (.var 5) (.var 7))) (.ile (.var 7) (.var 6))))) (.ile (.lit 0) (.var 39))) <|
       .br (.not (.ieq (.var 28) (.lit 0)))
       (.fin { lo := 24, lob := 3, bv := [(24, (.lit false))] })
       (.br (.and (.and (.and (.ilt (.lit 0) (.var 7)) (.ile (.var 5) (.var 7))) (.ile (.var 7) (.var 6))) (.not (.ieq (.var 39) (.lit 0))))
        (.fin { lo := 24, lob := 3, bv := [(24, (.lit false))] })
        (.ob (.or (.not (.and (.and (.and (.var 8) (.ile (.var 5) (.var 6))) (.ile (.var 9) (.var 10))) (.or (.and (.ile (.var 5) (.var 9)) (.ile (.var 9) (.var 6))) (.and (.ile (.var 9) (.var 5)) (.ile (.var 5) (.var 10)))))) (.or (.not (.var 49)) (.ieq (.var 50) (.lit 0)))) <|
         .ob (.or (.not (.and (.and (.and (.var 8) (.ile (.var 5) (.var 6))) (.ile (.var 9) (.var 10))) (.or (.and (.ile (.var 5) (.var 9)) (.ile (.var 9) (.var 6))) (.and (.ile (.var 9) (.var 5)) (.ile (.var 5) (.var 10)))))) (.ile (.lit 0) (.var 50))) <|
         .br (.not (.and (.and (.and (.var 8) (.ile (.var 5) (.var 6))) (.ile (.var 9) (.var 10))) (.or (.and (.ile (.var 5) (.var 9)) (.ile (.var 9) (.var 6))) (.and (.ile (.var 9) (.var 5)) (.ile (.var 5) (.var 10))))))
         (.fin { lo := 24, lob := 3, bv := [(24, (.lit true))] })
         (.fin { lo := 24, lob := 3, bv := [(24, (.ieq (.var 50) (.lit 0)))] }))))))
    (.ob (.ile (.mul (.var 12) (.lit 40)) (.lit 140737488355328)) <|
     .new 24 [.be (.and (.ile (.var 12) (.var 24)) (.ile (.var 24) (.lit 9223372036854775807))), .be (.or (.lit true) (.ieq (.var 12) (.lit 0))), .be (.or (.lit true) (.ieq (.var 24) (.lit 0))), .cat 25 (.lit 0) (.ex [] 5 0 0) (.var 12) (.up { r := 14, n1 := (.var 12), s1 := 5, ks := [.int .i64, .int .i64, .int .i64, .int .i64, .bool] } 0 [] (.lit 0))] <|
     .ob (.ile (.mul (.add (.var 12) (.lit 1)) (.lit 40)) (.lit 140737488355328)) <|
     .new 26 [.be (.and (.ile (.add (.var 12) (.lit 1)) (.var 26)) (.ile (.var 26) (.lit 9223372036854775807)))] <|
     .call 1 { lo := 0, lob := 0, iv := [(6, (.var 26)), (5, (.add (.var 12) (.lit 1))), (2, (.lit 1)), (1, (.lit 1))], bv := [(4, (.lit false)), (0, (.lit false))], ct := [(7, .up { r := 25, n1 := (.add (.var 12) (.lit 1)), s1 := 5, ks := [.int .i64, .int .i64, .int .i64, .int .i64, .bool] } 0 [⟨0, (.var 12), (.lit 0), 0, .int .i64 (.var 0)⟩, ⟨0, (.var 12), (.lit 0), 1, .int .i64 (.lit 7)⟩, ⟨0, (.var 12), (.lit 0), 2, .int .i64 (.lit 3)⟩, ⟨0, (.var 12), (.lit 0), 3, .int .i64 (.lit 0)⟩, ⟨0, (.var 12), (.lit 0), 4, .bool (.lit false)⟩] (.lit 0)), (3, .ex [.int .i64 (.var 0), .int .i64 (.var 1), .int .i64 (.var 2), .int .i64 (.var 3), .bool (.var 4), .int .i64 (.var 5), .int .i64 (.var 6)] 7 0 0)], bk := [(1, { blk := 11, i1 := (.lit 0), s1 := 5 }), (0, { blk := 6, i1 := (.lit 0), s1 := 7 })] } 27 <|
     .ob (.ile (.mul (.var 16) (.lit 8)) (.lit 140737488355328)) <|
     .ob (.or (.not (.var 15)) (.ieq (.var 16) (.lit 0))) <|
     .ob (.ile (.lit 0) (.var 16)) <|
     .new 35 [.be (.and (.ile (.var 16) (.var 35)) (.ile (.var 35) (.lit 9223372036854775807))), .be (.or (.lit true) (.ieq (.var 16) (.lit 0))), .be (.or (.lit true) (.ieq (.var 35) (.lit 0))), .cat 36 (.lit 0) (.ex [] 1 0 0) (.var 16) (.up { r := 18, n1 := (.var 16), s1 := 1, ks := [.int .i64] } 0 [] (.lit 0))] <|
     .ob (.ile (.mul (.add (.var 16) (.lit 1)) (.lit 8)) (.lit 140737488355328)) <|
     .new 37 [.be (.and (.ile (.add (.var 16) (.lit 1)) (.var 37)) (.ile (.var 37) (.lit 9223372036854775807)))] <|
     .call 2 { lo := 0, lob := 0, iv := [(6, (.var 37)), (5, (.add (.var 16) (.lit 1))), (2, (.lit 1)), (1, (.lit 1))], bv := [(4, (.lit false)), (0, (.lit false))], ct := [(7, .up { r := 36, n1 := (.add (.var 16) (.lit 1)), s1 := 1, ks := [.int .i64] } 0 [⟨0, (.var 16), (.lit 0), 0, .int .i64 (.var 7)⟩] (.lit 0)), (3, .ex [.int .i64 (.var 0), .int .i64 (.var 1), .int .i64 (.var 2), .int .i64 (.var 3), .bool (.var 4), .int .i64 (.var 5), .int .i64 (.var 6)] 7 0 0)], bk := [(1, { blk := 17, i1 := (.lit 0), s1 := 1 }), (0, { blk := 6, i1 := (.lit 0), s1 := 7 })] } 38 <|
     .alt
     (.alt
      (.ob (.ile (.mul (.var 20) (.lit 24)) (.lit 140737488355328)) <|
       .ob (.or (.not (.var 19)) (.ieq (.var 20) (.lit 0))) <|
       .ob (.ile (.lit 0) (.var 20)) <|
       .new 46 [.be (.and (.ile (.var 20) (.var 46)) (.ile (.var 46) (.lit 9223372036854775807))), .be (.or (.lit true) (.ieq (.var 20) (.lit 0))), .be (.or (.lit true) (.ieq (.var 46) (.lit 0))), .cat 47 (.lit 0) (.ex [] 3 0 0) (.var 20) (.up { r := 22, n1 := (.var 20), s1 := 3, ks := [.bool, .int .i64, .int .i64] } 0 [] (.lit 0))] <|
       .ob (.ile (.mul (.add (.var 20) (.lit 1)) (.lit 24)) (.lit 140737488355328)) <|
       .new 48 [.be (.and (.ile (.add (.var 20) (.lit 1)) (.var 48)) (.ile (.var 48) (.lit 9223372036854775807)))] <|
       .call 3 { lo := 0, lob := 0, iv := [(6, (.var 48)), (5, (.add (.var 20) (.lit 1))), (2, (.lit 1)), (1, (.lit 1))], bv := [(4, (.lit false)), (0, (.lit false))], ct := [(7, .up { r := 47, n1 := (.add (.var 20) (.lit 1)), s1 := 3, ks := [.bool, .int .i64, .int .i64] } 0 [⟨0, (.var 20), (.lit 0), 0, .bool (.var 8)⟩, ⟨0, (.var 20), (.lit 0), 1, .int .i64 (.var 9)⟩, ⟨0, (.var 20), (.lit 0), 2, .int .i64 (.var 10)⟩] (.lit 0)), (3, .ex [.int .i64 (.var 0), .int .i64 (.var 1), .int .i64 (.var 2), .int .i64 (.var 3), .bool (.var 4), .int .i64 (.var 5), .int .i64 (.var 6)] 7 0 0)], bk := [(1, { blk := 23, i1 := (.lit 0), s1 := 3 }), (0, { blk := 6, i1 := (.lit 0), s1 := 7 })] } 49 <|
       .ob (.or (.not (.var 27)) (.ieq (.var 28) (.lit 0))) <|
       .ob (.ile (.lit 0) (.var 28)) <|
       .ob (.or (.not (.and (.ieq (.var 28) (.lit 0)) (.and (.and (.ilt (.lit 0) (.var 7)) (.ile (.var 5) (.var 7))) (.ile (.var 7) (.var 6))))) (.or (.not (.var 38)) (.ieq (.var 39) (.lit 0)))) <|
       .ob (.or (.not (.and (.ieq (.var 28) (.lit 0)) (.and (.and (.ilt (.lit 0) (.var 7)) (.ile (.var 5) (.var 7))) (.ile (.var 7) (.var 6))))) (.ile (.lit 0) (.var 39))) <|
       .br (.not (.ieq (.var 28) (.lit 0)))
       (.fin { lo := 24, lob := 3, bv := [(24, (.lit false))] })
       (.br (.and (.and (.and (.ilt (.lit 0) (.var 7)) (.ile (.var 5) (.var 7))) (.ile (.var 7) (.var 6))) (.not (.ieq (.var 39) (.lit 0))))
        (.fin { lo := 24, lob := 3, bv := [(24, (.lit false))] })
        (.ob (.or (.not (.and (.and (.and (.var 8) (.ile (.var 5) (.var 6))) (.ile (.var 9) (.var 10))) (.or (.and (.ile (.var 5) (.var 9)) (.ile (.var 9) (.var 6))) (.and (.ile (.var 9) (.var 5)) (.ile (.var 5) (.var 10)))))) (.or (.not (.var 49)) (.ieq (.var 50) (.lit 0)))) <|
         .ob (.or (.not (.and (.and (.and (.var 8) (.ile (.var 5) (.var 6))) (.ile (.var 9) (.var 10))) (.or (.and (.ile (.var 5) (.var 9)) (.ile (.var 9) (.var 6))) (.and (.ile (.var 9) (.var 5)) (.ile (.var 5) (.var 10)))))) (.ile (.lit 0) (.var 50))) <|
         .br (.not (.and (.and (.and (.var 8) (.ile (.var 5) (.var 6))) (.ile (.var 9) (.var 10))) (.or (.and (.ile (.var 5) (.var 9)) (.ile (.var 9) (.var 6))) (.and (.ile (.var 9) (.var 5)) (.ile (.var 5) (.var 10))))))
         (.fin { lo := 24, lob := 3, bv := [(24, (.lit true))] })
         (.fin { lo := 24, lob := 3, bv := [(24, (.ieq (.var 50) (.lit 0)))] }))))
      (.ob (.ile (.mul (.var 20) (.lit 24)) (.lit 140737488355328)) <|
       .ob (.or (.not (.var 19)) (.ieq (.var 20) (.lit 0))) <|
       .ob (.ile (.lit 0) (.var 20)) <|
       .new 46 [.be (.and (.ile (.var 20) (.var 46)) (.ile (.var 46) (.lit 9223372036854775807))), .be (.or (.lit true) (.ieq (.var 20) (.lit 0))), .be (.or (.lit true) (.ieq (.var 46) (.lit 0))), .cat 47 (.lit 0) (.ex [] 3 0 0) (.var 20) (.up { r := 22, n1 := (.var 20), s1 := 3, ks := [.bool, .int .i64, .int .i64] } 0 [] (.lit 0))] <|
       .ob (.ile (.mul (.add (.var 20) (.lit 1)) (.lit 24)) (.lit 140737488355328)) <|
       .new 48 [.be (.and (.ile (.add (.var 20) (.lit 1)) (.var 48)) (.ile (.var 48) (.lit 9223372036854775807)))] <|
       .call 3 { lo := 0, lob := 0, iv := [(6, (.var 48)), (5, (.add (.var 20) (.lit 1))), (2, (.lit 1)), (1, (.lit 1))], bv := [(4, (.lit false)), (0, (.lit false))], ct := [(7, .up { r := 47, n1 := (.add (.var 20) (.lit 1)), s1 := 3, ks := [.bool, .int .i64, .int .i64] } 0 [⟨0, (.var 20), (.lit 0), 0, .bool (.var 8)⟩, ⟨0, (.var 20), (.lit 0), 1, .int .i64 (.var 9)⟩, ⟨0, (.var 20), (.lit 0), 2, .int .i64 (.var 10)⟩] (.lit 0)), (3, .ex [.int .i64 (.var 0), .int .i64 (.var 1), .int .i64 (.var 2), .int .i64 (.var 3), .bool (.var 4), .int .i64 (.var 5), .int .i64 (.var 6)] 7 0 0)], bk := [(1, { blk := 23, i1 := (.lit 0), s1 := 3 }), (0, { blk := 6, i1 := (.lit 0), s1 := 7 })] } 49 <|
       .ob (.or (.not (.var 27)) (.ieq (.var 28) (.lit 0))) <|
       .ob (.ile (.lit 0) (.var 28)) <|
       .ob (.or (.not (.and (.ieq (.var 28) (.lit 0)) (.and (.and (.ilt (.lit 0) (.var 7)) (.ile (.var 5) (.var 7))) (.ile (.var 7) (.var 6))))) (.or (.not (.var 38)) (.ieq (.var 39) (.lit 0)))) <|
       .ob (.or (.not (.and (.ieq (.var 28) (.lit 0)) (.and (.and (.ilt (.lit 0) (.var 7)) (.ile (.var 5) (.var 7))) (.ile (.var 7) (.var 6))))) (.ile (.lit 0) (.var 39))) <|
       .br (.not (.ieq (.var 28) (.lit 0)))
       (.fin { lo := 24, lob := 3, bv := [(24, (.lit false))] })
       (.br (.and (.and (.and (.ilt (.lit 0) (.var 7)) (.ile (.var 5) (.var 7))) (.ile (.var 7) (.var 6))) (.not (.ieq (.var 39) (.lit 0))))
        (.fin { lo := 24, lob := 3, bv := [(24, (.lit false))] })
        (.ob (.or (.not (.and (.and (.and (.var 8) (.ile (.var 5) (.var 6))) (.ile (.var 9) (.var 10))) (.or (.and (.ile (.var 5) (.var 9)) (.ile (.var 9) (.var 6))) (.and (.ile (.var 9) (.var 5)) (.ile (.var 5) (.var 10)))))) (.or (.not (.var 49)) (.ieq (.var 50) (.lit 0)))) <|
         .ob (.or (.not (.and (.and (.and (.var 8) (.ile (.var 5) (.var 6))) (.ile (.var 9) (.var 10))) (.or (.and (.ile (.var 5) (.var 9)) (.ile (.var 9) (.var 6))) (.and (.ile (.var 9) (.var 5)) (.ile (.var 5) (.var 10)))))) (.ile (.lit 0) (.var 50))) <|
         .br (.not (.and (.and (.and (.var 8) (.ile (.var 5) (.var 6))) (.ile (.var 9) (.var 10))) (.or (.and (.ile (.var 5) (.var 9)) (.ile (.var 9) (.var 6))) (.and (.ile (.var 9) (.var 5)) (.ile (.var 5) (.var 10))))))
         (.fin { lo := 24, lob := 3, bv := [(24, (.lit true))] })
         (.fin { lo := 24, lob := 3, bv := [(24, (.ieq (.var 50) (.lit 0)))] })))))
     (.ob (.ile (.mul (.var 20) (.lit 24)) (.lit 140737488355328)) <|
      .ob (.or (.not (.var 19)) (.ieq (.var 20) (.lit 0))) <|
      .ob (.ile (.lit 0) (.var 20)) <|
      .new 46 [.be (.and (.ile (.var 20) (.var 46)) (.ile (.var 46) (.lit 9223372036854775807))), .be (.or (.lit true) (.ieq (.var 20) (.lit 0))), .be (.or (.lit true) (.ieq (.var 46) (.lit 0))), .cat 47 (.lit 0) (.ex [] 3 0 0) (.var 20) (.up { r := 22, n1 := (.var 20), s1 := 3, ks := [.bool, .int .i64, .int .i64] } 0 [] (.lit 0))] <|
      .ob (.ile (.mul (.add (.var 20) (.lit 1)) (.lit 24)) (.lit 140737488355328)) <|
      .new 48 [.be (.and (.ile (.add (.var 20) (.lit 1)) (.var 48)) (.ile (.var 48) (.lit 9223372036854775807)))] <|
      .call 3 { lo := 0, lob := 0, iv := [(6, (.var 48)), (5, (.add (.var 20) (.lit 1))), (2, (.lit 1)), (1, (.lit 1))], bv := [(4, (.lit false)), (0, (.lit false))], ct := [(7, .up { r := 47, n1 := (.add (.var 20) (.lit 1)), s1 := 3, ks := [.bool, .int .i64, .int .i64] } 0 [⟨0, (.var 20), (.lit 0), 0, .bool (.var 8)⟩, ⟨0, (.var 20), (.lit 0), 1, .int .i64 (.var 9)⟩, ⟨0, (.var 20), (.lit 0), 2, .int .i64 (.var 10)⟩] (.lit 0)), (3, .ex [.int .i64 (.var 0), .int .i64 (.var 1), .int .i64 (.var 2), .int .i64 (.var 3), .bool (.var 4), .int .i64 (.var 5), .int .i64 (.var 6)] 7 0 0)], bk := [(1, { blk := 23, i1 := (.lit 0), s1 := 3 }), (0, { blk := 6, i1 := (.lit 0), s1 := 7 })] } 49 <|
      .ob (.or (.not (.var 27)) (.ieq (.var 28) (.lit 0))) <|
      .ob (.ile (.lit 0) (.var 28)) <|
      .ob (.or (.not (.and (.ieq (.var 28) (.lit 0)) (.and (.and (.ilt (.lit 0) (.var 7)) (.ile (.var 5) (.var 7))) (.ile (.var 7) (.var 6))))) (.or (.not (.var 38)) (.ieq (.var 39) (.lit 0)))) <|
      .ob (.or (.not (.and (.ieq (.var 28) (.lit 0)) (.and (.and (.ilt (.lit 0) (.var 7)) (.ile (.var 5) (.var 7))) (.ile (.var 7) (.var 6))))) (.ile (.lit 0) (.var 39))) <|
      .br (.not (.ieq (.var 28) (.lit 0)))
      (.fin { lo := 24, lob := 3, bv := [(24, (.lit false))] })
      (.br (.and (.and (.and (.ilt (.lit 0) (.var 7)) (.ile (.var 5) (.var 7))) (.ile (.var 7) (.var 6))) (.not (.ieq (.var 39) (.lit 0))))
       (.fin { lo := 24, lob := 3, bv := [(24, (.lit false))] })
       (.ob (.or (.not (.and (.and (.and (.var 8) (.ile (.var 5) (.var 6))) (.ile (.var 9) (.var 10))) (.or (.and (.ile (.var 5) (.var 9)) (.ile (.var 9) (.var 6))) (.and (.ile (.var 9) (.var 5)) (.ile (.var 5) (.var 10)))))) (.or (.not (.var 49)) (.ieq (.var 50) (.lit 0)))) <|
        .ob (.or (.not (.and (.and (.and (.var 8) (.ile (.var 5) (.var 6))) (.ile (.var 9) (.var 10))) (.or (.and (.ile (.var 5) (.var 9)) (.ile (.var 9) (.var 6))) (.and (.ile (.var 9) (.var 5)) (.ile (.var 5) (.var 10)))))) (.ile (.lit 0) (.var 50))) <|
        .br (.not (.and (.and (.and (.var 8) (.ile (.var 5) (.var 6))) (.ile (.var 9) (.var 10))) (.or (.and (.ile (.var 5) (.var 9)) (.ile (.var 9) (.var 6))) (.and (.ile (.var 9) (.var 5)) (.ile (.var 5) (.var 10))))))
        (.fin { lo := 24, lob := 3, bv := [(24, (.lit true))] })
        (.fin { lo := 24, lob := 3, bv := [(24, (.ieq (.var 50) (.lit 0)))] }))))))
theorem guards_run : exec tab guardsE 4000 [] (cfg0 5 24 [] [] (lawCon 5 sh5).hp (lawCon 5 sh5).args) = guardsOut := by kernel_rfl
def P5 (ρ : Env) : Prop := OkSl ρ 11 ∧ OkSl ρ 15 ∧ OkSl ρ 19
def P5s (ρ : Env) : Prop := P5 ρ ∧ ρ.iv 12 ≤ 60 ∧ ρ.iv 16 ≤ 60 ∧ ρ.iv 20 ≤ 60
theorem P5_of {ρ : Env} (h : lawPre sh5 ρ) : P5 ρ :=
  have h : preC (sh5.flatMap (·.2)) 0 ρ := h
  have h := h.2.2.2.2.2.2.2.2.2
  ⟨okSl_of h.1, okSl_of h.2.1, okSl_of h.2.2.1⟩
/-- of one note that is kept nothing may be freed -/
theorem one_gone {X Y : Env} {b : Nat} {K : Note → Bool} (h0 : OkSl Y b) (h : notes Y b = (notes X 0).filter (fun n => !K n)) (hx : X.iv 1 = 1) (hk : ∀ x, x = noteAt X 3 0 → K x = true) : Y.iv (b + 1) = 0 := by
  have e : notes X 0 = [noteAt X 3 0] := by
    unfold notes
    simp only [Nat.zero_add, hx]
    rfl
  rw [e] at h
  have := congrArg List.length h
  rw [notes_length] at this
  simp [hk _ rfl] at this
  have := h0.2.1
  omega
theorem keepS_last {X : Env} {x : Note} {i : Nat} (hi : i < (X.iv 5).toNat) (h : X.ic 7 i 0 0 = X.ic 3 0 0 0) (hx : x = noteAt X 3 0) : keepS (annI X 4) x = true := by
  subst hx
  exact List.any_eq_true.2 ⟨_, List.mem_map.2 ⟨i, List.mem_range.2 hi, rfl⟩, decide_eq_true h⟩
theorem keepE_last {X : Env} {x : Note} {i : Nat} (hi : i < (X.iv 5).toNat) (h : (0 < X.ic 7 i 0 0 ∧ X.ic 3 0 0 5 ≤ X.ic 7 i 0 0) ∧ X.ic 7 i 0 0 ≤ X.ic 3 0 0 6) (hx : x = noteAt X 3 0) : keepE (annI X 4) x = true := by
  subst hx
  exact List.any_eq_true.2 ⟨_, List.mem_map.2 ⟨i, List.mem_range.2 hi, rfl⟩, decide_eq_true h⟩
theorem keepP_last {X : Env} {x : Note} {i : Nat} (hi : i < (X.iv 5).toNat) (h : (X.bc 7 i 0 0 = true ∧ X.ic 7 i 0 1 ≤ X.ic 3 0 0 6) ∧ X.ic 3 0 0 5 ≤ X.ic 7 i 0 2) (hx : x = noteAt X 3 0) : keepP (annP X 4) x = true := by
  subst hx
  exact List.any_eq_true.2 ⟨_, List.mem_map.2 ⟨i, List.mem_range.2 hi, rfl⟩, decide_eq_true h⟩
set_option maxRecDepth 10000 in
theorem guards_sat (ρ : Env) (hpre : lawPre sh5 ρ.num) : Sat (lawPost sh5) lawSem [] ρ guardsOut := by
  have h0 : P5 ρ := P5_of (ρ := ρ.num) hpre
  unfold guardsOut
  refine Sat.call rfl trivial fun e0 _ => ?_
  replace h0 : P5 (ρ.join 24 e0) := h0
  clear hpre
  generalize ρ.join 24 e0 = q at *
  refine Sat.ob (nilOb h0.1) (Sat.ob (decide_eq_true h0.1.2.1) (Sat.ob (D.or.mpr (.inr (nilOb h0.2.1))) (Sat.ob (D.or.mpr (.inr (decide_eq_true h0.2.1.2.1))) (Sat.ob (D.or.mpr (.inr (nilOb h0.2.2))) (Sat.ob (D.or.mpr (.inr (decide_eq_true h0.2.2.2.1))) (Sat.br (fun _ => Sat.fin rfl) fun hl => ?_))))))
  have hP : P5s q := by
    simp only [D.le, D.lef, D.lt, D.ltf, D.eq, D.eqf, D.not, D.notf, D.and, D.andf, D.or, D.orf, D.inr, D.var, D.lit, D.cellB, D.beq, D.beqf, D.litI, D.varI, D.add, D.sub, D.mul, D.min, D.max, D.cellI, D.i64min, D.i64max] at hl
    exact ⟨h0, hl.1.1, hl.1.2, hl.2⟩
  clear h0 hl
  refine Sat.alt (Sat.alt ?_ ?_) ?_
  all_goals
    have hn : 0 ≤ q.iv 12 ∧ q.iv 12 ≤ 60 := ⟨hP.1.1.2.1, hP.2.1⟩
    refine Sat.ob (by simp only [D.le, D.lef, D.lt, D.ltf, D.eq, D.eqf, D.not, D.notf, D.and, D.andf, D.or, D.orf, D.inr, D.var, D.lit, D.cellB, D.beq, D.beqf, D.litI, D.varI, D.add, D.sub, D.mul, D.min, D.max, D.cellI, D.i64min, D.i64max]; omega) (Sat.new fun e1 hf => ?_)
    have hc : ∀ i j : Nat, (i : Int) < (q.join 24 e1).iv 12 → (q.join 24 e1).ic 25 i 0 j = (q.join 24 e1).ic 14 i 0 j ∧ (q.join 24 e1).bc 25 i 0 j = (q.join 24 e1).bc 14 i 0 j := fun i j hi => by
      have := (hf _ (.tail _ (.tail _ (.tail _ (.head _)))) i j).2 hi
      simpa [CV.I, CV.B, Seg.I, Seg.B, upsI, upsB, IE.den] using this
    clear hf
    replace hP : P5s (q.join 24 e1) := hP
    replace hn : 0 ≤ (q.join 24 e1).iv 12 ∧ (q.join 24 e1).iv 12 ≤ 60 := hn
    generalize q.join 24 e1 = q at *
    refine Sat.ob (by simp only [D.le, D.lef, D.lt, D.ltf, D.eq, D.eqf, D.not, D.notf, D.and, D.andf, D.or, D.orf, D.inr, D.var, D.lit, D.cellB, D.beq, D.beqf, D.litI, D.varI, D.add, D.sub, D.mul, D.min, D.max, D.cellI, D.i64min, D.i64max]; omega) (Sat.new fun e2 hf => ?_)
    have hcap : (q.join 26 e2).iv 12 + 1 ≤ (q.join 26 e2).iv 26 ∧ (q.join 26 e2).iv 26 ≤ 9223372036854775807 := by
      have := hf _ (.head _)
      simp only [D.be, D.le, D.lef, D.lt, D.ltf, D.eq, D.eqf, D.not, D.notf, D.and, D.andf, D.or, D.orf, D.inr, D.var, D.lit, D.cellB, D.beq, D.beqf, D.litI, D.varI, D.add, D.sub, D.mul, D.min, D.max, D.cellI, D.i64min, D.i64max] at this
      exact this
    clear hf
    replace hP : P5s (q.join 26 e2) := hP
    replace hn : 0 ≤ (q.join 26 e2).iv 12 ∧ (q.join 26 e2).iv 12 ≤ 60 := hn
    replace hc : ∀ i j : Nat, (i : Int) < (q.join 26 e2).iv 12 → (q.join 26 e2).ic 25 i 0 j = (q.join 26 e2).ic 14 i 0 j ∧ (q.join 26 e2).bc 25 i 0 j = (q.join 26 e2).bc 14 i 0 j := hc
    generalize q.join 26 e2 = q at *
    have hn0 : 0 ≤ q.iv 12 := hn.1
    refine Sat.call rfl ⟨⟨fun h => (Bool.false_ne_true h).elim, show (0 : Int) ≤ 1 by decide, Int.le_refl _, show (1 : Int) ≤ 9223372036854775807 by decide⟩, show (1 : Int) ≤ 1000000 by decide, ⟨fun h => (Bool.false_ne_true h).elim, show 0 ≤ q.iv 12 + 1 from by omega, hcap.1, hcap.2⟩, show q.iv 12 + 1 ≤ 1000000 from by omega⟩ fun e3 k3 => ?_
    replace hP : P5s (q.join 27 e3) := hP
    replace hn : 0 ≤ (q.join 27 e3).iv 12 ∧ (q.join 27 e3).iv 12 ≤ 60 := hn
    replace hc : ∀ i j : Nat, (i : Int) < (q.join 27 e3).iv 12 → (q.join 27 e3).ic 25 i 0 j = (q.join 27 e3).ic 14 i 0 j ∧ (q.join 27 e3).bc 25 i 0 j = (q.join 27 e3).bc 14 i 0 j := hc
    replace hcap : (q.join 27 e3).iv 12 + 1 ≤ (q.join 27 e3).iv 26 ∧ (q.join 27 e3).iv 26 ≤ 9223372036854775807 := hcap
    have g27 : OkSl (q.join 27 e3) 27 ∧ (q.join 27 e3).iv 28 = 0 :=
      ⟨k3.1, one_gone k3.1 k3.2.1 rfl (fun y hy => keepS_last (i := (q.iv 12).toNat) (by simp [conEnv, slotsCon, Env.join, Sub.nenv, assoc, CV.I, CV.B, upsI, upsB, Seg.I, Seg.B, SC.I, SC.B, IE.den, BE.den]; omega) (by simp [conEnv, slotsCon, Env.join, Sub.nenv, assoc, CV.I, CV.B, upsI, upsB, Seg.I, Seg.B, SC.I, SC.B, IE.den, BE.den]) hy)⟩
    clear k3 hn hc hcap hn0
    generalize q.join 27 e3 = q at *
    have hn : 0 ≤ q.iv 16 ∧ q.iv 16 ≤ 60 := ⟨hP.1.2.1.2.1, hP.2.2.1⟩
    refine Sat.ob (by simp only [D.le, D.lef, D.lt, D.ltf, D.eq, D.eqf, D.not, D.notf, D.and, D.andf, D.or, D.orf, D.inr, D.var, D.lit, D.cellB, D.beq, D.beqf, D.litI, D.varI, D.add, D.sub, D.mul, D.min, D.max, D.cellI, D.i64min, D.i64max]; omega) (Sat.ob (nilOb hP.1.2.1) (Sat.ob (decide_eq_true hn.1) (Sat.new fun e4 hf => ?_)))
    have hc : ∀ i j : Nat, (i : Int) < (q.join 35 e4).iv 16 → (q.join 35 e4).ic 36 i 0 j = (q.join 35 e4).ic 18 i 0 j ∧ (q.join 35 e4).bc 36 i 0 j = (q.join 35 e4).bc 18 i 0 j := fun i j hi => by
      have := (hf _ (.tail _ (.tail _ (.tail _ (.head _)))) i j).2 hi
      simpa [CV.I, CV.B, Seg.I, Seg.B, upsI, upsB, IE.den] using this
    clear hf
    replace hP : P5s (q.join 35 e4) := hP
    replace g27 : OkSl (q.join 35 e4) 27 ∧ (q.join 35 e4).iv 28 = 0 := g27
    replace hn : 0 ≤ (q.join 35 e4).iv 16 ∧ (q.join 35 e4).iv 16 ≤ 60 := hn
    generalize q.join 35 e4 = q at *
    refine Sat.ob (by simp only [D.le, D.lef, D.lt, D.ltf, D.eq, D.eqf, D.not, D.notf, D.and, D.andf, D.or, D.orf, D.inr, D.var, D.lit, D.cellB, D.beq, D.beqf, D.litI, D.varI, D.add, D.sub, D.mul, D.min, D.max, D.cellI, D.i64min, D.i64max]; omega) (Sat.new fun e5 hf => ?_)
    have hcap : (q.join 37 e5).iv 16 + 1 ≤ (q.join 37 e5).iv 37 ∧ (q.join 37 e5).iv 37 ≤ 9223372036854775807 := by
      have := hf _ (.head _)
      simp only [D.be, D.le, D.lef, D.lt, D.ltf, D.eq, D.eqf, D.not, D.notf, D.and, D.andf, D.or, D.orf, D.inr, D.var, D.lit, D.cellB, D.beq, D.beqf, D.litI, D.varI, D.add, D.sub, D.mul, D.min, D.max, D.cellI, D.i64min, D.i64max] at this
      exact this
    clear hf
    replace hP : P5s (q.join 37 e5) := hP
    replace g27 : OkSl (q.join 37 e5) 27 ∧ (q.join 37 e5).iv 28 = 0 := g27
    replace hn : 0 ≤ (q.join 37 e5).iv 16 ∧ (q.join 37 e5).iv 16 ≤ 60 := hn
    replace hc : ∀ i j : Nat, (i : Int) < (q.join 37 e5).iv 16 → (q.join 37 e5).ic 36 i 0 j = (q.join 37 e5).ic 18 i 0 j ∧ (q.join 37 e5).bc 36 i 0 j = (q.join 37 e5).bc 18 i 0 j := hc
    generalize q.join 37 e5 = q at *
    have hn0 : 0 ≤ q.iv 16 := hn.1
    refine Sat.call rfl ⟨⟨fun h => (Bool.false_ne_true h).elim, show (0 : Int) ≤ 1 by decide, Int.le_refl _, show (1 : Int) ≤ 9223372036854775807 by decide⟩, show (1 : Int) ≤ 1000000 by decide, ⟨fun h => (Bool.false_ne_true h).elim, show 0 ≤ q.iv 16 + 1 from by omega, hcap.1, hcap.2⟩, show q.iv 16 + 1 ≤ 1000000 from by omega⟩ fun e6 k6 => ?_
    replace hP : P5s (q.join 38 e6) := hP
    replace g27 : OkSl (q.join 38 e6) 27 ∧ (q.join 38 e6).iv 28 = 0 := g27
    replace hn : 0 ≤ (q.join 38 e6).iv 16 ∧ (q.join 38 e6).iv 16 ≤ 60 := hn
    replace hc : ∀ i j : Nat, (i : Int) < (q.join 38 e6).iv 16 → (q.join 38 e6).ic 36 i 0 j = (q.join 38 e6).ic 18 i 0 j ∧ (q.join 38 e6).bc 36 i 0 j = (q.join 38 e6).bc 18 i 0 j := hc
    replace hcap : (q.join 38 e6).iv 16 + 1 ≤ (q.join 38 e6).iv 37 ∧ (q.join 38 e6).iv 37 ≤ 9223372036854775807 := hcap
    have g38 : OkSl (q.join 38 e6) 38 ∧ ((0 < (q.join 38 e6).iv 7 ∧ (q.join 38 e6).iv 5 ≤ (q.join 38 e6).iv 7) ∧ (q.join 38 e6).iv 7 ≤ (q.join 38 e6).iv 6 → (q.join 38 e6).iv 39 = 0) :=
      ⟨k6.1, fun hx => one_gone k6.1 k6.2.1 rfl (fun y hy => keepE_last (i := (q.iv 16).toNat) (by simp [conEnv, erasCon, Env.join, Sub.nenv, assoc, CV.I, CV.B, upsI, upsB, Seg.I, Seg.B, SC.I, SC.B, IE.den, BE.den]; omega) (by have hx2 : (0 < q.iv 7 ∧ q.iv 5 ≤ q.iv 7) ∧ q.iv 7 ≤ q.iv 6 := hx; simp [conEnv, erasCon, Env.join, Sub.nenv, assoc, CV.I, CV.B, upsI, upsB, Seg.I, Seg.B, SC.I, SC.B, IE.den, BE.den, hx2]) hy)⟩
    clear k6 hn hc hcap hn0
    generalize q.join 38 e6 = q at *
    refine Sat.alt (Sat.alt ?_ ?_) ?_
    all_goals
      have hn : 0 ≤ q.iv 20 ∧ q.iv 20 ≤ 60 := ⟨hP.1.2.2.2.1, hP.2.2.2⟩
      refine Sat.ob (by simp only [D.le, D.lef, D.lt, D.ltf, D.eq, D.eqf, D.not, D.notf, D.and, D.andf, D.or, D.orf, D.inr, D.var, D.lit, D.cellB, D.beq, D.beqf, D.litI, D.varI, D.add, D.sub, D.mul, D.min, D.max, D.cellI, D.i64min, D.i64max]; omega) (Sat.ob (nilOb hP.1.2.2) (Sat.ob (decide_eq_true hn.1) (Sat.new fun e7 hf => ?_)))
      have hc : ∀ i j : Nat, (i : Int) < (q.join 46 e7).iv 20 → (q.join 46 e7).ic 47 i 0 j = (q.join 46 e7).ic 22 i 0 j ∧ (q.join 46 e7).bc 47 i 0 j = (q.join 46 e7).bc 22 i 0 j := fun i j hi => by
        have := (hf _ (.tail _ (.tail _ (.tail _ (.head _)))) i j).2 hi
        simpa [CV.I, CV.B, Seg.I, Seg.B, upsI, upsB, IE.den] using this
      clear hf
      replace hP : P5s (q.join 46 e7) := hP
      replace g27 : OkSl (q.join 46 e7) 27 ∧ (q.join 46 e7).iv 28 = 0 := g27
      replace g38 : OkSl (q.join 46 e7) 38 ∧ ((0 < (q.join 46 e7).iv 7 ∧ (q.join 46 e7).iv 5 ≤ (q.join 46 e7).iv 7) ∧ (q.join 46 e7).iv 7 ≤ (q.join 46 e7).iv 6 → (q.join 46 e7).iv 39 = 0) := g38
      replace hn : 0 ≤ (q.join 46 e7).iv 20 ∧ (q.join 46 e7).iv 20 ≤ 60 := hn
      generalize q.join 46 e7 = q at *
      refine Sat.ob (by simp only [D.le, D.lef, D.lt, D.ltf, D.eq, D.eqf, D.not, D.notf, D.and, D.andf, D.or, D.orf, D.inr, D.var, D.lit, D.cellB, D.beq, D.beqf, D.litI, D.varI, D.add, D.sub, D.mul, D.min, D.max, D.cellI, D.i64min, D.i64max]; omega) (Sat.new fun e8 hf => ?_)
      have hcap : (q.join 48 e8).iv 20 + 1 ≤ (q.join 48 e8).iv 48 ∧ (q.join 48 e8).iv 48 ≤ 9223372036854775807 := by
        have := hf _ (.head _)
        simp only [D.be, D.le, D.lef, D.lt, D.ltf, D.eq, D.eqf, D.not, D.notf, D.and, D.andf, D.or, D.orf, D.inr, D.var, D.lit, D.cellB, D.beq, D.beqf, D.litI, D.varI, D.add, D.sub, D.mul, D.min, D.max, D.cellI, D.i64min, D.i64max] at this
        exact this
      clear hf
      replace hP : P5s (q.join 48 e8) := hP
      replace g27 : OkSl (q.join 48 e8) 27 ∧ (q.join 48 e8).iv 28 = 0 := g27
      replace g38 : OkSl (q.join 48 e8) 38 ∧ ((0 < (q.join 48 e8).iv 7 ∧ (q.join 48 e8).iv 5 ≤ (q.join 48 e8).iv 7) ∧ (q.join 48 e8).iv 7 ≤ (q.join 48 e8).iv 6 → (q.join 48 e8).iv 39 = 0) := g38
      replace hn : 0 ≤ (q.join 48 e8).iv 20 ∧ (q.join 48 e8).iv 20 ≤ 60 := hn
      replace hc : ∀ i j : Nat, (i : Int) < (q.join 48 e8).iv 20 → (q.join 48 e8).ic 47 i 0 j = (q.join 48 e8).ic 22 i 0 j ∧ (q.join 48 e8).bc 47 i 0 j = (q.join 48 e8).bc 22 i 0 j := hc
      generalize q.join 48 e8 = q at *
      have hn0 : 0 ≤ q.iv 20 := hn.1
      refine Sat.call rfl ⟨⟨fun h => (Bool.false_ne_true h).elim, show (0 : Int) ≤ 1 by decide, Int.le_refl _, show (1 : Int) ≤ 9223372036854775807 by decide⟩, show (1 : Int) ≤ 1000000 by decide, ⟨fun h => (Bool.false_ne_true h).elim, show 0 ≤ q.iv 20 + 1 from by omega, hcap.1, hcap.2⟩, show q.iv 20 + 1 ≤ 1000000 from by omega⟩ fun e9 k9 => ?_
      replace hP : P5s (q.join 49 e9) := hP
      replace g27 : OkSl (q.join 49 e9) 27 ∧ (q.join 49 e9).iv 28 = 0 := g27
      replace g38 : OkSl (q.join 49 e9) 38 ∧ ((0 < (q.join 49 e9).iv 7 ∧ (q.join 49 e9).iv 5 ≤ (q.join 49 e9).iv 7) ∧ (q.join 49 e9).iv 7 ≤ (q.join 49 e9).iv 6 → (q.join 49 e9).iv 39 = 0) := g38
      replace hn : 0 ≤ (q.join 49 e9).iv 20 ∧ (q.join 49 e9).iv 20 ≤ 60 := hn
      replace hc : ∀ i j : Nat, (i : Int) < (q.join 49 e9).iv 20 → (q.join 49 e9).ic 47 i 0 j = (q.join 49 e9).ic 22 i 0 j ∧ (q.join 49 e9).bc 47 i 0 j = (q.join 49 e9).bc 22 i 0 j := hc
      replace hcap : (q.join 49 e9).iv 20 + 1 ≤ (q.join 49 e9).iv 48 ∧ (q.join 49 e9).iv 48 ≤ 9223372036854775807 := hcap
      have g49 : OkSl (q.join 49 e9) 49 ∧ (((q.join 49 e9).bv 8 = true ∧ (q.join 49 e9).iv 9 ≤ (q.join 49 e9).iv 6) ∧ (q.join 49 e9).iv 5 ≤ (q.join 49 e9).iv 10 → (q.join 49 e9).iv 50 = 0) :=
        ⟨k9.1, fun hx => one_gone k9.1 k9.2.1 rfl (fun y hy => keepP_last (i := (q.iv 20).toNat) (by simp [conEnv, spansCon, Env.join, Sub.nenv, assoc, CV.I, CV.B, upsI, upsB, Seg.I, Seg.B, SC.I, SC.B, IE.den, BE.den]; omega) (by have hx2 : (q.bv 8 = true ∧ q.iv 9 ≤ q.iv 6) ∧ q.iv 5 ≤ q.iv 10 := hx; simp [conEnv, spansCon, Env.join, Sub.nenv, assoc, CV.I, CV.B, upsI, upsB, Seg.I, Seg.B, SC.I, SC.B, IE.den, BE.den, hx2]) hy)⟩
      clear k9 hn hc hcap hn0
      generalize q.join 49 e9 = q at *
      obtain ⟨a1, a2⟩ := g27
      obtain ⟨b1, b2⟩ := g38
      obtain ⟨c1, c2⟩ := g49
      refine Sat.ob (nilOb a1) (Sat.ob (decide_eq_true a1.2.1) (Sat.ob (D.or.mpr (.inr (nilOb b1))) (Sat.ob (D.or.mpr (.inr (decide_eq_true b1.2.1))) (Sat.br (fun hf => ?_) (fun _ => Sat.br (fun hf => ?_) (fun _ => Sat.ob (D.or.mpr (.inr (nilOb c1))) (Sat.ob (D.or.mpr (.inr (decide_eq_true c1.2.1))) (Sat.br (fun _ => Sat.fin rfl) (fun hf => Sat.fin ?_)))))))))
      · simp only [D.le, D.lef, D.lt, D.ltf, D.eq, D.eqf, D.not, D.notf, D.and, D.andf, D.or, D.orf, D.inr, D.var, D.lit, D.cellB, D.beq, D.beqf, D.litI, D.varI, D.add, D.sub, D.mul, D.min, D.max, D.cellI, D.i64min, D.i64max] at hf
        exact (hf a2).elim
      · simp only [D.le, D.lef, D.lt, D.ltf, D.eq, D.eqf, D.not, D.notf, D.and, D.andf, D.or, D.orf, D.inr, D.var, D.lit, D.cellB, D.beq, D.beqf, D.litI, D.varI, D.add, D.sub, D.mul, D.min, D.max, D.cellI, D.i64min, D.i64max] at hf
        exact (hf.2 (b2 hf.1)).elim
      · simp only [D.le, D.lef, D.lt, D.ltf, D.eq, D.eqf, D.not, D.notf, D.and, D.andf, D.or, D.orf, D.inr, D.var, D.lit, D.cellB, D.beq, D.beqf, D.litI, D.varI, D.add, D.sub, D.mul, D.min, D.max, D.cellI, D.i64min, D.i64max] at hf
        obtain ⟨⟨⟨f1, f2⟩, f3⟩, f4⟩ := hf
        exact decide_eq_true (show q.iv 50 = 0 from c2 ⟨⟨f1, by omega⟩, by omega⟩)
theorem guards_con {P : Program} (hT : TabOK P tab) : ConOK P (lawCon 5 sh5) (lawPre sh5) (lawPost sh5) :=
  con_ok hT (E := guardsE) (cs := lawSem) rfl (lawSem_ok hT) schedOK rfl guards_run (by kernel_rfl) (fun ρ _ p hp => by cases hp) guards_sat
end Go.Proofs.Ytniacabgcjccdaa
