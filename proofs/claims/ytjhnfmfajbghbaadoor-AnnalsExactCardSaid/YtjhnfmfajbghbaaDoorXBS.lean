/- 'AnnalsExact', where Rows answers 1 -/
import Derived.Test.YtjhnfmfajbghbaaDoorXLaw
set_option linter.unusedSimpArgs false
set_option linter.unusedVariables false
namespace Go.Proofs.YtjhnfmfajbghbaaDoor
open Go.Rex
noncomputable def xBE : Ex := { sched := sched, loops := [L7a, L7b], cons := [awakeCon, rRowsCon, ofCon, rOfCon, eventsCon, rEventsCon, alikeCon, rSameCon, selfCon, wholeCon, rWholeCon, equalCon, rowsBad 1, codeCon 1 1], fin := lawX }
def xBTail : Out :=
 .call 9 { lo := 0, lob := 0, iv := [(2, (.var 10)), (1, (.var 9))], bv := [(0, (.var 8))], ct := [(3, .up { r := 11, n1 := (.var 9), s1 := 10, ks := [.int .i64, .int .i64, .int .i64, .int .i64, .int .i64, .int .i64, .int .i64, .int .i64, .int .i64, .bool] } 0 [] (.lit 0))], bk := [(0, { blk := 12, i1 := (.lit 0), s1 := 10 })] } 39 <|
       .call 10 { lo := 0, lob := 0, iv := [(2, (.var 10)), (1, (.var 9))], bv := [(0, (.var 8))], ct := [(3, .up { r := 11, n1 := (.var 9), s1 := 10, ks := [.int .i64, .int .i64, .int .i64, .int .i64, .int .i64, .int .i64, .int .i64, .int .i64, .int .i64, .bool] } 0 [] (.lit 0))], bk := [(0, { blk := 12, i1 := (.lit 0), s1 := 10 })] } 43 <|
       .call 7 { lo := 0, lob := 0, iv := [(6, (.var 45)), (5, (.var 44)), (2, (.var 41)), (1, (.var 40))], bv := [(4, (.var 43)), (0, (.var 39))], ct := [(7, .up { r := 46, n1 := (.var 44), s1 := 10, ks := [.int .i64, .int .i64, .int .i64, .int .i64, .int .i64, .int .i64, .int .i64, .int .i64, .int .i64, .bool] } 0 [] (.lit 0)), (3, .up { r := 42, n1 := (.var 40), s1 := 10, ks := [.int .i64, .int .i64, .int .i64, .int .i64, .int .i64, .int .i64, .int .i64, .int .i64, .int .i64, .bool] } 0 [] (.lit 0))], bk := [(1, { blk := 20, i1 := (.lit 0), s1 := 10 }), (0, { blk := 19, i1 := (.lit 0), s1 := 10 })] } 47 <|
       .br (.not (.var 47))
       (.fin { lo := 12, lob := 13, bv := [(12, (.lit false))] })
       (.loop 48 { lo := 48, lob := 21, iv := [(48, (.lit 0))] } <|
        .ob (.or (.not (.var 8)) (.ieq (.var 9) (.lit 0))) <|
        .ob (.ile (.lit 0) (.var 9)) <|
        .br (.and (.ilt (.var 48) (.var 9)) (.ilt (.var 48) (.lit 20)))
        (.loop 49 { lo := 49, lob := 21, iv := [(49, (.lit 0))] } <|
         .br (.and (.ilt (.var 49) (.var 9)) (.ilt (.var 49) (.lit 20)))
         (.ob (.not (.var 8)) <|
          .ob (.ile (.lit 0) (.var 48)) <|
          .ob (.ile (.lit 0) (.var 49)) <|
          .ob (.inr .i64 (.add (.var 49) (.lit 1))) <|
          .back 0 { lo := 49, lob := 21, iv := [(49, (.add (.var 49) (.lit 1)))] })
         (.ob (.inr .i64 (.add (.var 48) (.lit 1))) <|
          .back 1 { lo := 48, lob := 21, iv := [(48, (.add (.var 48) (.lit 1)))] }))
        (.call 11 { lo := 0, lob := 0, iv := [(6, (.lit 0)), (5, (.lit 0)), (2, (.var 10)), (1, (.var 9))], bv := [(4, (.lit true)), (0, (.var 8))], ct := [(3, .up { r := 11, n1 := (.var 9), s1 := 10, ks := [.int .i64, .int .i64, .int .i64, .int .i64, .int .i64, .int .i64, .int .i64, .int .i64, .int .i64, .bool] } 0 [] (.lit 0))], bk := [(0, { blk := 12, i1 := (.lit 0), s1 := 10 })], nb := [1] } 49 <|
         .call 7 { lo := 0, lob := 0, iv := [(6, (.lit 0)), (5, (.lit 0)), (2, (.var 10)), (1, (.var 9))], bv := [(4, (.lit true)), (0, (.var 8))], ct := [(3, .up { r := 11, n1 := (.var 9), s1 := 10, ks := [.int .i64, .int .i64, .int .i64, .int .i64, .int .i64, .int .i64, .int .i64, .int .i64, .int .i64, .bool] } 0 [] (.lit 0))], bk := [(0, { blk := 12, i1 := (.lit 0), s1 := 10 })], nb := [1] } 50 <|
         .br (.beq (.var 49) (.var 50))
         (.call 11 { lo := 0, lob := 0, iv := [(6, (.var 10)), (5, (.var 9)), (2, (.var 10)), (1, (.var 9))], bv := [(4, (.var 8)), (0, (.var 8))], ct := [(7, .up { r := 11, n1 := (.var 9), s1 := 10, ks := [.int .i64, .int .i64, .int .i64, .int .i64, .int .i64, .int .i64, .int .i64, .int .i64, .int .i64, .bool] } 0 [] (.lit 0)), (3, .up { r := 11, n1 := (.var 9), s1 := 10, ks := [.int .i64, .int .i64, .int .i64, .int .i64, .int .i64, .int .i64, .int .i64, .int .i64, .int .i64, .bool] } 0 [] (.lit 0))], bk := [(1, { blk := 12, i1 := (.lit 0), s1 := 10 }), (0, { blk := 12, i1 := (.lit 0), s1 := 10 })] } 51 <|
          .fin { lo := 12, lob := 13, bv := [(12, (.var 51))] })
         (.fin { lo := 12, lob := 13, bv := [(12, (.lit false))] })))
def xBOut : Out :=
.call 0 { lo := 0, lob := 0, bk := [(1, { blk := 3 }), (0, { blk := 2 })] } 12 <|
 .ob (.or (.not (.var 0)) (.ieq (.var 1) (.lit 0))) <|
 .ob (.ile (.lit 0) (.var 1)) <|
 .ob (.or (.ilt (.lit 200) (.var 1)) (.or (.not (.var 4)) (.ieq (.var 5) (.lit 0)))) <|
 .ob (.or (.ilt (.lit 200) (.var 1)) (.ile (.lit 0) (.var 5))) <|
 .ob (.or (.or (.ilt (.lit 200) (.var 1)) (.ilt (.lit 200) (.var 5))) (.or (.not (.var 8)) (.ieq (.var 9) (.lit 0)))) <|
 .ob (.or (.or (.ilt (.lit 200) (.var 1)) (.ilt (.lit 200) (.var 5))) (.ile (.lit 0) (.var 9))) <|
 .br (.or (.or (.ilt (.lit 200) (.var 1)) (.ilt (.lit 200) (.var 5))) (.ilt (.lit 200) (.var 9)))
 (.fin { lo := 12, lob := 13, bv := [(12, (.lit true))] })
 (.call 12 { lo := 0, lob := 0, iv := [(2, (.var 6)), (1, (.var 5))], bv := [(0, (.var 4))], ct := [(3, .up { r := 7, n1 := (.var 5), s1 := 8, ks := [.int .i64, .bool, .int .i64, .int .i64, .int .i64, .int .i64, .int .i64, .int .i64] } 0 [] (.lit 0))], bk := [(3, { blk := 3 }), (2, { blk := 2 }), (1, { blk := 1 }), (0, { blk := 0 }), (4, { blk := 11, i1 := (.lit 0), s1 := 8 })] } 12 <|
  .call 1 { lo := 0, lob := 0, iv := [(2, (.var 6)), (1, (.var 5))], bv := [(0, (.var 4))], ct := [(3, .up { r := 7, n1 := (.var 5), s1 := 8, ks := [.int .i64, .bool, .int .i64, .int .i64, .int .i64, .int .i64, .int .i64, .int .i64] } 0 [] (.lit 0))], bk := [(0, { blk := 11, i1 := (.lit 0), s1 := 8 })] } 13 <|
  .call 2 { lo := 0, lob := 0, iv := [(2, (.var 10)), (1, (.var 9))], bv := [(0, (.var 8))], ct := [(3, .up { r := 11, n1 := (.var 9), s1 := 10, ks := [.int .i64, .int .i64, .int .i64, .int .i64, .int .i64, .int .i64, .int .i64, .int .i64, .int .i64, .bool] } 0 [] (.lit 0))], bk := [(3, { blk := 3 }), (2, { blk := 2 }), (1, { blk := 1 }), (0, { blk := 0 }), (4, { blk := 12, i1 := (.lit 0), s1 := 10 })] } 18 <|
  .call 3 { lo := 0, lob := 0, iv := [(2, (.var 10)), (1, (.var 9))], bv := [(0, (.var 8))], ct := [(3, .up { r := 11, n1 := (.var 9), s1 := 10, ks := [.int .i64, .int .i64, .int .i64, .int .i64, .int .i64, .int .i64, .int .i64, .int .i64, .int .i64, .bool] } 0 [] (.lit 0))], bk := [(0, { blk := 12, i1 := (.lit 0), s1 := 10 })] } 23 <|
  .call 4 { lo := 0, lob := 0, iv := [(2, (.var 2)), (1, (.var 1))], bv := [(0, (.var 0))], ct := [(3, .up { r := 3, n1 := (.var 1), s1 := 10, ks := [.int .i64, .bool, .int .i64, .int .i64, .int .i64, .int .i64, .bool, .bool, .int .i64, .int .i64] } 0 [] (.lit 0))], bk := [(0, { blk := 10, i1 := (.lit 0), s1 := 10 })] } 28 <|
  .call 5 { lo := 0, lob := 0, iv := [(2, (.var 2)), (1, (.var 1))], bv := [(0, (.var 0))], ct := [(3, .up { r := 3, n1 := (.var 1), s1 := 10, ks := [.int .i64, .bool, .int .i64, .int .i64, .int .i64, .int .i64, .bool, .bool, .int .i64, .int .i64] } 0 [] (.lit 0))], bk := [(0, { blk := 10, i1 := (.lit 0), s1 := 10 })] } 32 <|
  .call 6 { lo := 0, lob := 0, iv := [(6, (.var 34)), (5, (.var 33)), (2, (.var 30)), (1, (.var 29))], bv := [(4, (.var 32)), (0, (.var 28))], ct := [(7, .up { r := 35, n1 := (.var 33), s1 := 8, ks := [.int .i64, .bool, .int .i64, .int .i64, .int .i64, .int .i64, .int .i64, .int .i64] } 0 [] (.lit 0)), (3, .up { r := 31, n1 := (.var 29), s1 := 8, ks := [.int .i64, .bool, .int .i64, .int .i64, .int .i64, .int .i64, .int .i64, .int .i64] } 0 [] (.lit 0))], bk := [(1, { blk := 18, i1 := (.lit 0), s1 := 8 }), (0, { blk := 17, i1 := (.lit 0), s1 := 8 })] } 36 <|
  .br (.var 36)
  (.call 7 { lo := 0, lob := 0, iv := [(6, (.var 15)), (5, (.var 14)), (2, (.lit 0)), (1, (.lit 0))], bv := [(4, (.var 13)), (0, (.lit true))], ct := [(7, .up { r := 16, n1 := (.var 14), s1 := 10, ks := [.int .i64, .int .i64, .int .i64, .int .i64, .int .i64, .int .i64, .int .i64, .int .i64, .int .i64, .bool] } 0 [] (.lit 0))], bk := [(1, { blk := 14, i1 := (.lit 0), s1 := 10 })], nb := [0] } 37 <|
   .br (.var 37)
   (.call 13 { lo := 0, lob := 0, iv := [(0, (.var 12))], bk := [(9, { blk := 9 }), (8, { blk := 8 }), (7, { blk := 7 }), (6, { blk := 6 }), (5, { blk := 5 }), (4, { blk := 4 }), (3, { blk := 3 }), (2, { blk := 2 }), (1, { blk := 1 }), (0, { blk := 0 }), (10, { blk := 13 })] } 38 <|
    .br (.ieq (.lit 1) (.var 17))
    (.call 6 { lo := 0, lob := 0, iv := [(6, (.var 25)), (5, (.var 24)), (2, (.var 20)), (1, (.var 19))], bv := [(4, (.var 23)), (0, (.var 18))], ct := [(7, .up { r := 26, n1 := (.var 24), s1 := 8, ks := [.int .i64, .bool, .int .i64, .int .i64, .int .i64, .int .i64, .int .i64, .int .i64] } 0 [] (.lit 0)), (3, .up { r := 21, n1 := (.var 19), s1 := 8, ks := [.int .i64, .bool, .int .i64, .int .i64, .int .i64, .int .i64, .int .i64, .int .i64] } 0 [] (.lit 0))], bk := [(1, { blk := 16, i1 := (.lit 0), s1 := 8 }), (0, { blk := 15, i1 := (.lit 0), s1 := 8 })] } 38 <|
     .br (.not (.var 38))
     (.fin { lo := 12, lob := 13, bv := [(12, (.lit false))] })
     (.br (.and (.beq (.var 22) (.var 27)) (.not (.var 22)))
      (.call 8 { lo := 0, lob := 0, bk := [(0, { blk := 1 })] } 39 <|
       xBTail)
      (.br (.beq (.var 22) (.var 27))
       (.br (.not (.var 22))
        (.stop { nv := 39, kn := [((.var 22), false), ((.beq (.var 22) (.var 27)), true), ((.and (.beq (.var 22) (.var 27)) (.not (.var 22))), false), ((.var 38), true), ((.ieq (.lit 1) (.var 17)), true), ((.var 37), true), ((.var 36), true), ((.ilt (.lit 200) (.var 1)), false), ((.ilt (.lit 200) (.var 5)), false), ((.ilt (.lit 200) (.var 9)), false), ((.or (.or (.ilt (.lit 200) (.var 1)) (.ilt (.lit 200) (.var 5))) (.ile (.lit 0) (.var 9))), true), ((.or (.or (.ilt (.lit 200) (.var 1)) (.ilt (.lit 200) (.var 5))) (.or (.not (.var 8)) (.ieq (.var 9) (.lit 0)))), true), ((.or (.ilt (.lit 200) (.var 1)) (.ile (.lit 0) (.var 5))), true), ((.or (.ilt (.lit 200) (.var 1)) (.or (.not (.var 4)) (.ieq (.var 5) (.lit 0)))), true), ((.ile (.lit 0) (.var 1)), true), ((.or (.not (.var 0)) (.ieq (.var 1) (.lit 0))), true)], gl := [(0, 0), (1000000, 1), (1, 2), (1000001, 3), (2, 4), (1000002, 5), (3, 6), (1000003, 7), (4, 8), (1000004, 9)], hp := [{ t := 26, cs := [.iface 85 (.ptr { blk := 1 })], ro := true }, { t := 500111, cs := [.hole], ro := true }, { t := 26, cs := [.iface 85 (.ptr { blk := 3 })], ro := true }, { t := 500111, cs := [.hole], ro := true }, { t := 26, cs := [.iface 85 (.ptr { blk := 5 })], ro := true }, { t := 500111, cs := [.hole], ro := true }, { t := 26, cs := [.iface 85 (.ptr { blk := 7 })], ro := true }, { t := 500111, cs := [.hole], ro := true }, { t := 26, cs := [.iface 85 (.ptr { blk := 9 })], ro := true }, { t := 500111, cs := [.hole], ro := true }, { t := 48, segs := [{ r := 3, n1 := (.var 1), s1 := 10, ks := [.int .i64, .bool, .int .i64, .int .i64, .int .i64, .int .i64, .bool, .bool, .int .i64, .int .i64] }], ro := true, nl := (.var 0) }, { t := 44, segs := [{ r := 7, n1 := (.var 5), s1 := 8, ks := [.int .i64, .bool, .int .i64, .int .i64, .int .i64, .int .i64, .int .i64, .int .i64] }], ro := true, nl := (.var 4) }, { t := 40, segs := [{ r := 11, n1 := (.var 9), s1 := 10, ks := [.int .i64, .int .i64, .int .i64, .int .i64, .int .i64, .int .i64, .int .i64, .int .i64, .int .i64, .bool] }], ro := true, nl := (.var 8) }, { t := 73, cs := [.int .i64 (.var 12), .iface 85 (.ptr { blk := 1 })], own := true }, { t := 40, segs := [{ r := 16, n1 := (.var 14), s1 := 10, ks := [.int .i64, .int .i64, .int .i64, .int .i64, .int .i64, .int .i64, .int .i64, .int .i64, .int .i64, .bool] }], cap := some ((.var 15), 10), own := true, nl := (.var 13) }, { t := 44, segs := [{ r := 21, n1 := (.var 19), s1 := 8, ks := [.int .i64, .bool, .int .i64, .int .i64, .int .i64, .int .i64, .int .i64, .int .i64] }], cap := some ((.var 20), 8), own := true, nl := (.var 18) }, { t := 44, segs := [{ r := 26, n1 := (.var 24), s1 := 8, ks := [.int .i64, .bool, .int .i64, .int .i64, .int .i64, .int .i64, .int .i64, .int .i64] }], cap := some ((.var 25), 8), own := true, nl := (.var 23) }, { t := 44, segs := [{ r := 31, n1 := (.var 29), s1 := 8, ks := [.int .i64, .bool, .int .i64, .int .i64, .int .i64, .int .i64, .int .i64, .int .i64] }], cap := some ((.var 30), 8), own := true, nl := (.var 28) }, { t := 44, segs := [{ r := 35, n1 := (.var 33), s1 := 8, ks := [.int .i64, .bool, .int .i64, .int .i64, .int .i64, .int .i64, .int .i64, .int .i64] }], cap := some ((.var 34), 8), own := true, nl := (.var 32) }], top := { f := 7, fr := [(98, .tup []), (97, .tup []), (96, .tup []), (95, .tup []), (94, .tup []), (93, .tup []), (92, .tup []), (91, .tup []), (90, .tup []), (89, .tup []), (88, .tup []), (87, .gd (.and (.beq (.var 22) (.var 27)) (.not (.var 22))) (.one (.iface 85 (.ptr { blk := 1 })))), (86, .gd (.and (.beq (.var 22) (.var 27)) (.not (.var 22))) (.one (.iface 85 (.ptr { blk := 1 })))), (85, .gd (.beq (.var 22) (.var 27)) (.one (.bool (.not (.var 22))))), (84, .gd (.beq (.var 22) (.var 27)) (.one (.bool (.not (.var 22))))), (83, .gd (.beq (.var 22) (.var 27)) (.one (.ifn (.var 22) (.iface 85 (.ptr { blk := 1 }))))), (82, .w (.one (.bool (.not (.beq (.var 22) (.var 27)))))), (81, .w (.one (.bool (.not (.beq (.var 22) (.var 27)))))), (80, .gd (.var 38) (.one (.bool (.not (.beq (.var 22) (.var 27)))))), (79, .gd (.var 38) (.one (.bool (.var 27)))), (78, .gd (.var 38) (.one (.bool (.var 22)))), (77, .gd (.var 38) (.one (.ifn (.var 22) (.iface 85 (.ptr { blk := 1 }))))), (76, .w (.one (.bool (.not (.var 38))))), (75, .w (.one (.bool (.not (.var 38))))), (74, .w (.one (.bool (.not (.var 38))))), (73, .w (.one (.bool (.var 38)))), (72, .gd (.ieq (.lit 1) (.var 17)) (.one (.sln (.var 23) { blk := 16, i1 := (.lit 0), s1 := 8 } (.var 24) (.var 25)))), (71, .gd (.ieq (.lit 1) (.var 17)) (.one (.sln (.var 18) { blk := 15, i1 := (.lit 0), s1 := 8 } (.var 19) (.var 20)))), (70, .w (.one (.bool (.not (.ieq (.lit 1) (.var 17)))))), (69, .w (.one (.bool (.not (.ieq (.lit 1) (.var 17)))))), (68, .w (.one (.bool (.not (.ieq (.lit 1) (.var 17)))))), (67, .w (.one (.int .i64 (.var 17)))), (66, .w (.one (.int .i64 (.lit 1)))), (65, .gd (.var 37) (.one (.iface 71 (.ptr { blk := 13 })))), (64, .w (.one (.bool (.not (.var 37))))), (63, .w (.one (.bool (.not (.var 37))))), (62, .w (.one (.bool (.not (.var 37))))), (61, .w (.one (.bool (.var 37)))), (60, .gd (.var 36) (.one (.sln (.var 13) { blk := 14, i1 := (.lit 0), s1 := 10 } (.var 14) (.var 15)))), (59, .gd (.var 36) (.one (.nilsl))), (58, .w (.one (.bool (.not (.var 36))))), (57, .w (.one (.bool (.not (.var 36))))), (56, .w (.one (.bool (.var 36)))), (55, .w (.one (.sln (.var 32) { blk := 18, i1 := (.lit 0), s1 := 8 } (.var 33) (.var 34)))), (54, .w (.one (.sln (.var 0) { blk := 10, i1 := (.lit 0), s1 := 10 } (.var 1) (.var 2)))), (53, .w (.one (.sln (.var 28) { blk := 17, i1 := (.lit 0), s1 := 8 } (.var 29) (.var 30)))), (52, .w (.one (.sln (.var 0) { blk := 10, i1 := (.lit 0), s1 := 10 } (.var 1) (.var 2)))), (14, .w (.one (.bool (.var 27)))), (13, .w (.one (.sln (.var 23) { blk := 16, i1 := (.lit 0), s1 := 8 } (.var 24) (.var 25)))), (51, .w (.one (.bool (.var 27)))), (50, .w (.one (.sln (.var 23) { blk := 16, i1 := (.lit 0), s1 := 8 } (.var 24) (.var 25)))), (47, .tup [.one (.sln (.var 23) { blk := 16, i1 := (.lit 0), s1 := 8 } (.var 24) (.var 25)), .one (.bool (.var 27))]), (49, .tup [.one (.sln (.var 23) { blk := 16, i1 := (.lit 0), s1 := 8 } (.var 24) (.var 25)), .one (.bool (.var 27))]), (48, .w (.one (.sln (.var 8) { blk := 12, i1 := (.lit 0), s1 := 10 } (.var 9) (.var 10)))), (12, .w (.one (.ifn (.var 22) (.iface 85 (.ptr { blk := 1 }))))), (11, .w (.one (.sln (.var 18) { blk := 15, i1 := (.lit 0), s1 := 8 } (.var 19) (.var 20)))), (46, .w (.one (.ifn (.var 22) (.iface 85 (.ptr { blk := 1 }))))), (45, .w (.one (.sln (.var 18) { blk := 15, i1 := (.lit 0), s1 := 8 } (.var 19) (.var 20)))), (42, .tup [.one (.sln (.var 18) { blk := 15, i1 := (.lit 0), s1 := 8 } (.var 19) (.var 20)), .one (.ifn (.var 22) (.iface 85 (.ptr { blk := 1 })))]), (44, .tup [.one (.sln (.var 18) { blk := 15, i1 := (.lit 0), s1 := 8 } (.var 19) (.var 20)), .one (.ifn (.var 22) (.iface 85 (.ptr { blk := 1 })))]), (43, .w (.one (.sln (.var 8) { blk := 12, i1 := (.lit 0), s1 := 10 } (.var 9) (.var 10)))), (10, .w (.one (.int .i64 (.var 17)))), (9, .w (.one (.sln (.var 13) { blk := 14, i1 := (.lit 0), s1 := 10 } (.var 14) (.var 15)))), (41, .w (.one (.int .i64 (.var 17)))), (40, .w (.one (.sln (.var 13) { blk := 14, i1 := (.lit 0), s1 := 10 } (.var 14) (.var 15)))), (37, .tup [.one (.sln (.var 13) { blk := 14, i1 := (.lit 0), s1 := 10 } (.var 14) (.var 15)), .one (.int .i64 (.var 17))]), (39, .tup [.one (.sln (.var 13) { blk := 14, i1 := (.lit 0), s1 := 10 } (.var 14) (.var 15)), .one (.int .i64 (.var 17))]), (38, .w (.one (.sln (.var 4) { blk := 11, i1 := (.lit 0), s1 := 8 } (.var 5) (.var 6)))), (8, .w (.one (.iface 71 (.ptr { blk := 13 })))), (7, .w (.one (.nilsl))), (36, .w (.one (.iface 71 (.ptr { blk := 13 })))), (35, .w (.one (.nilsl))), (32, .tup [.one (.nilsl), .one (.iface 71 (.ptr { blk := 13 }))]), (34, .tup [.one (.nilsl), .one (.iface 71 (.ptr { blk := 13 }))]), (33, .w (.one (.sln (.var 4) { blk := 11, i1 := (.lit 0), s1 := 8 } (.var 5) (.var 6)))), (31, .w (.one (.bool (.or (.or (.ilt (.lit 200) (.var 1)) (.ilt (.lit 200) (.var 5))) (.ilt (.lit 200) (.var 9)))))), (30, .gd (.not (.or (.ilt (.lit 200) (.var 1)) (.ilt (.lit 200) (.var 5)))) (.one (.bool (.ilt (.lit 200) (.var 9))))), (29, .gd (.not (.or (.ilt (.lit 200) (.var 1)) (.ilt (.lit 200) (.var 5)))) (.one (.int .i64 (.var 9)))), (28, .gd (.not (.or (.ilt (.lit 200) (.var 1)) (.ilt (.lit 200) (.var 5)))) (.one (.sln (.var 8) { blk := 12, i1 := (.lit 0), s1 := 10 } (.var 9) (.var 10)))), (27, .w (.one (.bool (.or (.ilt (.lit 200) (.var 1)) (.ilt (.lit 200) (.var 5)))))), (26, .w (.one (.bool (.or (.ilt (.lit 200) (.var 1)) (.ilt (.lit 200) (.var 5)))))), (25, .gd (.not (.ilt (.lit 200) (.var 1))) (.one (.bool (.ilt (.lit 200) (.var 5))))), (24, .gd (.not (.ilt (.lit 200) (.var 1))) (.one (.int .i64 (.var 5)))), (23, .gd (.not (.ilt (.lit 200) (.var 1))) (.one (.sln (.var 4) { blk := 11, i1 := (.lit 0), s1 := 8 } (.var 5) (.var 6)))), (22, .w (.one (.bool (.ilt (.lit 200) (.var 1))))), (21, .w (.one (.bool (.ilt (.lit 200) (.var 1))))), (20, .w (.one (.int .i64 (.var 1)))), (19, .w (.one (.sln (.var 0) { blk := 10, i1 := (.lit 0), s1 := 10 } (.var 1) (.var 2)))), (18, .w (.one (.bool (.lit false)))), (17, .w (.one (.bool (.lit true)))), (6, .w (.one (.bool (.lit false)))), (0, .w (.one (.sln (.var 0) { blk := 10, i1 := (.lit 0), s1 := 10 } (.var 1) (.var 2)))), (1, .w (.one (.sln (.var 4) { blk := 11, i1 := (.lit 0), s1 := 8 } (.var 5) (.var 6)))), (2, .w (.one (.sln (.var 8) { blk := 12, i1 := (.lit 0), s1 := 10 } (.var 9) (.var 10))))], cur := .reg [1, 1, 1, 1, 1, 1, 1, 0, 0] 47, todo := [.code [1, 1, 1, 1, 1, 1, 1, 0, 1], .code [1, 1, 1, 1, 1, 1, 1, 1]] }, stk := [] })
        (xBTail))
       (.fin { lo := 12, lob := 13, bv := [(12, (.lit false))] }))))
    (.fin { lo := 12, lob := 13, bv := [(12, (.lit false))] }))
   (.fin { lo := 12, lob := 13, bv := [(12, (.lit false))] }))
  (.fin { lo := 12, lob := 13, bv := [(12, (.lit false))] }))
theorem xB_run : exec tab xBE 8000 [] (cfg0 7 12 [] (sentGl ss5 0) lawX.hp lawX.args) = xBOut := by kernel_rfl
def xBSem : CSem := [(awakeCon, yesPre, yesPre), (rRowsCon, rrPre, rrPost), (ofCon, ofPre, ofPost), (rOfCon, rofPre, rofPost), (eventsCon, eventsPre, eventsPost), (rEventsCon, eventsPre, eventsPost), (alikeCon, alikePre, alikePost), (rSameCon, rsamePre, rsamePost), (selfCon, yesPre, yesPre), (wholeCon, wholePre, wholePost), (rWholeCon, wholePre, wholePost), (equalCon, equalPre, equalPost), (rowsBad 1, rowsPreE 1, yesPre), (codeCon 1 1, yesPre, yesPre)]
theorem xBSem_ok : ∀ k pre post, (k, pre, post) ∈ xBSem → conWf k = true ∧ ConOK Tryd.prog k pre post := by
  intro k pre post h
  simp only [xBSem, List.mem_cons, List.not_mem_nil, or_false, Prod.mk.injEq] at h
  rcases h with ⟨rfl, rfl, rfl⟩ | ⟨rfl, rfl, rfl⟩ | ⟨rfl, rfl, rfl⟩ | ⟨rfl, rfl, rfl⟩ | ⟨rfl, rfl, rfl⟩ | ⟨rfl, rfl, rfl⟩ | ⟨rfl, rfl, rfl⟩ | ⟨rfl, rfl, rfl⟩ | ⟨rfl, rfl, rfl⟩ | ⟨rfl, rfl, rfl⟩ | ⟨rfl, rfl, rfl⟩ | ⟨rfl, rfl, rfl⟩ | ⟨rfl, rfl, rfl⟩ | ⟨rfl, rfl, rfl⟩
  · exact ⟨by kernel_rfl, awake_con⟩
  · exact ⟨by kernel_rfl, rrows_con⟩
  · exact ⟨by kernel_rfl, of_con⟩
  · exact ⟨by kernel_rfl, rof_con⟩
  · exact ⟨by kernel_rfl, events_con⟩
  · exact ⟨by kernel_rfl, revents_con⟩
  · exact ⟨by kernel_rfl, alike_con⟩
  · exact ⟨by kernel_rfl, rsame_con⟩
  · exact ⟨by kernel_rfl, self_con⟩
  · exact ⟨by kernel_rfl, whole_con⟩
  · exact ⟨by kernel_rfl, rwhole_con⟩
  · exact ⟨by kernel_rfl, equal_con⟩
  · exact ⟨by kernel_rfl, rowsB_con⟩
  · exact ⟨by kernel_rfl, code_con 0 (by decide)⟩
def xBT (q : Env) : Prop := xBase q
set_option maxHeartbeats 2000000 in
theorem xBTail_sat (q : Env) (hk : xBT q) {Γ : List (Env → Prop)} : Sat (lawPostG ss5 shX) xBSem Γ q xBTail := by
  unfold xBTail
  refine Sat.callK (c := wholeCon) rfl ⟨hk.1.2.2, Int.le_trans hk.2.1.2.2 (by decide)⟩ (fun u => xBT u ∧ OkSl u 39 ∧ recs mkRw u 39 = wholeOf (recs mkRw u 8)) (fun e hq => ⟨hk, whole_at (rows := recs mkRw (q.join 39 e) 8) hq (recs_same rfl fun i _ => by simp [recAt, mkRw, -Int.pred_toNat, Sub.nenv, assoc, CV.I, CV.B, upsI, upsB, Seg.I, Seg.B, SC.I, SC.B, IE.den, BE.den, Env.join])⟩) fun q hk => ?_
  obtain ⟨hk, g1, g2⟩ := hk
  refine Sat.callK (c := rWholeCon) rfl ⟨hk.1.2.2, Int.le_trans hk.2.1.2.2 (by decide)⟩ (fun u => xBT u ∧ (OkSl u 39 ∧ recs mkRw u 39 = wholeOf (recs mkRw u 8)) ∧ OkSl u 43 ∧ recs mkRw u 43 = wholeOf (recs mkRw u 8)) (fun e hq => ⟨hk, ⟨g1, g2⟩, whole_at (rows := recs mkRw (q.join 43 e) 8) hq (recs_same rfl fun i _ => by simp [recAt, mkRw, -Int.pred_toNat, Sub.nenv, assoc, CV.I, CV.B, upsI, upsB, Seg.I, Seg.B, SC.I, SC.B, IE.den, BE.den, Env.join])⟩) fun q hk => ?_
  clear g1 g2
  obtain ⟨hk, ⟨g1, g2⟩, g3, g4⟩ := hk
  refine Sat.callK (c := rSameCon) rfl ⟨g1, g3⟩ (fun u => xBT u ∧ u.bv 47 = true) (fun e hq => ⟨hk, (rsame_at (a := recs mkRw (q.join 47 e) 39) (b := recs mkRw (q.join 47 e) 43) hq (recs_same rfl fun i _ => by simp [recAt, mkRw, -Int.pred_toNat, Sub.nenv, assoc, CV.I, CV.B, upsI, upsB, Seg.I, Seg.B, SC.I, SC.B, IE.den, BE.den, Env.join]) (recs_same rfl fun i _ => by simp [recAt, mkRw, -Int.pred_toNat, Sub.nenv, assoc, CV.I, CV.B, upsI, upsB, Seg.I, Seg.B, SC.I, SC.B, IE.den, BE.den, Env.join])).2 ?_⟩) fun q hk => ?_
  · exact g2.trans g4.symm
  clear g1 g2 g3 g4
  obtain ⟨hk, hb⟩ := hk
  refine Sat.br (fun h => ?_) (fun _ => ?_)
  · have h : (!(q.bv 47)) = true := h
    rw [hb] at h
    cases h
  clear hb
  refine Sat.loopK (fun r => 0 ≤ r.iv 48 ∧ r.iv 48 ≤ r.iv 9) (fun r => (r.iv 9 - r.iv 48).toNat) xBT ⟨Int.le_refl 0, hk.1.2.2.2.1⟩ (fun _ => hk) fun r hk hI => ?_
  replace hI : 0 ≤ r.iv 48 ∧ r.iv 48 ≤ r.iv 9 := hI
  rw [show (r.num.iv 9 - r.num.iv 48).toNat = (r.iv 9 - r.iv 48).toNat from rfl]
  refine Sat.ob (nilOb hk.1.2.2) (Sat.ob (decide_eq_true hk.1.2.2.2.1) (Sat.br (fun hlt => ?_) (fun _ => ?_)))
  · replace hlt : r.iv 48 < r.iv 9 ∧ r.iv 48 < 20 := by simpa only [D.le, D.lef, D.lt, D.ltf, D.eq, D.eqf, D.not, D.notf, D.and, D.andf, D.or, D.orf, D.inr, D.var, D.lit, D.cellB, D.beq, D.beqf, D.litI, D.varI, D.add, D.sub, D.mul, D.min, D.max, D.cellI, D.i64min, D.i64max, Int.toNat_zero] using hlt
    refine Sat.loopK (fun r => 0 ≤ r.iv 49) (fun r => (r.iv 9 - r.iv 49).toNat) (fun s => xBT s ∧ (0 ≤ s.iv 48 ∧ s.iv 48 < s.iv 9 ∧ s.iv 48 < 20) ∧ (s.iv 9 - (s.iv 48 + 1)).toNat < (r.iv 9 - r.iv 48).toNat) (Int.le_refl 0) (fun _ => ⟨hk, ⟨hI.1, hlt⟩, by show (r.iv 9 - (r.iv 48 + 1)).toNat < _; omega⟩) fun s hs hJ => ?_
    obtain ⟨hk, hi, hm⟩ := hs
    replace hJ : 0 ≤ s.iv 49 := hJ
    rw [show (s.num.iv 9 - s.num.iv 49).toNat = (s.iv 9 - s.iv 49).toNat from rfl]
    refine Sat.br (fun hl2 => ?_) (fun _ => ?_)
    · replace hl2 : s.iv 49 < s.iv 9 ∧ s.iv 49 < 20 := by simpa only [D.le, D.lef, D.lt, D.ltf, D.eq, D.eqf, D.not, D.notf, D.and, D.andf, D.or, D.orf, D.inr, D.var, D.lit, D.cellB, D.beq, D.beqf, D.litI, D.varI, D.add, D.sub, D.mul, D.min, D.max, D.cellI, D.i64min, D.i64max, Int.toNat_zero] using hl2
      refine Sat.ob (nilLt hk.1.2.2 (by simp only [Nat.reduceAdd]; omega)) (Sat.ob (decide_eq_true hi.1) (Sat.ob (decide_eq_true hJ) (Sat.ob (by simp only [D.le, D.lef, D.lt, D.ltf, D.eq, D.eqf, D.not, D.notf, D.and, D.andf, D.or, D.orf, D.inr, D.var, D.lit, D.cellB, D.beq, D.beqf, D.litI, D.varI, D.add, D.sub, D.mul, D.min, D.max, D.cellI, D.i64min, D.i64max, Int.toNat_zero]; omega) (Sat.back rfl ⟨?_, ?_⟩))))
      · show 0 ≤ s.iv 49 + 1
        omega
      · show (s.iv 9 - (s.iv 49 + 1)).toNat < (s.iv 9 - s.iv 49).toNat
        omega
    · refine Sat.ob (by simp only [D.le, D.lef, D.lt, D.ltf, D.eq, D.eqf, D.not, D.notf, D.and, D.andf, D.or, D.orf, D.inr, D.var, D.lit, D.cellB, D.beq, D.beqf, D.litI, D.varI, D.add, D.sub, D.mul, D.min, D.max, D.cellI, D.i64min, D.i64max, Int.toNat_zero]; omega) (Sat.back rfl ⟨⟨?_, ?_⟩, hm⟩)
      · show 0 ≤ s.iv 48 + 1
        omega
      · show s.iv 48 + 1 ≤ s.iv 9
        omega
  clear hI
  refine Sat.callK (c := equalCon) rfl ⟨hk.1.2.2, ⟨fun _ => rfl, Int.le_refl 0, Int.le_refl 0, by show (0 : Int) ≤ _; decide⟩⟩ (fun u => xBT u ∧ (u.bv 49 = true ↔ recs mkRw u 8 = ([] : List Rw))) (fun e hq => ⟨hk, equal_at (a := recs mkRw (r.join 49 e) 8) (b := ([] : List Rw)) hq (recs_same rfl fun i _ => by simp [recAt, mkRw, -Int.pred_toNat, Sub.nenv, assoc, CV.I, CV.B, upsI, upsB, Seg.I, Seg.B, SC.I, SC.B, IE.den, BE.den, Env.join]) (by simp [recs, -Int.pred_toNat, Sub.nenv, assoc, CV.I, CV.B, upsI, upsB, Seg.I, Seg.B, SC.I, SC.B, IE.den, BE.den])⟩) fun q hk => ?_
  obtain ⟨hk, h1⟩ := hk
  refine Sat.callK (c := rSameCon) rfl ⟨hk.1.2.2, ⟨fun _ => rfl, Int.le_refl 0, Int.le_refl 0, by show (0 : Int) ≤ _; decide⟩⟩ (fun u => xBT u ∧ (u.bv 49 = true ↔ recs mkRw u 8 = ([] : List Rw)) ∧ (u.bv 50 = true ↔ recs mkRw u 8 = ([] : List Rw))) (fun e hq => ⟨hk, h1, rsame_at (a := recs mkRw (q.join 50 e) 8) (b := ([] : List Rw)) hq (recs_same rfl fun i _ => by simp [recAt, mkRw, -Int.pred_toNat, Sub.nenv, assoc, CV.I, CV.B, upsI, upsB, Seg.I, Seg.B, SC.I, SC.B, IE.den, BE.den, Env.join]) (by simp [recs, -Int.pred_toNat, Sub.nenv, assoc, CV.I, CV.B, upsI, upsB, Seg.I, Seg.B, SC.I, SC.B, IE.den, BE.den])⟩) fun q hk => ?_
  clear h1
  obtain ⟨hk, h1, h2⟩ := hk
  have he : q.bv 49 = q.bv 50 := Bool.eq_iff_iff.2 (h1.trans h2.symm)
  refine Sat.br (fun _ => ?_) (fun h => ?_)
  · refine Sat.callK (c := equalCon) rfl ⟨hk.1.2.2, hk.1.2.2⟩ (fun u => u.bv 51 = true) (fun e hq => (equal_at (a := recs mkRw (q.join 51 e) 8) (b := recs mkRw (q.join 51 e) 8) hq (recs_same rfl fun i _ => by simp [recAt, mkRw, -Int.pred_toNat, Sub.nenv, assoc, CV.I, CV.B, upsI, upsB, Seg.I, Seg.B, SC.I, SC.B, IE.den, BE.den, Env.join]) (recs_same rfl fun i _ => by simp [recAt, mkRw, -Int.pred_toNat, Sub.nenv, assoc, CV.I, CV.B, upsI, upsB, Seg.I, Seg.B, SC.I, SC.B, IE.den, BE.den, Env.join])).2 rfl) fun q hk => ?_
    exact Sat.fin hk
  · have h : (q.bv 49 == q.bv 50) = false := h
    rw [he, beq_self_eq_true] at h
    cases h
def xBPre (ρ : Env) : Prop := lawPre shX ρ ∧ errOf (recs mkEv ρ 4) = 1
def xBR (u : Env) : Prop := u.iv 17 = 1 ∧ OkSl u 13 ∧ u.iv 14 = 0
set_option maxHeartbeats 2000000 in
theorem xB_sat (ρ : Env) (hpre : xBPre ρ.num) : Sat (lawPostG ss5 shX) xBSem [] ρ xBOut := by
  obtain ⟨hpre, hE⟩ := hpre
  replace hE : errOf (recs mkEv ρ 4) = 1 := hE
  have hk := lawX_pre (ρ := ρ) hpre
  clear hpre
  unfold xBOut
  refine Sat.callK (c := awakeCon) rfl trivial (fun q => ((OkSl q 0 ∧ OkSl q 4 ∧ OkSl q 8) ∧ (∀ i : Nat, (i : Int) < q.iv 5 → InR (q.ic 7 i 0 0)) ∧ ∀ i : Nat, (i : Int) < q.iv 9 → InR (q.ic 11 i 0 0)) ∧ errOf (recs mkEv q 4) = 1) (fun _ _ => ⟨hk, hE⟩) fun q hk => ?_
  clear hE
  obtain ⟨hk, hE⟩ := hk
  have p1 := nilOb hk.1.1
  have p2 := nilOb hk.1.2.1
  have p3 := nilOb hk.1.2.2
  have n1 := hk.1.1.2.1
  have n2 := hk.1.2.1.2.1
  have n3 := hk.1.2.2.2.1
  refine Sat.ob p1 (Sat.ob (decide_eq_true n1) (Sat.ob (by rw [BE.den, p2, Bool.or_true]) (Sat.ob (by rw [BE.den, show (BE.ile (.lit 0) (.var 5)).den q = true from decide_eq_true n2, Bool.or_true]) (Sat.ob (by rw [BE.den, p3, Bool.or_true]) (Sat.ob (by rw [BE.den, show (BE.ile (.lit 0) (.var 9)).den q = true from decide_eq_true n3, Bool.or_true]) (Sat.br (fun _ => Sat.fin rfl) (fun hb => ?_)))))))
  replace hb : q.iv 1 ≤ 200 ∧ q.iv 5 ≤ 200 ∧ q.iv 9 ≤ 200 := by
    simp only [D.le, D.lef, D.lt, D.ltf, D.eq, D.eqf, D.not, D.notf, D.and, D.andf, D.or, D.orf, D.inr, D.var, D.lit, D.cellB, D.beq, D.beqf, D.litI, D.varI, D.add, D.sub, D.mul, D.min, D.max, D.cellI, D.i64min, D.i64max, Int.toNat_zero] at hb
    omega
  replace hk : xBase q := ⟨hk.1, hb, hk.2⟩
  clear p1 p2 p3 n1 n2 n3 hb
  refine Sat.callK (c := rowsBad 1) rfl ⟨⟨hk.1.2.1, Int.le_trans hk.2.1.2.1 (by decide), fun i hi => ?_⟩, ?_⟩ (fun u => xBT u ∧ errOf (recs mkEv u 4) = 1) (fun e hq => ⟨hk, hE⟩) fun q hk => ?_
  · have := hk.2.2.1 i hi
    simpa [-Int.pred_toNat, Sub.nenv, assoc, CV.I, CV.B, upsI, upsB, Seg.I, Seg.B, SC.I, SC.B, IE.den, BE.den] using this
  · refine Eq.trans (congrArg errOf ?_) hE
    exact recs_same rfl fun i _ => by simp [recAt, mkEv, -Int.pred_toNat, Sub.nenv, assoc, CV.I, CV.B, upsI, upsB, Seg.I, Seg.B, SC.I, SC.B, IE.den, BE.den]
  clear hE
  obtain ⟨hk, hE⟩ := hk
  refine Sat.callK (c := rRowsCon) rfl ⟨hk.1.2.1, Int.le_trans hk.2.1.2.1 (by decide)⟩ (fun u => xBT u ∧ xBR u) (fun e hq => ⟨hk, ?_⟩) fun q hk => ?_
  · obtain ⟨a1, a2, a3, a4⟩ := rr_callE hq (evs := recs mkEv (q.join 13 e) 4) (recs_same rfl fun i _ => by simp [recAt, mkEv, -Int.pred_toNat, Sub.nenv, assoc, CV.I, CV.B, upsI, upsB, Seg.I, Seg.B, SC.I, SC.B, IE.den, BE.den, Env.join])
    have a0 : (q.join 13 e).iv 17 = 1 := a1.trans hE
    exact ⟨a0, a2, a4 (by show (q.join 13 e).iv 17 ≠ 0; rw [a0]; decide)⟩
  clear hE
  obtain ⟨hk, hR⟩ := hk
  refine Sat.callK (c := ofCon) rfl ⟨hk.1.2.2, Int.le_trans hk.2.1.2.2 (by decide), fun i hi => ?_⟩ (fun u => xBT u ∧ xBR u ∧ OfAt u (recs mkRw u 8) 18 ∧ OkSl u 18) (fun e hq => ⟨hk, hR, of_at (rows := recs mkRw (q.join 18 e) 8) hq (recs_same rfl fun i _ => by simp [recAt, mkRw, -Int.pred_toNat, Sub.nenv, assoc, CV.I, CV.B, upsI, upsB, Seg.I, Seg.B, SC.I, SC.B, IE.den, BE.den, Env.join]), ?_⟩) fun q hk => ?_
  · have := hk.2.2.2 i hi
    simpa [-Int.pred_toNat, Sub.nenv, assoc, CV.I, CV.B, upsI, upsB, Seg.I, Seg.B, SC.I, SC.B, IE.den, BE.den] using this
  · refine (of_at (rows := recs mkRw (q.join 18 e) 8) hq (recs_same rfl fun i _ => by simp [recAt, mkRw, -Int.pred_toNat, Sub.nenv, assoc, CV.I, CV.B, upsI, upsB, Seg.I, Seg.B, SC.I, SC.B, IE.den, BE.den, Env.join])).ok fun hb => ?_
    exact of_six hq hb
  clear hR
  obtain ⟨hk, hR, hO, hO2⟩ := hk
  refine Sat.callK (c := rOfCon) rfl ⟨hk.1.2.2, Int.le_trans hk.2.1.2.2 (by decide)⟩ (fun u => xBT u ∧ xBR u ∧ (u.bv 22 = u.bv 27 ∧ recs mkEv u 18 = recs mkEv u 23) ∧ OkSl u 18 ∧ OkSl u 23) (fun e hq => ?_) fun q hk => ?_
  · have h2 := rof_at (rows := recs mkRw (q.join 23 e) 8) hq (recs_same rfl fun i _ => by simp [recAt, mkRw, -Int.pred_toNat, Sub.nenv, assoc, CV.I, CV.B, upsI, upsB, Seg.I, Seg.B, SC.I, SC.B, IE.den, BE.den, Env.join])
    obtain ⟨c1, c2, -⟩ := of_same (q := q.join 23 e) (M := 18) (N := 23) hO h2
    exact ⟨hk, hR, ⟨c1, c2⟩, hO2, h2.1⟩
  clear hR hO hO2
  obtain ⟨hk, hR, hO, hO2, hO3⟩ := hk
  refine Sat.callK (c := eventsCon) rfl ⟨hk.1.1, Int.le_trans hk.2.1.1 (by decide)⟩ (fun u => (xBT u ∧ xBR u ∧ (u.bv 22 = u.bv 27 ∧ recs mkEv u 18 = recs mkEv u 23) ∧ OkSl u 18 ∧ OkSl u 23) ∧ OkSl u 28 ∧ recs mkEv u 28 = (recs mkBt u 0).flatMap evsOf) (fun e hq => ⟨⟨hk, hR, hO, hO2, hO3⟩, events_at (bts := recs mkBt (q.join 28 e) 0) hq (recs_same rfl fun i _ => by simp [recAt, mkBt, -Int.pred_toNat, Sub.nenv, assoc, CV.I, CV.B, upsI, upsB, Seg.I, Seg.B, SC.I, SC.B, IE.den, BE.den, Env.join])⟩) fun q hk => ?_
  clear hR hO hO2 hO3
  obtain ⟨⟨hk, hR, hO, hO2, hO3⟩, g1, g2⟩ := hk
  refine Sat.callK (c := rEventsCon) rfl ⟨hk.1.1, Int.le_trans hk.2.1.1 (by decide)⟩ (fun u => (xBT u ∧ xBR u ∧ (u.bv 22 = u.bv 27 ∧ recs mkEv u 18 = recs mkEv u 23) ∧ OkSl u 18 ∧ OkSl u 23) ∧ (OkSl u 28 ∧ recs mkEv u 28 = (recs mkBt u 0).flatMap evsOf) ∧ OkSl u 32 ∧ recs mkEv u 32 = (recs mkBt u 0).flatMap evsOf) (fun e hq => ⟨⟨hk, hR, hO, hO2, hO3⟩, ⟨g1, g2⟩, events_at (bts := recs mkBt (q.join 32 e) 0) hq (recs_same rfl fun i _ => by simp [recAt, mkBt, -Int.pred_toNat, Sub.nenv, assoc, CV.I, CV.B, upsI, upsB, Seg.I, Seg.B, SC.I, SC.B, IE.den, BE.den, Env.join])⟩) fun q hk => ?_
  clear hR hO hO2 hO3 g1 g2
  obtain ⟨⟨hk, hR, hO, hO2, hO3⟩, ⟨g1, g2⟩, g3, g4⟩ := hk
  refine Sat.callK (c := alikeCon) rfl ⟨g1, g3⟩ (fun u => (xBT u ∧ xBR u ∧ (u.bv 22 = u.bv 27 ∧ recs mkEv u 18 = recs mkEv u 23) ∧ OkSl u 18 ∧ OkSl u 23) ∧ u.bv 36 = true) (fun e hq => ⟨⟨hk, hR, hO, hO2, hO3⟩, (alike_at (a := recs mkEv (q.join 36 e) 28) (b := recs mkEv (q.join 36 e) 32) hq (recs_same rfl fun i _ => by simp [recAt, mkEv, -Int.pred_toNat, Sub.nenv, assoc, CV.I, CV.B, upsI, upsB, Seg.I, Seg.B, SC.I, SC.B, IE.den, BE.den, Env.join]) (recs_same rfl fun i _ => by simp [recAt, mkEv, -Int.pred_toNat, Sub.nenv, assoc, CV.I, CV.B, upsI, upsB, Seg.I, Seg.B, SC.I, SC.B, IE.den, BE.den, Env.join])).2 ?_⟩) fun q hk => ?_
  · exact g2.trans g4.symm
  clear hR hO hO2 hO3 g1 g2 g3 g4
  obtain ⟨⟨hk, hR, hO, hO2, hO3⟩, hb⟩ := hk
  refine Sat.br (fun _ => ?_) (fun h => ?_)
  rotate_left
  · have h : q.bv 36 = false := h
    rw [hb] at h
    cases h
  clear hb
  refine Sat.callK (c := rSameCon) rfl ⟨⟨fun _ => rfl, Int.le_refl 0, Int.le_refl 0, by show (0 : Int) ≤ _; decide⟩, hR.2.1⟩ (fun u => (xBT u ∧ xBR u ∧ (u.bv 22 = u.bv 27 ∧ recs mkEv u 18 = recs mkEv u 23) ∧ OkSl u 18 ∧ OkSl u 23) ∧ u.bv 37 = true) (fun e hq => ⟨⟨hk, hR, hO, hO2, hO3⟩, (rsame_at (a := ([] : List Rw)) (b := recs mkRw (q.join 37 e) 13) hq (by simp [recs, -Int.pred_toNat, Sub.nenv, assoc, CV.I, CV.B, upsI, upsB, Seg.I, Seg.B, SC.I, SC.B, IE.den, BE.den]) (recs_same rfl fun i _ => by simp [recAt, mkRw, -Int.pred_toNat, Sub.nenv, assoc, CV.I, CV.B, upsI, upsB, Seg.I, Seg.B, SC.I, SC.B, IE.den, BE.den, Env.join])).2 ?_⟩) fun q hk => ?_
  · have h := hR.2.2
    show ([] : List Rw) = recs mkRw q 13
    simp [recs, h]
  clear hR hO hO2 hO3
  obtain ⟨⟨hk, hR, hO, hO2, hO3⟩, hb⟩ := hk
  refine Sat.br (fun _ => ?_) (fun h => ?_)
  rotate_left
  · have h : q.bv 37 = false := h
    rw [hb] at h
    cases h
  clear hb
  refine Sat.callK (c := codeCon 1 1) rfl trivial (fun u => xBT u ∧ xBR u ∧ (u.bv 22 = u.bv 27 ∧ recs mkEv u 18 = recs mkEv u 23) ∧ OkSl u 18 ∧ OkSl u 23) (fun _ _ => ⟨hk, hR, hO, hO2, hO3⟩) fun q hk => ?_
  clear hR hO hO2 hO3
  obtain ⟨hk, hR, hO, hO2, hO3⟩ := hk
  refine Sat.br (fun _ => ?_) (fun h => ?_)
  rotate_left
  · have h : decide ((1 : Int) = q.iv 17) = false := h
    rw [hR.1] at h
    exact absurd h (by decide)
  clear hR
  refine Sat.callK (c := alikeCon) rfl ⟨hO2, hO3⟩ (fun u => (xBT u ∧ (u.bv 22 = u.bv 27 ∧ recs mkEv u 18 = recs mkEv u 23)) ∧ u.bv 38 = true) (fun e hq => ⟨⟨hk, hO⟩, (alike_at (a := recs mkEv (q.join 38 e) 18) (b := recs mkEv (q.join 38 e) 23) hq (recs_same rfl fun i _ => by simp [recAt, mkEv, -Int.pred_toNat, Sub.nenv, assoc, CV.I, CV.B, upsI, upsB, Seg.I, Seg.B, SC.I, SC.B, IE.den, BE.den, Env.join]) (recs_same rfl fun i _ => by simp [recAt, mkEv, -Int.pred_toNat, Sub.nenv, assoc, CV.I, CV.B, upsI, upsB, Seg.I, Seg.B, SC.I, SC.B, IE.den, BE.den, Env.join])).2 ?_⟩) fun q hk => ?_
  · exact hO.2
  clear hO hO2 hO3
  obtain ⟨⟨hk, hO⟩, hb⟩ := hk
  refine Sat.br (fun h => ?_) (fun _ => ?_)
  · have h : (!(q.bv 38)) = true := h
    rw [hb] at h
    cases h
  clear hb
  refine Sat.br (fun _ => ?_) (fun h1 => ?_)
  · refine Sat.callK (c := selfCon) rfl trivial xBT (fun _ _ => hk) fun q hk => ?_
    exact xBTail_sat q hk
  · have h1 : ((q.bv 22 == q.bv 27) && !(q.bv 22)) = false := h1
    rw [hO.1, beq_self_eq_true, Bool.true_and] at h1
    refine Sat.br (fun _ => ?_) (fun h => ?_)
    · refine Sat.br (fun h => ?_) (fun _ => ?_)
      · have h : (!(q.bv 22)) = true := h
        rw [hO.1, h1] at h
        cases h
      · exact xBTail_sat q hk
    · have h : (q.bv 22 == q.bv 27) = false := h
      rw [hO.1, beq_self_eq_true] at h
      cases h
theorem xB_con : ConOK Tryd.prog lawX xBPre (lawPostG ss5 shX) :=
  con_ok tabOK (E := xBE) (cs := xBSem) rfl xBSem_ok schedOK rfl xB_run (by kernel_rfl) (fun ρ _ p hp => by cases hp) xB_sat
end Go.Proofs.YtjhnfmfajbghbaaDoor

set_option linter.unusedSimpArgs false
set_option linter.unusedVariables false
namespace Go.Proofs.YtjhnfmfajbghbaaDoor
open Go.Rex
noncomputable def xSE : Ex := { sched := sched, loops := [L7a, L7b], cons := [awakeCon, rRowsCon, ofCon, rOfCon, eventsCon, rEventsCon, alikeCon, rSameCon, selfCon, wholeCon, rWholeCon, equalCon, rowsBad 3, codeCon 3 5], fin := lawX }
def xSTail : Out :=
 .call 9 { lo := 0, lob := 0, iv := [(2, (.var 10)), (1, (.var 9))], bv := [(0, (.var 8))], ct := [(3, .up { r := 11, n1 := (.var 9), s1 := 10, ks := [.int .i64, .int .i64, .int .i64, .int .i64, .int .i64, .int .i64, .int .i64, .int .i64, .int .i64, .bool] } 0 [] (.lit 0))], bk := [(0, { blk := 12, i1 := (.lit 0), s1 := 10 })] } 39 <|
       .call 10 { lo := 0, lob := 0, iv := [(2, (.var 10)), (1, (.var 9))], bv := [(0, (.var 8))], ct := [(3, .up { r := 11, n1 := (.var 9), s1 := 10, ks := [.int .i64, .int .i64, .int .i64, .int .i64, .int .i64, .int .i64, .int .i64, .int .i64, .int .i64, .bool] } 0 [] (.lit 0))], bk := [(0, { blk := 12, i1 := (.lit 0), s1 := 10 })] } 43 <|
       .call 7 { lo := 0, lob := 0, iv := [(6, (.var 45)), (5, (.var 44)), (2, (.var 41)), (1, (.var 40))], bv := [(4, (.var 43)), (0, (.var 39))], ct := [(7, .up { r := 46, n1 := (.var 44), s1 := 10, ks := [.int .i64, .int .i64, .int .i64, .int .i64, .int .i64, .int .i64, .int .i64, .int .i64, .int .i64, .bool] } 0 [] (.lit 0)), (3, .up { r := 42, n1 := (.var 40), s1 := 10, ks := [.int .i64, .int .i64, .int .i64, .int .i64, .int .i64, .int .i64, .int .i64, .int .i64, .int .i64, .bool] } 0 [] (.lit 0))], bk := [(1, { blk := 20, i1 := (.lit 0), s1 := 10 }), (0, { blk := 19, i1 := (.lit 0), s1 := 10 })] } 47 <|
       .br (.not (.var 47))
       (.fin { lo := 12, lob := 13, bv := [(12, (.lit false))] })
       (.loop 48 { lo := 48, lob := 21, iv := [(48, (.lit 0))] } <|
        .ob (.or (.not (.var 8)) (.ieq (.var 9) (.lit 0))) <|
        .ob (.ile (.lit 0) (.var 9)) <|
        .br (.and (.ilt (.var 48) (.var 9)) (.ilt (.var 48) (.lit 20)))
        (.loop 49 { lo := 49, lob := 21, iv := [(49, (.lit 0))] } <|
         .br (.and (.ilt (.var 49) (.var 9)) (.ilt (.var 49) (.lit 20)))
         (.ob (.not (.var 8)) <|
          .ob (.ile (.lit 0) (.var 48)) <|
          .ob (.ile (.lit 0) (.var 49)) <|
          .ob (.inr .i64 (.add (.var 49) (.lit 1))) <|
          .back 0 { lo := 49, lob := 21, iv := [(49, (.add (.var 49) (.lit 1)))] })
         (.ob (.inr .i64 (.add (.var 48) (.lit 1))) <|
          .back 1 { lo := 48, lob := 21, iv := [(48, (.add (.var 48) (.lit 1)))] }))
        (.call 11 { lo := 0, lob := 0, iv := [(6, (.lit 0)), (5, (.lit 0)), (2, (.var 10)), (1, (.var 9))], bv := [(4, (.lit true)), (0, (.var 8))], ct := [(3, .up { r := 11, n1 := (.var 9), s1 := 10, ks := [.int .i64, .int .i64, .int .i64, .int .i64, .int .i64, .int .i64, .int .i64, .int .i64, .int .i64, .bool] } 0 [] (.lit 0))], bk := [(0, { blk := 12, i1 := (.lit 0), s1 := 10 })], nb := [1] } 49 <|
         .call 7 { lo := 0, lob := 0, iv := [(6, (.lit 0)), (5, (.lit 0)), (2, (.var 10)), (1, (.var 9))], bv := [(4, (.lit true)), (0, (.var 8))], ct := [(3, .up { r := 11, n1 := (.var 9), s1 := 10, ks := [.int .i64, .int .i64, .int .i64, .int .i64, .int .i64, .int .i64, .int .i64, .int .i64, .int .i64, .bool] } 0 [] (.lit 0))], bk := [(0, { blk := 12, i1 := (.lit 0), s1 := 10 })], nb := [1] } 50 <|
         .br (.beq (.var 49) (.var 50))
         (.call 11 { lo := 0, lob := 0, iv := [(6, (.var 10)), (5, (.var 9)), (2, (.var 10)), (1, (.var 9))], bv := [(4, (.var 8)), (0, (.var 8))], ct := [(7, .up { r := 11, n1 := (.var 9), s1 := 10, ks := [.int .i64, .int .i64, .int .i64, .int .i64, .int .i64, .int .i64, .int .i64, .int .i64, .int .i64, .bool] } 0 [] (.lit 0)), (3, .up { r := 11, n1 := (.var 9), s1 := 10, ks := [.int .i64, .int .i64, .int .i64, .int .i64, .int .i64, .int .i64, .int .i64, .int .i64, .int .i64, .bool] } 0 [] (.lit 0))], bk := [(1, { blk := 12, i1 := (.lit 0), s1 := 10 }), (0, { blk := 12, i1 := (.lit 0), s1 := 10 })] } 51 <|
          .fin { lo := 12, lob := 13, bv := [(12, (.var 51))] })
         (.fin { lo := 12, lob := 13, bv := [(12, (.lit false))] })))
def xSOut : Out :=
.call 0 { lo := 0, lob := 0, bk := [(1, { blk := 3 }), (0, { blk := 2 })] } 12 <|
 .ob (.or (.not (.var 0)) (.ieq (.var 1) (.lit 0))) <|
 .ob (.ile (.lit 0) (.var 1)) <|
 .ob (.or (.ilt (.lit 200) (.var 1)) (.or (.not (.var 4)) (.ieq (.var 5) (.lit 0)))) <|
 .ob (.or (.ilt (.lit 200) (.var 1)) (.ile (.lit 0) (.var 5))) <|
 .ob (.or (.or (.ilt (.lit 200) (.var 1)) (.ilt (.lit 200) (.var 5))) (.or (.not (.var 8)) (.ieq (.var 9) (.lit 0)))) <|
 .ob (.or (.or (.ilt (.lit 200) (.var 1)) (.ilt (.lit 200) (.var 5))) (.ile (.lit 0) (.var 9))) <|
 .br (.or (.or (.ilt (.lit 200) (.var 1)) (.ilt (.lit 200) (.var 5))) (.ilt (.lit 200) (.var 9)))
 (.fin { lo := 12, lob := 13, bv := [(12, (.lit true))] })
 (.call 12 { lo := 0, lob := 0, iv := [(2, (.var 6)), (1, (.var 5))], bv := [(0, (.var 4))], ct := [(3, .up { r := 7, n1 := (.var 5), s1 := 8, ks := [.int .i64, .bool, .int .i64, .int .i64, .int .i64, .int .i64, .int .i64, .int .i64] } 0 [] (.lit 0))], bk := [(3, { blk := 3 }), (2, { blk := 2 }), (1, { blk := 1 }), (0, { blk := 0 }), (4, { blk := 11, i1 := (.lit 0), s1 := 8 })] } 12 <|
  .call 1 { lo := 0, lob := 0, iv := [(2, (.var 6)), (1, (.var 5))], bv := [(0, (.var 4))], ct := [(3, .up { r := 7, n1 := (.var 5), s1 := 8, ks := [.int .i64, .bool, .int .i64, .int .i64, .int .i64, .int .i64, .int .i64, .int .i64] } 0 [] (.lit 0))], bk := [(0, { blk := 11, i1 := (.lit 0), s1 := 8 })] } 13 <|
  .call 2 { lo := 0, lob := 0, iv := [(2, (.var 10)), (1, (.var 9))], bv := [(0, (.var 8))], ct := [(3, .up { r := 11, n1 := (.var 9), s1 := 10, ks := [.int .i64, .int .i64, .int .i64, .int .i64, .int .i64, .int .i64, .int .i64, .int .i64, .int .i64, .bool] } 0 [] (.lit 0))], bk := [(3, { blk := 3 }), (2, { blk := 2 }), (1, { blk := 1 }), (0, { blk := 0 }), (4, { blk := 12, i1 := (.lit 0), s1 := 10 })] } 18 <|
  .call 3 { lo := 0, lob := 0, iv := [(2, (.var 10)), (1, (.var 9))], bv := [(0, (.var 8))], ct := [(3, .up { r := 11, n1 := (.var 9), s1 := 10, ks := [.int .i64, .int .i64, .int .i64, .int .i64, .int .i64, .int .i64, .int .i64, .int .i64, .int .i64, .bool] } 0 [] (.lit 0))], bk := [(0, { blk := 12, i1 := (.lit 0), s1 := 10 })] } 23 <|
  .call 4 { lo := 0, lob := 0, iv := [(2, (.var 2)), (1, (.var 1))], bv := [(0, (.var 0))], ct := [(3, .up { r := 3, n1 := (.var 1), s1 := 10, ks := [.int .i64, .bool, .int .i64, .int .i64, .int .i64, .int .i64, .bool, .bool, .int .i64, .int .i64] } 0 [] (.lit 0))], bk := [(0, { blk := 10, i1 := (.lit 0), s1 := 10 })] } 28 <|
  .call 5 { lo := 0, lob := 0, iv := [(2, (.var 2)), (1, (.var 1))], bv := [(0, (.var 0))], ct := [(3, .up { r := 3, n1 := (.var 1), s1 := 10, ks := [.int .i64, .bool, .int .i64, .int .i64, .int .i64, .int .i64, .bool, .bool, .int .i64, .int .i64] } 0 [] (.lit 0))], bk := [(0, { blk := 10, i1 := (.lit 0), s1 := 10 })] } 32 <|
  .call 6 { lo := 0, lob := 0, iv := [(6, (.var 34)), (5, (.var 33)), (2, (.var 30)), (1, (.var 29))], bv := [(4, (.var 32)), (0, (.var 28))], ct := [(7, .up { r := 35, n1 := (.var 33), s1 := 8, ks := [.int .i64, .bool, .int .i64, .int .i64, .int .i64, .int .i64, .int .i64, .int .i64] } 0 [] (.lit 0)), (3, .up { r := 31, n1 := (.var 29), s1 := 8, ks := [.int .i64, .bool, .int .i64, .int .i64, .int .i64, .int .i64, .int .i64, .int .i64] } 0 [] (.lit 0))], bk := [(1, { blk := 18, i1 := (.lit 0), s1 := 8 }), (0, { blk := 17, i1 := (.lit 0), s1 := 8 })] } 36 <|
  .br (.var 36)
  (.call 7 { lo := 0, lob := 0, iv := [(6, (.var 15)), (5, (.var 14)), (2, (.lit 0)), (1, (.lit 0))], bv := [(4, (.var 13)), (0, (.lit true))], ct := [(7, .up { r := 16, n1 := (.var 14), s1 := 10, ks := [.int .i64, .int .i64, .int .i64, .int .i64, .int .i64, .int .i64, .int .i64, .int .i64, .int .i64, .bool] } 0 [] (.lit 0))], bk := [(1, { blk := 14, i1 := (.lit 0), s1 := 10 })], nb := [0] } 37 <|
   .br (.var 37)
   (.call 13 { lo := 0, lob := 0, iv := [(0, (.var 12))], bk := [(9, { blk := 9 }), (8, { blk := 8 }), (7, { blk := 7 }), (6, { blk := 6 }), (5, { blk := 5 }), (4, { blk := 4 }), (3, { blk := 3 }), (2, { blk := 2 }), (1, { blk := 1 }), (0, { blk := 0 }), (10, { blk := 13 })] } 38 <|
    .br (.ieq (.lit 5) (.var 17))
    (.call 6 { lo := 0, lob := 0, iv := [(6, (.var 25)), (5, (.var 24)), (2, (.var 20)), (1, (.var 19))], bv := [(4, (.var 23)), (0, (.var 18))], ct := [(7, .up { r := 26, n1 := (.var 24), s1 := 8, ks := [.int .i64, .bool, .int .i64, .int .i64, .int .i64, .int .i64, .int .i64, .int .i64] } 0 [] (.lit 0)), (3, .up { r := 21, n1 := (.var 19), s1 := 8, ks := [.int .i64, .bool, .int .i64, .int .i64, .int .i64, .int .i64, .int .i64, .int .i64] } 0 [] (.lit 0))], bk := [(1, { blk := 16, i1 := (.lit 0), s1 := 8 }), (0, { blk := 15, i1 := (.lit 0), s1 := 8 })] } 38 <|
     .br (.not (.var 38))
     (.fin { lo := 12, lob := 13, bv := [(12, (.lit false))] })
     (.br (.and (.beq (.var 22) (.var 27)) (.not (.var 22)))
      (.call 8 { lo := 0, lob := 0, bk := [(0, { blk := 1 })] } 39 <|
       xSTail)
      (.br (.beq (.var 22) (.var 27))
       (.br (.not (.var 22))
        (.stop { nv := 39, kn := [((.var 22), false), ((.beq (.var 22) (.var 27)), true), ((.and (.beq (.var 22) (.var 27)) (.not (.var 22))), false), ((.var 38), true), ((.ieq (.lit 5) (.var 17)), true), ((.var 37), true), ((.var 36), true), ((.ilt (.lit 200) (.var 1)), false), ((.ilt (.lit 200) (.var 5)), false), ((.ilt (.lit 200) (.var 9)), false), ((.or (.or (.ilt (.lit 200) (.var 1)) (.ilt (.lit 200) (.var 5))) (.ile (.lit 0) (.var 9))), true), ((.or (.or (.ilt (.lit 200) (.var 1)) (.ilt (.lit 200) (.var 5))) (.or (.not (.var 8)) (.ieq (.var 9) (.lit 0)))), true), ((.or (.ilt (.lit 200) (.var 1)) (.ile (.lit 0) (.var 5))), true), ((.or (.ilt (.lit 200) (.var 1)) (.or (.not (.var 4)) (.ieq (.var 5) (.lit 0)))), true), ((.ile (.lit 0) (.var 1)), true), ((.or (.not (.var 0)) (.ieq (.var 1) (.lit 0))), true)], gl := [(0, 0), (1000000, 1), (1, 2), (1000001, 3), (2, 4), (1000002, 5), (3, 6), (1000003, 7), (4, 8), (1000004, 9)], hp := [{ t := 26, cs := [.iface 85 (.ptr { blk := 1 })], ro := true }, { t := 500111, cs := [.hole], ro := true }, { t := 26, cs := [.iface 85 (.ptr { blk := 3 })], ro := true }, { t := 500111, cs := [.hole], ro := true }, { t := 26, cs := [.iface 85 (.ptr { blk := 5 })], ro := true }, { t := 500111, cs := [.hole], ro := true }, { t := 26, cs := [.iface 85 (.ptr { blk := 7 })], ro := true }, { t := 500111, cs := [.hole], ro := true }, { t := 26, cs := [.iface 85 (.ptr { blk := 9 })], ro := true }, { t := 500111, cs := [.hole], ro := true }, { t := 48, segs := [{ r := 3, n1 := (.var 1), s1 := 10, ks := [.int .i64, .bool, .int .i64, .int .i64, .int .i64, .int .i64, .bool, .bool, .int .i64, .int .i64] }], ro := true, nl := (.var 0) }, { t := 44, segs := [{ r := 7, n1 := (.var 5), s1 := 8, ks := [.int .i64, .bool, .int .i64, .int .i64, .int .i64, .int .i64, .int .i64, .int .i64] }], ro := true, nl := (.var 4) }, { t := 40, segs := [{ r := 11, n1 := (.var 9), s1 := 10, ks := [.int .i64, .int .i64, .int .i64, .int .i64, .int .i64, .int .i64, .int .i64, .int .i64, .int .i64, .bool] }], ro := true, nl := (.var 8) }, { t := 73, cs := [.int .i64 (.var 12), .iface 85 (.ptr { blk := 3 })], own := true }, { t := 40, segs := [{ r := 16, n1 := (.var 14), s1 := 10, ks := [.int .i64, .int .i64, .int .i64, .int .i64, .int .i64, .int .i64, .int .i64, .int .i64, .int .i64, .bool] }], cap := some ((.var 15), 10), own := true, nl := (.var 13) }, { t := 44, segs := [{ r := 21, n1 := (.var 19), s1 := 8, ks := [.int .i64, .bool, .int .i64, .int .i64, .int .i64, .int .i64, .int .i64, .int .i64] }], cap := some ((.var 20), 8), own := true, nl := (.var 18) }, { t := 44, segs := [{ r := 26, n1 := (.var 24), s1 := 8, ks := [.int .i64, .bool, .int .i64, .int .i64, .int .i64, .int .i64, .int .i64, .int .i64] }], cap := some ((.var 25), 8), own := true, nl := (.var 23) }, { t := 44, segs := [{ r := 31, n1 := (.var 29), s1 := 8, ks := [.int .i64, .bool, .int .i64, .int .i64, .int .i64, .int .i64, .int .i64, .int .i64] }], cap := some ((.var 30), 8), own := true, nl := (.var 28) }, { t := 44, segs := [{ r := 35, n1 := (.var 33), s1 := 8, ks := [.int .i64, .bool, .int .i64, .int .i64, .int .i64, .int .i64, .int .i64, .int .i64] }], cap := some ((.var 34), 8), own := true, nl := (.var 32) }], top := { f := 7, fr := [(98, .tup []), (97, .tup []), (96, .tup []), (95, .tup []), (94, .tup []), (93, .tup []), (92, .tup []), (91, .tup []), (90, .tup []), (89, .tup []), (88, .tup []), (87, .gd (.and (.beq (.var 22) (.var 27)) (.not (.var 22))) (.one (.iface 85 (.ptr { blk := 1 })))), (86, .gd (.and (.beq (.var 22) (.var 27)) (.not (.var 22))) (.one (.iface 85 (.ptr { blk := 1 })))), (85, .gd (.beq (.var 22) (.var 27)) (.one (.bool (.not (.var 22))))), (84, .gd (.beq (.var 22) (.var 27)) (.one (.bool (.not (.var 22))))), (83, .gd (.beq (.var 22) (.var 27)) (.one (.ifn (.var 22) (.iface 85 (.ptr { blk := 1 }))))), (82, .w (.one (.bool (.not (.beq (.var 22) (.var 27)))))), (81, .w (.one (.bool (.not (.beq (.var 22) (.var 27)))))), (80, .gd (.var 38) (.one (.bool (.not (.beq (.var 22) (.var 27)))))), (79, .gd (.var 38) (.one (.bool (.var 27)))), (78, .gd (.var 38) (.one (.bool (.var 22)))), (77, .gd (.var 38) (.one (.ifn (.var 22) (.iface 85 (.ptr { blk := 1 }))))), (76, .w (.one (.bool (.not (.var 38))))), (75, .w (.one (.bool (.not (.var 38))))), (74, .w (.one (.bool (.not (.var 38))))), (73, .w (.one (.bool (.var 38)))), (72, .gd (.ieq (.lit 5) (.var 17)) (.one (.sln (.var 23) { blk := 16, i1 := (.lit 0), s1 := 8 } (.var 24) (.var 25)))), (71, .gd (.ieq (.lit 5) (.var 17)) (.one (.sln (.var 18) { blk := 15, i1 := (.lit 0), s1 := 8 } (.var 19) (.var 20)))), (70, .w (.one (.bool (.not (.ieq (.lit 5) (.var 17)))))), (69, .w (.one (.bool (.not (.ieq (.lit 5) (.var 17)))))), (68, .w (.one (.bool (.not (.ieq (.lit 5) (.var 17)))))), (67, .w (.one (.int .i64 (.var 17)))), (66, .w (.one (.int .i64 (.lit 5)))), (65, .gd (.var 37) (.one (.iface 71 (.ptr { blk := 13 })))), (64, .w (.one (.bool (.not (.var 37))))), (63, .w (.one (.bool (.not (.var 37))))), (62, .w (.one (.bool (.not (.var 37))))), (61, .w (.one (.bool (.var 37)))), (60, .gd (.var 36) (.one (.sln (.var 13) { blk := 14, i1 := (.lit 0), s1 := 10 } (.var 14) (.var 15)))), (59, .gd (.var 36) (.one (.nilsl))), (58, .w (.one (.bool (.not (.var 36))))), (57, .w (.one (.bool (.not (.var 36))))), (56, .w (.one (.bool (.var 36)))), (55, .w (.one (.sln (.var 32) { blk := 18, i1 := (.lit 0), s1 := 8 } (.var 33) (.var 34)))), (54, .w (.one (.sln (.var 0) { blk := 10, i1 := (.lit 0), s1 := 10 } (.var 1) (.var 2)))), (53, .w (.one (.sln (.var 28) { blk := 17, i1 := (.lit 0), s1 := 8 } (.var 29) (.var 30)))), (52, .w (.one (.sln (.var 0) { blk := 10, i1 := (.lit 0), s1 := 10 } (.var 1) (.var 2)))), (14, .w (.one (.bool (.var 27)))), (13, .w (.one (.sln (.var 23) { blk := 16, i1 := (.lit 0), s1 := 8 } (.var 24) (.var 25)))), (51, .w (.one (.bool (.var 27)))), (50, .w (.one (.sln (.var 23) { blk := 16, i1 := (.lit 0), s1 := 8 } (.var 24) (.var 25)))), (47, .tup [.one (.sln (.var 23) { blk := 16, i1 := (.lit 0), s1 := 8 } (.var 24) (.var 25)), .one (.bool (.var 27))]), (49, .tup [.one (.sln (.var 23) { blk := 16, i1 := (.lit 0), s1 := 8 } (.var 24) (.var 25)), .one (.bool (.var 27))]), (48, .w (.one (.sln (.var 8) { blk := 12, i1 := (.lit 0), s1 := 10 } (.var 9) (.var 10)))), (12, .w (.one (.ifn (.var 22) (.iface 85 (.ptr { blk := 1 }))))), (11, .w (.one (.sln (.var 18) { blk := 15, i1 := (.lit 0), s1 := 8 } (.var 19) (.var 20)))), (46, .w (.one (.ifn (.var 22) (.iface 85 (.ptr { blk := 1 }))))), (45, .w (.one (.sln (.var 18) { blk := 15, i1 := (.lit 0), s1 := 8 } (.var 19) (.var 20)))), (42, .tup [.one (.sln (.var 18) { blk := 15, i1 := (.lit 0), s1 := 8 } (.var 19) (.var 20)), .one (.ifn (.var 22) (.iface 85 (.ptr { blk := 1 })))]), (44, .tup [.one (.sln (.var 18) { blk := 15, i1 := (.lit 0), s1 := 8 } (.var 19) (.var 20)), .one (.ifn (.var 22) (.iface 85 (.ptr { blk := 1 })))]), (43, .w (.one (.sln (.var 8) { blk := 12, i1 := (.lit 0), s1 := 10 } (.var 9) (.var 10)))), (10, .w (.one (.int .i64 (.var 17)))), (9, .w (.one (.sln (.var 13) { blk := 14, i1 := (.lit 0), s1 := 10 } (.var 14) (.var 15)))), (41, .w (.one (.int .i64 (.var 17)))), (40, .w (.one (.sln (.var 13) { blk := 14, i1 := (.lit 0), s1 := 10 } (.var 14) (.var 15)))), (37, .tup [.one (.sln (.var 13) { blk := 14, i1 := (.lit 0), s1 := 10 } (.var 14) (.var 15)), .one (.int .i64 (.var 17))]), (39, .tup [.one (.sln (.var 13) { blk := 14, i1 := (.lit 0), s1 := 10 } (.var 14) (.var 15)), .one (.int .i64 (.var 17))]), (38, .w (.one (.sln (.var 4) { blk := 11, i1 := (.lit 0), s1 := 8 } (.var 5) (.var 6)))), (8, .w (.one (.iface 71 (.ptr { blk := 13 })))), (7, .w (.one (.nilsl))), (36, .w (.one (.iface 71 (.ptr { blk := 13 })))), (35, .w (.one (.nilsl))), (32, .tup [.one (.nilsl), .one (.iface 71 (.ptr { blk := 13 }))]), (34, .tup [.one (.nilsl), .one (.iface 71 (.ptr { blk := 13 }))]), (33, .w (.one (.sln (.var 4) { blk := 11, i1 := (.lit 0), s1 := 8 } (.var 5) (.var 6)))), (31, .w (.one (.bool (.or (.or (.ilt (.lit 200) (.var 1)) (.ilt (.lit 200) (.var 5))) (.ilt (.lit 200) (.var 9)))))), (30, .gd (.not (.or (.ilt (.lit 200) (.var 1)) (.ilt (.lit 200) (.var 5)))) (.one (.bool (.ilt (.lit 200) (.var 9))))), (29, .gd (.not (.or (.ilt (.lit 200) (.var 1)) (.ilt (.lit 200) (.var 5)))) (.one (.int .i64 (.var 9)))), (28, .gd (.not (.or (.ilt (.lit 200) (.var 1)) (.ilt (.lit 200) (.var 5)))) (.one (.sln (.var 8) { blk := 12, i1 := (.lit 0), s1 := 10 } (.var 9) (.var 10)))), (27, .w (.one (.bool (.or (.ilt (.lit 200) (.var 1)) (.ilt (.lit 200) (.var 5)))))), (26, .w (.one (.bool (.or (.ilt (.lit 200) (.var 1)) (.ilt (.lit 200) (.var 5)))))), (25, .gd (.not (.ilt (.lit 200) (.var 1))) (.one (.bool (.ilt (.lit 200) (.var 5))))), (24, .gd (.not (.ilt (.lit 200) (.var 1))) (.one (.int .i64 (.var 5)))), (23, .gd (.not (.ilt (.lit 200) (.var 1))) (.one (.sln (.var 4) { blk := 11, i1 := (.lit 0), s1 := 8 } (.var 5) (.var 6)))), (22, .w (.one (.bool (.ilt (.lit 200) (.var 1))))), (21, .w (.one (.bool (.ilt (.lit 200) (.var 1))))), (20, .w (.one (.int .i64 (.var 1)))), (19, .w (.one (.sln (.var 0) { blk := 10, i1 := (.lit 0), s1 := 10 } (.var 1) (.var 2)))), (18, .w (.one (.bool (.lit false)))), (17, .w (.one (.bool (.lit true)))), (6, .w (.one (.bool (.lit false)))), (0, .w (.one (.sln (.var 0) { blk := 10, i1 := (.lit 0), s1 := 10 } (.var 1) (.var 2)))), (1, .w (.one (.sln (.var 4) { blk := 11, i1 := (.lit 0), s1 := 8 } (.var 5) (.var 6)))), (2, .w (.one (.sln (.var 8) { blk := 12, i1 := (.lit 0), s1 := 10 } (.var 9) (.var 10))))], cur := .reg [1, 1, 1, 1, 1, 1, 1, 0, 0] 47, todo := [.code [1, 1, 1, 1, 1, 1, 1, 0, 1], .code [1, 1, 1, 1, 1, 1, 1, 1]] }, stk := [] })
        (xSTail))
       (.fin { lo := 12, lob := 13, bv := [(12, (.lit false))] }))))
    (.fin { lo := 12, lob := 13, bv := [(12, (.lit false))] }))
   (.fin { lo := 12, lob := 13, bv := [(12, (.lit false))] }))
  (.fin { lo := 12, lob := 13, bv := [(12, (.lit false))] }))
theorem xS_run : exec tab xSE 8000 [] (cfg0 7 12 [] (sentGl ss5 0) lawX.hp lawX.args) = xSOut := by kernel_rfl
def xSSem : CSem := [(awakeCon, yesPre, yesPre), (rRowsCon, rrPre, rrPost), (ofCon, ofPre, ofPost), (rOfCon, rofPre, rofPost), (eventsCon, eventsPre, eventsPost), (rEventsCon, eventsPre, eventsPost), (alikeCon, alikePre, alikePost), (rSameCon, rsamePre, rsamePost), (selfCon, yesPre, yesPre), (wholeCon, wholePre, wholePost), (rWholeCon, wholePre, wholePost), (equalCon, equalPre, equalPost), (rowsBad 3, rowsPreE 5, yesPre), (codeCon 3 5, yesPre, yesPre)]
theorem xSSem_ok : ∀ k pre post, (k, pre, post) ∈ xSSem → conWf k = true ∧ ConOK Tryd.prog k pre post := by
  intro k pre post h
  simp only [xSSem, List.mem_cons, List.not_mem_nil, or_false, Prod.mk.injEq] at h
  rcases h with ⟨rfl, rfl, rfl⟩ | ⟨rfl, rfl, rfl⟩ | ⟨rfl, rfl, rfl⟩ | ⟨rfl, rfl, rfl⟩ | ⟨rfl, rfl, rfl⟩ | ⟨rfl, rfl, rfl⟩ | ⟨rfl, rfl, rfl⟩ | ⟨rfl, rfl, rfl⟩ | ⟨rfl, rfl, rfl⟩ | ⟨rfl, rfl, rfl⟩ | ⟨rfl, rfl, rfl⟩ | ⟨rfl, rfl, rfl⟩ | ⟨rfl, rfl, rfl⟩ | ⟨rfl, rfl, rfl⟩
  · exact ⟨by kernel_rfl, awake_con⟩
  · exact ⟨by kernel_rfl, rrows_con⟩
  · exact ⟨by kernel_rfl, of_con⟩
  · exact ⟨by kernel_rfl, rof_con⟩
  · exact ⟨by kernel_rfl, events_con⟩
  · exact ⟨by kernel_rfl, revents_con⟩
  · exact ⟨by kernel_rfl, alike_con⟩
  · exact ⟨by kernel_rfl, rsame_con⟩
  · exact ⟨by kernel_rfl, self_con⟩
  · exact ⟨by kernel_rfl, whole_con⟩
  · exact ⟨by kernel_rfl, rwhole_con⟩
  · exact ⟨by kernel_rfl, equal_con⟩
  · exact ⟨by kernel_rfl, rowsS_con⟩
  · exact ⟨by kernel_rfl, code_con 4 (by decide)⟩
def xST (q : Env) : Prop := xBase q
set_option maxHeartbeats 2000000 in
theorem xSTail_sat (q : Env) (hk : xST q) {Γ : List (Env → Prop)} : Sat (lawPostG ss5 shX) xSSem Γ q xSTail := by
  unfold xSTail
  refine Sat.callK (c := wholeCon) rfl ⟨hk.1.2.2, Int.le_trans hk.2.1.2.2 (by decide)⟩ (fun u => xST u ∧ OkSl u 39 ∧ recs mkRw u 39 = wholeOf (recs mkRw u 8)) (fun e hq => ⟨hk, whole_at (rows := recs mkRw (q.join 39 e) 8) hq (recs_same rfl fun i _ => by simp [recAt, mkRw, -Int.pred_toNat, Sub.nenv, assoc, CV.I, CV.B, upsI, upsB, Seg.I, Seg.B, SC.I, SC.B, IE.den, BE.den, Env.join])⟩) fun q hk => ?_
  obtain ⟨hk, g1, g2⟩ := hk
  refine Sat.callK (c := rWholeCon) rfl ⟨hk.1.2.2, Int.le_trans hk.2.1.2.2 (by decide)⟩ (fun u => xST u ∧ (OkSl u 39 ∧ recs mkRw u 39 = wholeOf (recs mkRw u 8)) ∧ OkSl u 43 ∧ recs mkRw u 43 = wholeOf (recs mkRw u 8)) (fun e hq => ⟨hk, ⟨g1, g2⟩, whole_at (rows := recs mkRw (q.join 43 e) 8) hq (recs_same rfl fun i _ => by simp [recAt, mkRw, -Int.pred_toNat, Sub.nenv, assoc, CV.I, CV.B, upsI, upsB, Seg.I, Seg.B, SC.I, SC.B, IE.den, BE.den, Env.join])⟩) fun q hk => ?_
  clear g1 g2
  obtain ⟨hk, ⟨g1, g2⟩, g3, g4⟩ := hk
  refine Sat.callK (c := rSameCon) rfl ⟨g1, g3⟩ (fun u => xST u ∧ u.bv 47 = true) (fun e hq => ⟨hk, (rsame_at (a := recs mkRw (q.join 47 e) 39) (b := recs mkRw (q.join 47 e) 43) hq (recs_same rfl fun i _ => by simp [recAt, mkRw, -Int.pred_toNat, Sub.nenv, assoc, CV.I, CV.B, upsI, upsB, Seg.I, Seg.B, SC.I, SC.B, IE.den, BE.den, Env.join]) (recs_same rfl fun i _ => by simp [recAt, mkRw, -Int.pred_toNat, Sub.nenv, assoc, CV.I, CV.B, upsI, upsB, Seg.I, Seg.B, SC.I, SC.B, IE.den, BE.den, Env.join])).2 ?_⟩) fun q hk => ?_
  · exact g2.trans g4.symm
  clear g1 g2 g3 g4
  obtain ⟨hk, hb⟩ := hk
  refine Sat.br (fun h => ?_) (fun _ => ?_)
  · have h : (!(q.bv 47)) = true := h
    rw [hb] at h
    cases h
  clear hb
  refine Sat.loopK (fun r => 0 ≤ r.iv 48 ∧ r.iv 48 ≤ r.iv 9) (fun r => (r.iv 9 - r.iv 48).toNat) xST ⟨Int.le_refl 0, hk.1.2.2.2.1⟩ (fun _ => hk) fun r hk hI => ?_
  replace hI : 0 ≤ r.iv 48 ∧ r.iv 48 ≤ r.iv 9 := hI
  rw [show (r.num.iv 9 - r.num.iv 48).toNat = (r.iv 9 - r.iv 48).toNat from rfl]
  refine Sat.ob (nilOb hk.1.2.2) (Sat.ob (decide_eq_true hk.1.2.2.2.1) (Sat.br (fun hlt => ?_) (fun _ => ?_)))
  · replace hlt : r.iv 48 < r.iv 9 ∧ r.iv 48 < 20 := by simpa only [D.le, D.lef, D.lt, D.ltf, D.eq, D.eqf, D.not, D.notf, D.and, D.andf, D.or, D.orf, D.inr, D.var, D.lit, D.cellB, D.beq, D.beqf, D.litI, D.varI, D.add, D.sub, D.mul, D.min, D.max, D.cellI, D.i64min, D.i64max, Int.toNat_zero] using hlt
    refine Sat.loopK (fun r => 0 ≤ r.iv 49) (fun r => (r.iv 9 - r.iv 49).toNat) (fun s => xST s ∧ (0 ≤ s.iv 48 ∧ s.iv 48 < s.iv 9 ∧ s.iv 48 < 20) ∧ (s.iv 9 - (s.iv 48 + 1)).toNat < (r.iv 9 - r.iv 48).toNat) (Int.le_refl 0) (fun _ => ⟨hk, ⟨hI.1, hlt⟩, by show (r.iv 9 - (r.iv 48 + 1)).toNat < _; omega⟩) fun s hs hJ => ?_
    obtain ⟨hk, hi, hm⟩ := hs
    replace hJ : 0 ≤ s.iv 49 := hJ
    rw [show (s.num.iv 9 - s.num.iv 49).toNat = (s.iv 9 - s.iv 49).toNat from rfl]
    refine Sat.br (fun hl2 => ?_) (fun _ => ?_)
    · replace hl2 : s.iv 49 < s.iv 9 ∧ s.iv 49 < 20 := by simpa only [D.le, D.lef, D.lt, D.ltf, D.eq, D.eqf, D.not, D.notf, D.and, D.andf, D.or, D.orf, D.inr, D.var, D.lit, D.cellB, D.beq, D.beqf, D.litI, D.varI, D.add, D.sub, D.mul, D.min, D.max, D.cellI, D.i64min, D.i64max, Int.toNat_zero] using hl2
      refine Sat.ob (nilLt hk.1.2.2 (by simp only [Nat.reduceAdd]; omega)) (Sat.ob (decide_eq_true hi.1) (Sat.ob (decide_eq_true hJ) (Sat.ob (by simp only [D.le, D.lef, D.lt, D.ltf, D.eq, D.eqf, D.not, D.notf, D.and, D.andf, D.or, D.orf, D.inr, D.var, D.lit, D.cellB, D.beq, D.beqf, D.litI, D.varI, D.add, D.sub, D.mul, D.min, D.max, D.cellI, D.i64min, D.i64max, Int.toNat_zero]; omega) (Sat.back rfl ⟨?_, ?_⟩))))
      · show 0 ≤ s.iv 49 + 1
        omega
      · show (s.iv 9 - (s.iv 49 + 1)).toNat < (s.iv 9 - s.iv 49).toNat
        omega
    · refine Sat.ob (by simp only [D.le, D.lef, D.lt, D.ltf, D.eq, D.eqf, D.not, D.notf, D.and, D.andf, D.or, D.orf, D.inr, D.var, D.lit, D.cellB, D.beq, D.beqf, D.litI, D.varI, D.add, D.sub, D.mul, D.min, D.max, D.cellI, D.i64min, D.i64max, Int.toNat_zero]; omega) (Sat.back rfl ⟨⟨?_, ?_⟩, hm⟩)
      · show 0 ≤ s.iv 48 + 1
        omega
      · show s.iv 48 + 1 ≤ s.iv 9
        omega
  clear hI
  refine Sat.callK (c := equalCon) rfl ⟨hk.1.2.2, ⟨fun _ => rfl, Int.le_refl 0, Int.le_refl 0, by show (0 : Int) ≤ _; decide⟩⟩ (fun u => xST u ∧ (u.bv 49 = true ↔ recs mkRw u 8 = ([] : List Rw))) (fun e hq => ⟨hk, equal_at (a := recs mkRw (r.join 49 e) 8) (b := ([] : List Rw)) hq (recs_same rfl fun i _ => by simp [recAt, mkRw, -Int.pred_toNat, Sub.nenv, assoc, CV.I, CV.B, upsI, upsB, Seg.I, Seg.B, SC.I, SC.B, IE.den, BE.den, Env.join]) (by simp [recs, -Int.pred_toNat, Sub.nenv, assoc, CV.I, CV.B, upsI, upsB, Seg.I, Seg.B, SC.I, SC.B, IE.den, BE.den])⟩) fun q hk => ?_
  obtain ⟨hk, h1⟩ := hk
  refine Sat.callK (c := rSameCon) rfl ⟨hk.1.2.2, ⟨fun _ => rfl, Int.le_refl 0, Int.le_refl 0, by show (0 : Int) ≤ _; decide⟩⟩ (fun u => xST u ∧ (u.bv 49 = true ↔ recs mkRw u 8 = ([] : List Rw)) ∧ (u.bv 50 = true ↔ recs mkRw u 8 = ([] : List Rw))) (fun e hq => ⟨hk, h1, rsame_at (a := recs mkRw (q.join 50 e) 8) (b := ([] : List Rw)) hq (recs_same rfl fun i _ => by simp [recAt, mkRw, -Int.pred_toNat, Sub.nenv, assoc, CV.I, CV.B, upsI, upsB, Seg.I, Seg.B, SC.I, SC.B, IE.den, BE.den, Env.join]) (by simp [recs, -Int.pred_toNat, Sub.nenv, assoc, CV.I, CV.B, upsI, upsB, Seg.I, Seg.B, SC.I, SC.B, IE.den, BE.den])⟩) fun q hk => ?_
  clear h1
  obtain ⟨hk, h1, h2⟩ := hk
  have he : q.bv 49 = q.bv 50 := Bool.eq_iff_iff.2 (h1.trans h2.symm)
  refine Sat.br (fun _ => ?_) (fun h => ?_)
  · refine Sat.callK (c := equalCon) rfl ⟨hk.1.2.2, hk.1.2.2⟩ (fun u => u.bv 51 = true) (fun e hq => (equal_at (a := recs mkRw (q.join 51 e) 8) (b := recs mkRw (q.join 51 e) 8) hq (recs_same rfl fun i _ => by simp [recAt, mkRw, -Int.pred_toNat, Sub.nenv, assoc, CV.I, CV.B, upsI, upsB, Seg.I, Seg.B, SC.I, SC.B, IE.den, BE.den, Env.join]) (recs_same rfl fun i _ => by simp [recAt, mkRw, -Int.pred_toNat, Sub.nenv, assoc, CV.I, CV.B, upsI, upsB, Seg.I, Seg.B, SC.I, SC.B, IE.den, BE.den, Env.join])).2 rfl) fun q hk => ?_
    exact Sat.fin hk
  · have h : (q.bv 49 == q.bv 50) = false := h
    rw [he, beq_self_eq_true] at h
    cases h
def xSPre (ρ : Env) : Prop := lawPre shX ρ ∧ errOf (recs mkEv ρ 4) = 5
def xSR (u : Env) : Prop := u.iv 17 = 5 ∧ OkSl u 13 ∧ u.iv 14 = 0
set_option maxHeartbeats 2000000 in
theorem xS_sat (ρ : Env) (hpre : xSPre ρ.num) : Sat (lawPostG ss5 shX) xSSem [] ρ xSOut := by
  obtain ⟨hpre, hE⟩ := hpre
  replace hE : errOf (recs mkEv ρ 4) = 5 := hE
  have hk := lawX_pre (ρ := ρ) hpre
  clear hpre
  unfold xSOut
  refine Sat.callK (c := awakeCon) rfl trivial (fun q => ((OkSl q 0 ∧ OkSl q 4 ∧ OkSl q 8) ∧ (∀ i : Nat, (i : Int) < q.iv 5 → InR (q.ic 7 i 0 0)) ∧ ∀ i : Nat, (i : Int) < q.iv 9 → InR (q.ic 11 i 0 0)) ∧ errOf (recs mkEv q 4) = 5) (fun _ _ => ⟨hk, hE⟩) fun q hk => ?_
  clear hE
  obtain ⟨hk, hE⟩ := hk
  have p1 := nilOb hk.1.1
  have p2 := nilOb hk.1.2.1
  have p3 := nilOb hk.1.2.2
  have n1 := hk.1.1.2.1
  have n2 := hk.1.2.1.2.1
  have n3 := hk.1.2.2.2.1
  refine Sat.ob p1 (Sat.ob (decide_eq_true n1) (Sat.ob (by rw [BE.den, p2, Bool.or_true]) (Sat.ob (by rw [BE.den, show (BE.ile (.lit 0) (.var 5)).den q = true from decide_eq_true n2, Bool.or_true]) (Sat.ob (by rw [BE.den, p3, Bool.or_true]) (Sat.ob (by rw [BE.den, show (BE.ile (.lit 0) (.var 9)).den q = true from decide_eq_true n3, Bool.or_true]) (Sat.br (fun _ => Sat.fin rfl) (fun hb => ?_)))))))
  replace hb : q.iv 1 ≤ 200 ∧ q.iv 5 ≤ 200 ∧ q.iv 9 ≤ 200 := by
    simp only [D.le, D.lef, D.lt, D.ltf, D.eq, D.eqf, D.not, D.notf, D.and, D.andf, D.or, D.orf, D.inr, D.var, D.lit, D.cellB, D.beq, D.beqf, D.litI, D.varI, D.add, D.sub, D.mul, D.min, D.max, D.cellI, D.i64min, D.i64max, Int.toNat_zero] at hb
    omega
  replace hk : xBase q := ⟨hk.1, hb, hk.2⟩
  clear p1 p2 p3 n1 n2 n3 hb
  refine Sat.callK (c := rowsBad 3) rfl ⟨⟨hk.1.2.1, Int.le_trans hk.2.1.2.1 (by decide), fun i hi => ?_⟩, ?_⟩ (fun u => xST u ∧ errOf (recs mkEv u 4) = 5) (fun e hq => ⟨hk, hE⟩) fun q hk => ?_
  · have := hk.2.2.1 i hi
    simpa [-Int.pred_toNat, Sub.nenv, assoc, CV.I, CV.B, upsI, upsB, Seg.I, Seg.B, SC.I, SC.B, IE.den, BE.den] using this
  · refine Eq.trans (congrArg errOf ?_) hE
    exact recs_same rfl fun i _ => by simp [recAt, mkEv, -Int.pred_toNat, Sub.nenv, assoc, CV.I, CV.B, upsI, upsB, Seg.I, Seg.B, SC.I, SC.B, IE.den, BE.den]
  clear hE
  obtain ⟨hk, hE⟩ := hk
  refine Sat.callK (c := rRowsCon) rfl ⟨hk.1.2.1, Int.le_trans hk.2.1.2.1 (by decide)⟩ (fun u => xST u ∧ xSR u) (fun e hq => ⟨hk, ?_⟩) fun q hk => ?_
  · obtain ⟨a1, a2, a3, a4⟩ := rr_callE hq (evs := recs mkEv (q.join 13 e) 4) (recs_same rfl fun i _ => by simp [recAt, mkEv, -Int.pred_toNat, Sub.nenv, assoc, CV.I, CV.B, upsI, upsB, Seg.I, Seg.B, SC.I, SC.B, IE.den, BE.den, Env.join])
    have a0 : (q.join 13 e).iv 17 = 5 := a1.trans hE
    exact ⟨a0, a2, a4 (by show (q.join 13 e).iv 17 ≠ 0; rw [a0]; decide)⟩
  clear hE
  obtain ⟨hk, hR⟩ := hk
  refine Sat.callK (c := ofCon) rfl ⟨hk.1.2.2, Int.le_trans hk.2.1.2.2 (by decide), fun i hi => ?_⟩ (fun u => xST u ∧ xSR u ∧ OfAt u (recs mkRw u 8) 18 ∧ OkSl u 18) (fun e hq => ⟨hk, hR, of_at (rows := recs mkRw (q.join 18 e) 8) hq (recs_same rfl fun i _ => by simp [recAt, mkRw, -Int.pred_toNat, Sub.nenv, assoc, CV.I, CV.B, upsI, upsB, Seg.I, Seg.B, SC.I, SC.B, IE.den, BE.den, Env.join]), ?_⟩) fun q hk => ?_
  · have := hk.2.2.2 i hi
    simpa [-Int.pred_toNat, Sub.nenv, assoc, CV.I, CV.B, upsI, upsB, Seg.I, Seg.B, SC.I, SC.B, IE.den, BE.den] using this
  · refine (of_at (rows := recs mkRw (q.join 18 e) 8) hq (recs_same rfl fun i _ => by simp [recAt, mkRw, -Int.pred_toNat, Sub.nenv, assoc, CV.I, CV.B, upsI, upsB, Seg.I, Seg.B, SC.I, SC.B, IE.den, BE.den, Env.join])).ok fun hb => ?_
    exact of_six hq hb
  clear hR
  obtain ⟨hk, hR, hO, hO2⟩ := hk
  refine Sat.callK (c := rOfCon) rfl ⟨hk.1.2.2, Int.le_trans hk.2.1.2.2 (by decide)⟩ (fun u => xST u ∧ xSR u ∧ (u.bv 22 = u.bv 27 ∧ recs mkEv u 18 = recs mkEv u 23) ∧ OkSl u 18 ∧ OkSl u 23) (fun e hq => ?_) fun q hk => ?_
  · have h2 := rof_at (rows := recs mkRw (q.join 23 e) 8) hq (recs_same rfl fun i _ => by simp [recAt, mkRw, -Int.pred_toNat, Sub.nenv, assoc, CV.I, CV.B, upsI, upsB, Seg.I, Seg.B, SC.I, SC.B, IE.den, BE.den, Env.join])
    obtain ⟨c1, c2, -⟩ := of_same (q := q.join 23 e) (M := 18) (N := 23) hO h2
    exact ⟨hk, hR, ⟨c1, c2⟩, hO2, h2.1⟩
  clear hR hO hO2
  obtain ⟨hk, hR, hO, hO2, hO3⟩ := hk
  refine Sat.callK (c := eventsCon) rfl ⟨hk.1.1, Int.le_trans hk.2.1.1 (by decide)⟩ (fun u => (xST u ∧ xSR u ∧ (u.bv 22 = u.bv 27 ∧ recs mkEv u 18 = recs mkEv u 23) ∧ OkSl u 18 ∧ OkSl u 23) ∧ OkSl u 28 ∧ recs mkEv u 28 = (recs mkBt u 0).flatMap evsOf) (fun e hq => ⟨⟨hk, hR, hO, hO2, hO3⟩, events_at (bts := recs mkBt (q.join 28 e) 0) hq (recs_same rfl fun i _ => by simp [recAt, mkBt, -Int.pred_toNat, Sub.nenv, assoc, CV.I, CV.B, upsI, upsB, Seg.I, Seg.B, SC.I, SC.B, IE.den, BE.den, Env.join])⟩) fun q hk => ?_
  clear hR hO hO2 hO3
  obtain ⟨⟨hk, hR, hO, hO2, hO3⟩, g1, g2⟩ := hk
  refine Sat.callK (c := rEventsCon) rfl ⟨hk.1.1, Int.le_trans hk.2.1.1 (by decide)⟩ (fun u => (xST u ∧ xSR u ∧ (u.bv 22 = u.bv 27 ∧ recs mkEv u 18 = recs mkEv u 23) ∧ OkSl u 18 ∧ OkSl u 23) ∧ (OkSl u 28 ∧ recs mkEv u 28 = (recs mkBt u 0).flatMap evsOf) ∧ OkSl u 32 ∧ recs mkEv u 32 = (recs mkBt u 0).flatMap evsOf) (fun e hq => ⟨⟨hk, hR, hO, hO2, hO3⟩, ⟨g1, g2⟩, events_at (bts := recs mkBt (q.join 32 e) 0) hq (recs_same rfl fun i _ => by simp [recAt, mkBt, -Int.pred_toNat, Sub.nenv, assoc, CV.I, CV.B, upsI, upsB, Seg.I, Seg.B, SC.I, SC.B, IE.den, BE.den, Env.join])⟩) fun q hk => ?_
  clear hR hO hO2 hO3 g1 g2
  obtain ⟨⟨hk, hR, hO, hO2, hO3⟩, ⟨g1, g2⟩, g3, g4⟩ := hk
  refine Sat.callK (c := alikeCon) rfl ⟨g1, g3⟩ (fun u => (xST u ∧ xSR u ∧ (u.bv 22 = u.bv 27 ∧ recs mkEv u 18 = recs mkEv u 23) ∧ OkSl u 18 ∧ OkSl u 23) ∧ u.bv 36 = true) (fun e hq => ⟨⟨hk, hR, hO, hO2, hO3⟩, (alike_at (a := recs mkEv (q.join 36 e) 28) (b := recs mkEv (q.join 36 e) 32) hq (recs_same rfl fun i _ => by simp [recAt, mkEv, -Int.pred_toNat, Sub.nenv, assoc, CV.I, CV.B, upsI, upsB, Seg.I, Seg.B, SC.I, SC.B, IE.den, BE.den, Env.join]) (recs_same rfl fun i _ => by simp [recAt, mkEv, -Int.pred_toNat, Sub.nenv, assoc, CV.I, CV.B, upsI, upsB, Seg.I, Seg.B, SC.I, SC.B, IE.den, BE.den, Env.join])).2 ?_⟩) fun q hk => ?_
  · exact g2.trans g4.symm
  clear hR hO hO2 hO3 g1 g2 g3 g4
  obtain ⟨⟨hk, hR, hO, hO2, hO3⟩, hb⟩ := hk
  refine Sat.br (fun _ => ?_) (fun h => ?_)
  rotate_left
  · have h : q.bv 36 = false := h
    rw [hb] at h
    cases h
  clear hb
  refine Sat.callK (c := rSameCon) rfl ⟨⟨fun _ => rfl, Int.le_refl 0, Int.le_refl 0, by show (0 : Int) ≤ _; decide⟩, hR.2.1⟩ (fun u => (xST u ∧ xSR u ∧ (u.bv 22 = u.bv 27 ∧ recs mkEv u 18 = recs mkEv u 23) ∧ OkSl u 18 ∧ OkSl u 23) ∧ u.bv 37 = true) (fun e hq => ⟨⟨hk, hR, hO, hO2, hO3⟩, (rsame_at (a := ([] : List Rw)) (b := recs mkRw (q.join 37 e) 13) hq (by simp [recs, -Int.pred_toNat, Sub.nenv, assoc, CV.I, CV.B, upsI, upsB, Seg.I, Seg.B, SC.I, SC.B, IE.den, BE.den]) (recs_same rfl fun i _ => by simp [recAt, mkRw, -Int.pred_toNat, Sub.nenv, assoc, CV.I, CV.B, upsI, upsB, Seg.I, Seg.B, SC.I, SC.B, IE.den, BE.den, Env.join])).2 ?_⟩) fun q hk => ?_
  · have h := hR.2.2
    show ([] : List Rw) = recs mkRw q 13
    simp [recs, h]
  clear hR hO hO2 hO3
  obtain ⟨⟨hk, hR, hO, hO2, hO3⟩, hb⟩ := hk
  refine Sat.br (fun _ => ?_) (fun h => ?_)
  rotate_left
  · have h : q.bv 37 = false := h
    rw [hb] at h
    cases h
  clear hb
  refine Sat.callK (c := codeCon 3 5) rfl trivial (fun u => xST u ∧ xSR u ∧ (u.bv 22 = u.bv 27 ∧ recs mkEv u 18 = recs mkEv u 23) ∧ OkSl u 18 ∧ OkSl u 23) (fun _ _ => ⟨hk, hR, hO, hO2, hO3⟩) fun q hk => ?_
  clear hR hO hO2 hO3
  obtain ⟨hk, hR, hO, hO2, hO3⟩ := hk
  refine Sat.br (fun _ => ?_) (fun h => ?_)
  rotate_left
  · have h : decide ((5 : Int) = q.iv 17) = false := h
    rw [hR.1] at h
    exact absurd h (by decide)
  clear hR
  refine Sat.callK (c := alikeCon) rfl ⟨hO2, hO3⟩ (fun u => (xST u ∧ (u.bv 22 = u.bv 27 ∧ recs mkEv u 18 = recs mkEv u 23)) ∧ u.bv 38 = true) (fun e hq => ⟨⟨hk, hO⟩, (alike_at (a := recs mkEv (q.join 38 e) 18) (b := recs mkEv (q.join 38 e) 23) hq (recs_same rfl fun i _ => by simp [recAt, mkEv, -Int.pred_toNat, Sub.nenv, assoc, CV.I, CV.B, upsI, upsB, Seg.I, Seg.B, SC.I, SC.B, IE.den, BE.den, Env.join]) (recs_same rfl fun i _ => by simp [recAt, mkEv, -Int.pred_toNat, Sub.nenv, assoc, CV.I, CV.B, upsI, upsB, Seg.I, Seg.B, SC.I, SC.B, IE.den, BE.den, Env.join])).2 ?_⟩) fun q hk => ?_
  · exact hO.2
  clear hO hO2 hO3
  obtain ⟨⟨hk, hO⟩, hb⟩ := hk
  refine Sat.br (fun h => ?_) (fun _ => ?_)
  · have h : (!(q.bv 38)) = true := h
    rw [hb] at h
    cases h
  clear hb
  refine Sat.br (fun _ => ?_) (fun h1 => ?_)
  · refine Sat.callK (c := selfCon) rfl trivial xST (fun _ _ => hk) fun q hk => ?_
    exact xSTail_sat q hk
  · have h1 : ((q.bv 22 == q.bv 27) && !(q.bv 22)) = false := h1
    rw [hO.1, beq_self_eq_true, Bool.true_and] at h1
    refine Sat.br (fun _ => ?_) (fun h => ?_)
    · refine Sat.br (fun h => ?_) (fun _ => ?_)
      · have h : (!(q.bv 22)) = true := h
        rw [hO.1, h1] at h
        cases h
      · exact xSTail_sat q hk
    · have h : (q.bv 22 == q.bv 27) = false := h
      rw [hO.1, beq_self_eq_true] at h
      cases h
theorem xS_con : ConOK Tryd.prog lawX xSPre (lawPostG ss5 shX) :=
  con_ok tabOK (E := xSE) (cs := xSSem) rfl xSSem_ok schedOK rfl xS_run (by kernel_rfl) (fun ρ _ p hp => by cases hp) xS_sat
end Go.Proofs.YtjhnfmfajbghbaaDoor
