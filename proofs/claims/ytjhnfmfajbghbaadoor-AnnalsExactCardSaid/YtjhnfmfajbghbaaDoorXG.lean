/- 'AnnalsExact', where Rows answers 0 -/
import Derived.Test.YtjhnfmfajbghbaaDoorXLaw
set_option linter.unusedSimpArgs false
set_option linter.unusedVariables false
namespace Go.Proofs.YtjhnfmfajbghbaaDoor
open Go.Rex
noncomputable def xGE : Ex := { sched := sched, loops := [L7a, L7b], cons := [awakeCon, rRowsCon, ofCon, rOfCon, eventsCon, rEventsCon, alikeCon, rSameCon, selfCon, wholeCon, rWholeCon, equalCon, rowsGood], fin := lawX }
def xGTail : Out :=
 .call 9 { lo := 0, lob := 0, iv := [(2, (.var 10)), (1, (.var 9))], bv := [(0, (.var 8))], ct := [(3, .up { r := 11, n1 := (.var 9), s1 := 10, ks := [.int .i64, .int .i64, .int .i64, .int .i64, .int .i64, .int .i64, .int .i64, .int .i64, .int .i64, .bool] } 0 [] (.lit 0))], bk := [(0, { blk := 12, i1 := (.lit 0), s1 := 10 })] } 42 <|
       .call 10 { lo := 0, lob := 0, iv := [(2, (.var 10)), (1, (.var 9))], bv := [(0, (.var 8))], ct := [(3, .up { r := 11, n1 := (.var 9), s1 := 10, ks := [.int .i64, .int .i64, .int .i64, .int .i64, .int .i64, .int .i64, .int .i64, .int .i64, .int .i64, .bool] } 0 [] (.lit 0))], bk := [(0, { blk := 12, i1 := (.lit 0), s1 := 10 })] } 46 <|
       .call 7 { lo := 0, lob := 0, iv := [(6, (.var 48)), (5, (.var 47)), (2, (.var 44)), (1, (.var 43))], bv := [(4, (.var 46)), (0, (.var 42))], ct := [(7, .up { r := 49, n1 := (.var 47), s1 := 10, ks := [.int .i64, .int .i64, .int .i64, .int .i64, .int .i64, .int .i64, .int .i64, .int .i64, .int .i64, .bool] } 0 [] (.lit 0)), (3, .up { r := 45, n1 := (.var 43), s1 := 10, ks := [.int .i64, .int .i64, .int .i64, .int .i64, .int .i64, .int .i64, .int .i64, .int .i64, .int .i64, .bool] } 0 [] (.lit 0))], bk := [(1, { blk := 20, i1 := (.lit 0), s1 := 10 }), (0, { blk := 19, i1 := (.lit 0), s1 := 10 })] } 50 <|
       .br (.not (.var 50))
       (.fin { lo := 12, lob := 13, bv := [(12, (.lit false))] })
       (.loop 51 { lo := 51, lob := 21, iv := [(51, (.lit 0))] } <|
        .ob (.or (.not (.var 8)) (.ieq (.var 9) (.lit 0))) <|
        .ob (.ile (.lit 0) (.var 9)) <|
        .br (.and (.ilt (.var 51) (.var 9)) (.ilt (.var 51) (.lit 20)))
        (.loop 52 { lo := 52, lob := 21, iv := [(52, (.lit 0))] } <|
         .br (.and (.ilt (.var 52) (.var 9)) (.ilt (.var 52) (.lit 20)))
         (.ob (.not (.var 8)) <|
          .ob (.ile (.lit 0) (.var 51)) <|
          .ob (.ile (.lit 0) (.var 52)) <|
          .ob (.inr .i64 (.add (.var 52) (.lit 1))) <|
          .back 0 { lo := 52, lob := 21, iv := [(52, (.add (.var 52) (.lit 1)))] })
         (.ob (.inr .i64 (.add (.var 51) (.lit 1))) <|
          .back 1 { lo := 51, lob := 21, iv := [(51, (.add (.var 51) (.lit 1)))] }))
        (.call 11 { lo := 0, lob := 0, iv := [(6, (.var 14)), (5, (.var 13)), (2, (.var 10)), (1, (.var 9))], bv := [(4, (.var 12)), (0, (.var 8))], ct := [(7, .up { r := 15, n1 := (.var 13), s1 := 10, ks := [.int .i64, .int .i64, .int .i64, .int .i64, .int .i64, .int .i64, .int .i64, .int .i64, .int .i64, .bool] } 0 [] (.lit 0)), (3, .up { r := 11, n1 := (.var 9), s1 := 10, ks := [.int .i64, .int .i64, .int .i64, .int .i64, .int .i64, .int .i64, .int .i64, .int .i64, .int .i64, .bool] } 0 [] (.lit 0))], bk := [(1, { blk := 13, i1 := (.lit 0), s1 := 10 }), (0, { blk := 12, i1 := (.lit 0), s1 := 10 })] } 52 <|
         .call 7 { lo := 0, lob := 0, iv := [(6, (.var 14)), (5, (.var 13)), (2, (.var 10)), (1, (.var 9))], bv := [(4, (.var 12)), (0, (.var 8))], ct := [(7, .up { r := 15, n1 := (.var 13), s1 := 10, ks := [.int .i64, .int .i64, .int .i64, .int .i64, .int .i64, .int .i64, .int .i64, .int .i64, .int .i64, .bool] } 0 [] (.lit 0)), (3, .up { r := 11, n1 := (.var 9), s1 := 10, ks := [.int .i64, .int .i64, .int .i64, .int .i64, .int .i64, .int .i64, .int .i64, .int .i64, .int .i64, .bool] } 0 [] (.lit 0))], bk := [(1, { blk := 13, i1 := (.lit 0), s1 := 10 }), (0, { blk := 12, i1 := (.lit 0), s1 := 10 })] } 53 <|
         .br (.beq (.var 52) (.var 53))
         (.call 11 { lo := 0, lob := 0, iv := [(6, (.var 10)), (5, (.var 9)), (2, (.var 10)), (1, (.var 9))], bv := [(4, (.var 8)), (0, (.var 8))], ct := [(7, .up { r := 11, n1 := (.var 9), s1 := 10, ks := [.int .i64, .int .i64, .int .i64, .int .i64, .int .i64, .int .i64, .int .i64, .int .i64, .int .i64, .bool] } 0 [] (.lit 0)), (3, .up { r := 11, n1 := (.var 9), s1 := 10, ks := [.int .i64, .int .i64, .int .i64, .int .i64, .int .i64, .int .i64, .int .i64, .int .i64, .int .i64, .bool] } 0 [] (.lit 0))], bk := [(1, { blk := 12, i1 := (.lit 0), s1 := 10 }), (0, { blk := 12, i1 := (.lit 0), s1 := 10 })] } 54 <|
          .fin { lo := 12, lob := 13, bv := [(12, (.var 54))] })
         (.fin { lo := 12, lob := 13, bv := [(12, (.lit false))] })))
def xGOut : Out :=
.call 0 { lo := 0, lob := 0, bk := [(1, { blk := 3 }), (0, { blk := 2 })] } 12 <|
 .ob (.or (.not (.var 0)) (.ieq (.var 1) (.lit 0))) <|
 .ob (.ile (.lit 0) (.var 1)) <|
 .ob (.or (.ilt (.lit 200) (.var 1)) (.or (.not (.var 4)) (.ieq (.var 5) (.lit 0)))) <|
 .ob (.or (.ilt (.lit 200) (.var 1)) (.ile (.lit 0) (.var 5))) <|
 .ob (.or (.or (.ilt (.lit 200) (.var 1)) (.ilt (.lit 200) (.var 5))) (.or (.not (.var 8)) (.ieq (.var 9) (.lit 0)))) <|
 .ob (.or (.or (.ilt (.lit 200) (.var 1)) (.ilt (.lit 200) (.var 5))) (.ile (.lit 0) (.var 9))) <|
 .br (.or (.or (.ilt (.lit 200) (.var 1)) (.ilt (.lit 200) (.var 5))) (.ilt (.lit 200) (.var 9)))
 (.fin { lo := 12, lob := 13, bv := [(12, (.lit true))] })
 (.call 12 { lo := 0, lob := 0, iv := [(2, (.var 6)), (1, (.var 5))], bv := [(0, (.var 4))], ct := [(3, .up { r := 7, n1 := (.var 5), s1 := 8, ks := [.int .i64, .bool, .int .i64, .int .i64, .int .i64, .int .i64, .int .i64, .int .i64] } 0 [] (.lit 0))], bk := [(3, { blk := 3 }), (2, { blk := 2 }), (1, { blk := 1 }), (0, { blk := 0 }), (4, { blk := 11, i1 := (.lit 0), s1 := 8 })] } 12 <|
  .call 1 { lo := 0, lob := 0, iv := [(2, (.var 6)), (1, (.var 5))], bv := [(0, (.var 4))], ct := [(3, .up { r := 7, n1 := (.var 5), s1 := 8, ks := [.int .i64, .bool, .int .i64, .int .i64, .int .i64, .int .i64, .int .i64, .int .i64] } 0 [] (.lit 0))], bk := [(0, { blk := 11, i1 := (.lit 0), s1 := 8 })] } 16 <|
  .call 2 { lo := 0, lob := 0, iv := [(2, (.var 10)), (1, (.var 9))], bv := [(0, (.var 8))], ct := [(3, .up { r := 11, n1 := (.var 9), s1 := 10, ks := [.int .i64, .int .i64, .int .i64, .int .i64, .int .i64, .int .i64, .int .i64, .int .i64, .int .i64, .bool] } 0 [] (.lit 0))], bk := [(3, { blk := 3 }), (2, { blk := 2 }), (1, { blk := 1 }), (0, { blk := 0 }), (4, { blk := 12, i1 := (.lit 0), s1 := 10 })] } 21 <|
  .call 3 { lo := 0, lob := 0, iv := [(2, (.var 10)), (1, (.var 9))], bv := [(0, (.var 8))], ct := [(3, .up { r := 11, n1 := (.var 9), s1 := 10, ks := [.int .i64, .int .i64, .int .i64, .int .i64, .int .i64, .int .i64, .int .i64, .int .i64, .int .i64, .bool] } 0 [] (.lit 0))], bk := [(0, { blk := 12, i1 := (.lit 0), s1 := 10 })] } 26 <|
  .call 4 { lo := 0, lob := 0, iv := [(2, (.var 2)), (1, (.var 1))], bv := [(0, (.var 0))], ct := [(3, .up { r := 3, n1 := (.var 1), s1 := 10, ks := [.int .i64, .bool, .int .i64, .int .i64, .int .i64, .int .i64, .bool, .bool, .int .i64, .int .i64] } 0 [] (.lit 0))], bk := [(0, { blk := 10, i1 := (.lit 0), s1 := 10 })] } 31 <|
  .call 5 { lo := 0, lob := 0, iv := [(2, (.var 2)), (1, (.var 1))], bv := [(0, (.var 0))], ct := [(3, .up { r := 3, n1 := (.var 1), s1 := 10, ks := [.int .i64, .bool, .int .i64, .int .i64, .int .i64, .int .i64, .bool, .bool, .int .i64, .int .i64] } 0 [] (.lit 0))], bk := [(0, { blk := 10, i1 := (.lit 0), s1 := 10 })] } 35 <|
  .call 6 { lo := 0, lob := 0, iv := [(6, (.var 37)), (5, (.var 36)), (2, (.var 33)), (1, (.var 32))], bv := [(4, (.var 35)), (0, (.var 31))], ct := [(7, .up { r := 38, n1 := (.var 36), s1 := 8, ks := [.int .i64, .bool, .int .i64, .int .i64, .int .i64, .int .i64, .int .i64, .int .i64] } 0 [] (.lit 0)), (3, .up { r := 34, n1 := (.var 32), s1 := 8, ks := [.int .i64, .bool, .int .i64, .int .i64, .int .i64, .int .i64, .int .i64, .int .i64] } 0 [] (.lit 0))], bk := [(1, { blk := 18, i1 := (.lit 0), s1 := 8 }), (0, { blk := 17, i1 := (.lit 0), s1 := 8 })] } 39 <|
  .br (.var 39)
  (.call 7 { lo := 0, lob := 0, iv := [(6, (.var 18)), (5, (.var 17)), (2, (.var 14)), (1, (.var 13))], bv := [(4, (.var 16)), (0, (.var 12))], ct := [(7, .up { r := 19, n1 := (.var 17), s1 := 10, ks := [.int .i64, .int .i64, .int .i64, .int .i64, .int .i64, .int .i64, .int .i64, .int .i64, .int .i64, .bool] } 0 [] (.lit 0)), (3, .up { r := 15, n1 := (.var 13), s1 := 10, ks := [.int .i64, .int .i64, .int .i64, .int .i64, .int .i64, .int .i64, .int .i64, .int .i64, .int .i64, .bool] } 0 [] (.lit 0))], bk := [(1, { blk := 14, i1 := (.lit 0), s1 := 10 }), (0, { blk := 13, i1 := (.lit 0), s1 := 10 })] } 40 <|
   .br (.var 40)
   (.br (.ieq (.lit 0) (.var 20))
    (.call 6 { lo := 0, lob := 0, iv := [(6, (.var 28)), (5, (.var 27)), (2, (.var 23)), (1, (.var 22))], bv := [(4, (.var 26)), (0, (.var 21))], ct := [(7, .up { r := 29, n1 := (.var 27), s1 := 8, ks := [.int .i64, .bool, .int .i64, .int .i64, .int .i64, .int .i64, .int .i64, .int .i64] } 0 [] (.lit 0)), (3, .up { r := 24, n1 := (.var 22), s1 := 8, ks := [.int .i64, .bool, .int .i64, .int .i64, .int .i64, .int .i64, .int .i64, .int .i64] } 0 [] (.lit 0))], bk := [(1, { blk := 16, i1 := (.lit 0), s1 := 8 }), (0, { blk := 15, i1 := (.lit 0), s1 := 8 })] } 41 <|
     .br (.not (.var 41))
     (.fin { lo := 12, lob := 13, bv := [(12, (.lit false))] })
     (.br (.and (.beq (.var 25) (.var 30)) (.not (.var 25)))
      (.call 8 { lo := 0, lob := 0, bk := [(0, { blk := 1 })] } 42 <|
       xGTail)
      (.br (.beq (.var 25) (.var 30))
       (.br (.not (.var 25))
        (.stop { nv := 42, kn := [((.var 25), false), ((.beq (.var 25) (.var 30)), true), ((.and (.beq (.var 25) (.var 30)) (.not (.var 25))), false), ((.var 41), true), ((.ieq (.lit 0) (.var 20)), true), ((.var 40), true), ((.var 39), true), ((.ilt (.lit 200) (.var 1)), false), ((.ilt (.lit 200) (.var 5)), false), ((.ilt (.lit 200) (.var 9)), false), ((.or (.or (.ilt (.lit 200) (.var 1)) (.ilt (.lit 200) (.var 5))) (.ile (.lit 0) (.var 9))), true), ((.or (.or (.ilt (.lit 200) (.var 1)) (.ilt (.lit 200) (.var 5))) (.or (.not (.var 8)) (.ieq (.var 9) (.lit 0)))), true), ((.or (.ilt (.lit 200) (.var 1)) (.ile (.lit 0) (.var 5))), true), ((.or (.ilt (.lit 200) (.var 1)) (.or (.not (.var 4)) (.ieq (.var 5) (.lit 0)))), true), ((.ile (.lit 0) (.var 1)), true), ((.or (.not (.var 0)) (.ieq (.var 1) (.lit 0))), true)], gl := [(0, 0), (1000000, 1), (1, 2), (1000001, 3), (2, 4), (1000002, 5), (3, 6), (1000003, 7), (4, 8), (1000004, 9)], hp := [{ t := 26, cs := [.iface 85 (.ptr { blk := 1 })], ro := true }, { t := 500111, cs := [.hole], ro := true }, { t := 26, cs := [.iface 85 (.ptr { blk := 3 })], ro := true }, { t := 500111, cs := [.hole], ro := true }, { t := 26, cs := [.iface 85 (.ptr { blk := 5 })], ro := true }, { t := 500111, cs := [.hole], ro := true }, { t := 26, cs := [.iface 85 (.ptr { blk := 7 })], ro := true }, { t := 500111, cs := [.hole], ro := true }, { t := 26, cs := [.iface 85 (.ptr { blk := 9 })], ro := true }, { t := 500111, cs := [.hole], ro := true }, { t := 48, segs := [{ r := 3, n1 := (.var 1), s1 := 10, ks := [.int .i64, .bool, .int .i64, .int .i64, .int .i64, .int .i64, .bool, .bool, .int .i64, .int .i64] }], ro := true, nl := (.var 0) }, { t := 44, segs := [{ r := 7, n1 := (.var 5), s1 := 8, ks := [.int .i64, .bool, .int .i64, .int .i64, .int .i64, .int .i64, .int .i64, .int .i64] }], ro := true, nl := (.var 4) }, { t := 40, segs := [{ r := 11, n1 := (.var 9), s1 := 10, ks := [.int .i64, .int .i64, .int .i64, .int .i64, .int .i64, .int .i64, .int .i64, .int .i64, .int .i64, .bool] }], ro := true, nl := (.var 8) }, { t := 40, segs := [{ r := 15, n1 := (.var 13), s1 := 10, ks := [.int .i64, .int .i64, .int .i64, .int .i64, .int .i64, .int .i64, .int .i64, .int .i64, .int .i64, .bool] }], cap := some ((.var 14), 10), own := true, nl := (.var 12) }, { t := 40, segs := [{ r := 19, n1 := (.var 17), s1 := 10, ks := [.int .i64, .int .i64, .int .i64, .int .i64, .int .i64, .int .i64, .int .i64, .int .i64, .int .i64, .bool] }], cap := some ((.var 18), 10), own := true, nl := (.var 16) }, { t := 44, segs := [{ r := 24, n1 := (.var 22), s1 := 8, ks := [.int .i64, .bool, .int .i64, .int .i64, .int .i64, .int .i64, .int .i64, .int .i64] }], cap := some ((.var 23), 8), own := true, nl := (.var 21) }, { t := 44, segs := [{ r := 29, n1 := (.var 27), s1 := 8, ks := [.int .i64, .bool, .int .i64, .int .i64, .int .i64, .int .i64, .int .i64, .int .i64] }], cap := some ((.var 28), 8), own := true, nl := (.var 26) }, { t := 44, segs := [{ r := 34, n1 := (.var 32), s1 := 8, ks := [.int .i64, .bool, .int .i64, .int .i64, .int .i64, .int .i64, .int .i64, .int .i64] }], cap := some ((.var 33), 8), own := true, nl := (.var 31) }, { t := 44, segs := [{ r := 38, n1 := (.var 36), s1 := 8, ks := [.int .i64, .bool, .int .i64, .int .i64, .int .i64, .int .i64, .int .i64, .int .i64] }], cap := some ((.var 37), 8), own := true, nl := (.var 35) }], top := { f := 7, fr := [(98, .tup []), (97, .tup []), (96, .tup []), (95, .tup []), (94, .tup []), (93, .tup []), (92, .tup []), (91, .tup []), (90, .tup []), (89, .tup []), (88, .tup []), (87, .gd (.and (.beq (.var 25) (.var 30)) (.not (.var 25))) (.one (.iface 85 (.ptr { blk := 1 })))), (86, .gd (.and (.beq (.var 25) (.var 30)) (.not (.var 25))) (.one (.iface 85 (.ptr { blk := 1 })))), (85, .gd (.beq (.var 25) (.var 30)) (.one (.bool (.not (.var 25))))), (84, .gd (.beq (.var 25) (.var 30)) (.one (.bool (.not (.var 25))))), (83, .gd (.beq (.var 25) (.var 30)) (.one (.ifn (.var 25) (.iface 85 (.ptr { blk := 1 }))))), (82, .w (.one (.bool (.not (.beq (.var 25) (.var 30)))))), (81, .w (.one (.bool (.not (.beq (.var 25) (.var 30)))))), (80, .gd (.var 41) (.one (.bool (.not (.beq (.var 25) (.var 30)))))), (79, .gd (.var 41) (.one (.bool (.var 30)))), (78, .gd (.var 41) (.one (.bool (.var 25)))), (77, .gd (.var 41) (.one (.ifn (.var 25) (.iface 85 (.ptr { blk := 1 }))))), (76, .w (.one (.bool (.not (.var 41))))), (75, .w (.one (.bool (.not (.var 41))))), (74, .w (.one (.bool (.not (.var 41))))), (73, .w (.one (.bool (.var 41)))), (72, .gd (.ieq (.lit 0) (.var 20)) (.one (.sln (.var 26) { blk := 16, i1 := (.lit 0), s1 := 8 } (.var 27) (.var 28)))), (71, .gd (.ieq (.lit 0) (.var 20)) (.one (.sln (.var 21) { blk := 15, i1 := (.lit 0), s1 := 8 } (.var 22) (.var 23)))), (70, .w (.one (.bool (.not (.ieq (.lit 0) (.var 20)))))), (69, .w (.one (.bool (.not (.ieq (.lit 0) (.var 20)))))), (68, .w (.one (.bool (.not (.ieq (.lit 0) (.var 20)))))), (67, .w (.one (.int .i64 (.var 20)))), (66, .w (.one (.int .i64 (.lit 0)))), (65, .gd (.var 40) (.one (.nilif))), (64, .w (.one (.bool (.not (.var 40))))), (63, .w (.one (.bool (.not (.var 40))))), (62, .w (.one (.bool (.not (.var 40))))), (61, .w (.one (.bool (.var 40)))), (60, .gd (.var 39) (.one (.sln (.var 16) { blk := 14, i1 := (.lit 0), s1 := 10 } (.var 17) (.var 18)))), (59, .gd (.var 39) (.one (.sln (.var 12) { blk := 13, i1 := (.lit 0), s1 := 10 } (.var 13) (.var 14)))), (58, .w (.one (.bool (.not (.var 39))))), (57, .w (.one (.bool (.not (.var 39))))), (56, .w (.one (.bool (.var 39)))), (55, .w (.one (.sln (.var 35) { blk := 18, i1 := (.lit 0), s1 := 8 } (.var 36) (.var 37)))), (54, .w (.one (.sln (.var 0) { blk := 10, i1 := (.lit 0), s1 := 10 } (.var 1) (.var 2)))), (53, .w (.one (.sln (.var 31) { blk := 17, i1 := (.lit 0), s1 := 8 } (.var 32) (.var 33)))), (52, .w (.one (.sln (.var 0) { blk := 10, i1 := (.lit 0), s1 := 10 } (.var 1) (.var 2)))), (14, .w (.one (.bool (.var 30)))), (13, .w (.one (.sln (.var 26) { blk := 16, i1 := (.lit 0), s1 := 8 } (.var 27) (.var 28)))), (51, .w (.one (.bool (.var 30)))), (50, .w (.one (.sln (.var 26) { blk := 16, i1 := (.lit 0), s1 := 8 } (.var 27) (.var 28)))), (47, .tup [.one (.sln (.var 26) { blk := 16, i1 := (.lit 0), s1 := 8 } (.var 27) (.var 28)), .one (.bool (.var 30))]), (49, .tup [.one (.sln (.var 26) { blk := 16, i1 := (.lit 0), s1 := 8 } (.var 27) (.var 28)), .one (.bool (.var 30))]), (48, .w (.one (.sln (.var 8) { blk := 12, i1 := (.lit 0), s1 := 10 } (.var 9) (.var 10)))), (12, .w (.one (.ifn (.var 25) (.iface 85 (.ptr { blk := 1 }))))), (11, .w (.one (.sln (.var 21) { blk := 15, i1 := (.lit 0), s1 := 8 } (.var 22) (.var 23)))), (46, .w (.one (.ifn (.var 25) (.iface 85 (.ptr { blk := 1 }))))), (45, .w (.one (.sln (.var 21) { blk := 15, i1 := (.lit 0), s1 := 8 } (.var 22) (.var 23)))), (42, .tup [.one (.sln (.var 21) { blk := 15, i1 := (.lit 0), s1 := 8 } (.var 22) (.var 23)), .one (.ifn (.var 25) (.iface 85 (.ptr { blk := 1 })))]), (44, .tup [.one (.sln (.var 21) { blk := 15, i1 := (.lit 0), s1 := 8 } (.var 22) (.var 23)), .one (.ifn (.var 25) (.iface 85 (.ptr { blk := 1 })))]), (43, .w (.one (.sln (.var 8) { blk := 12, i1 := (.lit 0), s1 := 10 } (.var 9) (.var 10)))), (10, .w (.one (.int .i64 (.var 20)))), (9, .w (.one (.sln (.var 16) { blk := 14, i1 := (.lit 0), s1 := 10 } (.var 17) (.var 18)))), (41, .w (.one (.int .i64 (.var 20)))), (40, .w (.one (.sln (.var 16) { blk := 14, i1 := (.lit 0), s1 := 10 } (.var 17) (.var 18)))), (37, .tup [.one (.sln (.var 16) { blk := 14, i1 := (.lit 0), s1 := 10 } (.var 17) (.var 18)), .one (.int .i64 (.var 20))]), (39, .tup [.one (.sln (.var 16) { blk := 14, i1 := (.lit 0), s1 := 10 } (.var 17) (.var 18)), .one (.int .i64 (.var 20))]), (38, .w (.one (.sln (.var 4) { blk := 11, i1 := (.lit 0), s1 := 8 } (.var 5) (.var 6)))), (8, .w (.one (.nilif))), (7, .w (.one (.sln (.var 12) { blk := 13, i1 := (.lit 0), s1 := 10 } (.var 13) (.var 14)))), (36, .w (.one (.nilif))), (35, .w (.one (.sln (.var 12) { blk := 13, i1 := (.lit 0), s1 := 10 } (.var 13) (.var 14)))), (32, .tup [.one (.sln (.var 12) { blk := 13, i1 := (.lit 0), s1 := 10 } (.var 13) (.var 14)), .one (.nilif)]), (34, .tup [.one (.sln (.var 12) { blk := 13, i1 := (.lit 0), s1 := 10 } (.var 13) (.var 14)), .one (.nilif)]), (33, .w (.one (.sln (.var 4) { blk := 11, i1 := (.lit 0), s1 := 8 } (.var 5) (.var 6)))), (31, .w (.one (.bool (.or (.or (.ilt (.lit 200) (.var 1)) (.ilt (.lit 200) (.var 5))) (.ilt (.lit 200) (.var 9)))))), (30, .gd (.not (.or (.ilt (.lit 200) (.var 1)) (.ilt (.lit 200) (.var 5)))) (.one (.bool (.ilt (.lit 200) (.var 9))))), (29, .gd (.not (.or (.ilt (.lit 200) (.var 1)) (.ilt (.lit 200) (.var 5)))) (.one (.int .i64 (.var 9)))), (28, .gd (.not (.or (.ilt (.lit 200) (.var 1)) (.ilt (.lit 200) (.var 5)))) (.one (.sln (.var 8) { blk := 12, i1 := (.lit 0), s1 := 10 } (.var 9) (.var 10)))), (27, .w (.one (.bool (.or (.ilt (.lit 200) (.var 1)) (.ilt (.lit 200) (.var 5)))))), (26, .w (.one (.bool (.or (.ilt (.lit 200) (.var 1)) (.ilt (.lit 200) (.var 5)))))), (25, .gd (.not (.ilt (.lit 200) (.var 1))) (.one (.bool (.ilt (.lit 200) (.var 5))))), (24, .gd (.not (.ilt (.lit 200) (.var 1))) (.one (.int .i64 (.var 5)))), (23, .gd (.not (.ilt (.lit 200) (.var 1))) (.one (.sln (.var 4) { blk := 11, i1 := (.lit 0), s1 := 8 } (.var 5) (.var 6)))), (22, .w (.one (.bool (.ilt (.lit 200) (.var 1))))), (21, .w (.one (.bool (.ilt (.lit 200) (.var 1))))), (20, .w (.one (.int .i64 (.var 1)))), (19, .w (.one (.sln (.var 0) { blk := 10, i1 := (.lit 0), s1 := 10 } (.var 1) (.var 2)))), (18, .w (.one (.bool (.lit false)))), (17, .w (.one (.bool (.lit true)))), (6, .w (.one (.bool (.lit false)))), (0, .w (.one (.sln (.var 0) { blk := 10, i1 := (.lit 0), s1 := 10 } (.var 1) (.var 2)))), (1, .w (.one (.sln (.var 4) { blk := 11, i1 := (.lit 0), s1 := 8 } (.var 5) (.var 6)))), (2, .w (.one (.sln (.var 8) { blk := 12, i1 := (.lit 0), s1 := 10 } (.var 9) (.var 10))))], cur := .reg [1, 1, 1, 1, 1, 1, 1, 0, 0] 47, todo := [.code [1, 1, 1, 1, 1, 1, 1, 0, 1], .code [1, 1, 1, 1, 1, 1, 1, 1]] }, stk := [] })
        (xGTail))
       (.fin { lo := 12, lob := 13, bv := [(12, (.lit false))] }))))
    (.fin { lo := 12, lob := 13, bv := [(12, (.lit false))] }))
   (.fin { lo := 12, lob := 13, bv := [(12, (.lit false))] }))
  (.fin { lo := 12, lob := 13, bv := [(12, (.lit false))] }))
theorem xG_run : exec tab xGE 8000 [] (cfg0 7 12 [] (sentGl ss5 0) lawX.hp lawX.args) = xGOut := by kernel_rfl
def xGSem : CSem := [(awakeCon, yesPre, yesPre), (rRowsCon, rrPre, rrPost), (ofCon, ofPre, ofPost), (rOfCon, rofPre, rofPost), (eventsCon, eventsPre, eventsPost), (rEventsCon, eventsPre, eventsPost), (alikeCon, alikePre, alikePost), (rSameCon, rsamePre, rsamePost), (selfCon, yesPre, yesPre), (wholeCon, wholePre, wholePost), (rWholeCon, wholePre, wholePost), (equalCon, equalPre, equalPost), (rowsGood, rowsPreE 0, goodPost)]
theorem xGSem_ok : ∀ k pre post, (k, pre, post) ∈ xGSem → conWf k = true ∧ ConOK Tryd.prog k pre post := by
  intro k pre post h
  simp only [xGSem, List.mem_cons, List.not_mem_nil, or_false, Prod.mk.injEq] at h
  rcases h with ⟨rfl, rfl, rfl⟩ | ⟨rfl, rfl, rfl⟩ | ⟨rfl, rfl, rfl⟩ | ⟨rfl, rfl, rfl⟩ | ⟨rfl, rfl, rfl⟩ | ⟨rfl, rfl, rfl⟩ | ⟨rfl, rfl, rfl⟩ | ⟨rfl, rfl, rfl⟩ | ⟨rfl, rfl, rfl⟩ | ⟨rfl, rfl, rfl⟩ | ⟨rfl, rfl, rfl⟩ | ⟨rfl, rfl, rfl⟩ | ⟨rfl, rfl, rfl⟩
  · exact ⟨by kernel_rfl, awake_con⟩
  · exact ⟨by kernel_rfl, rrows_con⟩
  · exact ⟨by kernel_rfl, of_con⟩
  · exact ⟨by kernel_rfl, rof_con⟩
  · exact ⟨by kernel_rfl, events_con⟩
  · exact ⟨by kernel_rfl, revents_con⟩
  · exact ⟨by kernel_rfl, alike_con⟩
  · exact ⟨by kernel_rfl, rsame_con⟩
  · exact ⟨by kernel_rfl, self_con⟩
  · exact ⟨by kernel_rfl, whole_con⟩
  · exact ⟨by kernel_rfl, rwhole_con⟩
  · exact ⟨by kernel_rfl, equal_con⟩
  · exact ⟨by kernel_rfl, rowsG_con⟩
def xGT (q : Env) : Prop := xBase q ∧ OkSl q 12
set_option maxHeartbeats 2000000 in
theorem xGTail_sat (q : Env) (hk : xGT q) {Γ : List (Env → Prop)} : Sat (lawPostG ss5 shX) xGSem Γ q xGTail := by
  unfold xGTail
  refine Sat.callK (c := wholeCon) rfl ⟨hk.1.1.2.2, Int.le_trans hk.1.2.1.2.2 (by decide)⟩ (fun u => xGT u ∧ OkSl u 42 ∧ recs mkRw u 42 = wholeOf (recs mkRw u 8)) (fun e hq => ⟨hk, whole_at (rows := recs mkRw (q.join 42 e) 8) hq (recs_same rfl fun i _ => by simp [recAt, mkRw, -Int.pred_toNat, Sub.nenv, assoc, CV.I, CV.B, upsI, upsB, Seg.I, Seg.B, SC.I, SC.B, IE.den, BE.den, Env.join])⟩) fun q hk => ?_
  obtain ⟨hk, g1, g2⟩ := hk
  refine Sat.callK (c := rWholeCon) rfl ⟨hk.1.1.2.2, Int.le_trans hk.1.2.1.2.2 (by decide)⟩ (fun u => xGT u ∧ (OkSl u 42 ∧ recs mkRw u 42 = wholeOf (recs mkRw u 8)) ∧ OkSl u 46 ∧ recs mkRw u 46 = wholeOf (recs mkRw u 8)) (fun e hq => ⟨hk, ⟨g1, g2⟩, whole_at (rows := recs mkRw (q.join 46 e) 8) hq (recs_same rfl fun i _ => by simp [recAt, mkRw, -Int.pred_toNat, Sub.nenv, assoc, CV.I, CV.B, upsI, upsB, Seg.I, Seg.B, SC.I, SC.B, IE.den, BE.den, Env.join])⟩) fun q hk => ?_
  clear g1 g2
  obtain ⟨hk, ⟨g1, g2⟩, g3, g4⟩ := hk
  refine Sat.callK (c := rSameCon) rfl ⟨g1, g3⟩ (fun u => xGT u ∧ u.bv 50 = true) (fun e hq => ⟨hk, (rsame_at (a := recs mkRw (q.join 50 e) 42) (b := recs mkRw (q.join 50 e) 46) hq (recs_same rfl fun i _ => by simp [recAt, mkRw, -Int.pred_toNat, Sub.nenv, assoc, CV.I, CV.B, upsI, upsB, Seg.I, Seg.B, SC.I, SC.B, IE.den, BE.den, Env.join]) (recs_same rfl fun i _ => by simp [recAt, mkRw, -Int.pred_toNat, Sub.nenv, assoc, CV.I, CV.B, upsI, upsB, Seg.I, Seg.B, SC.I, SC.B, IE.den, BE.den, Env.join])).2 ?_⟩) fun q hk => ?_
  · exact g2.trans g4.symm
  clear g1 g2 g3 g4
  obtain ⟨hk, hb⟩ := hk
  refine Sat.br (fun h => ?_) (fun _ => ?_)
  · have h : (!(q.bv 50)) = true := h
    rw [hb] at h
    cases h
  clear hb
  refine Sat.loopK (fun r => 0 ≤ r.iv 51 ∧ r.iv 51 ≤ r.iv 9) (fun r => (r.iv 9 - r.iv 51).toNat) xGT ⟨Int.le_refl 0, hk.1.1.2.2.2.1⟩ (fun _ => hk) fun r hk hI => ?_
  replace hI : 0 ≤ r.iv 51 ∧ r.iv 51 ≤ r.iv 9 := hI
  rw [show (r.num.iv 9 - r.num.iv 51).toNat = (r.iv 9 - r.iv 51).toNat from rfl]
  refine Sat.ob (nilOb hk.1.1.2.2) (Sat.ob (decide_eq_true hk.1.1.2.2.2.1) (Sat.br (fun hlt => ?_) (fun _ => ?_)))
  · replace hlt : r.iv 51 < r.iv 9 ∧ r.iv 51 < 20 := by simpa only [D.le, D.lef, D.lt, D.ltf, D.eq, D.eqf, D.not, D.notf, D.and, D.andf, D.or, D.orf, D.inr, D.var, D.lit, D.cellB, D.beq, D.beqf, D.litI, D.varI, D.add, D.sub, D.mul, D.min, D.max, D.cellI, D.i64min, D.i64max, Int.toNat_zero] using hlt
    refine Sat.loopK (fun r => 0 ≤ r.iv 52) (fun r => (r.iv 9 - r.iv 52).toNat) (fun s => xGT s ∧ (0 ≤ s.iv 51 ∧ s.iv 51 < s.iv 9 ∧ s.iv 51 < 20) ∧ (s.iv 9 - (s.iv 51 + 1)).toNat < (r.iv 9 - r.iv 51).toNat) (Int.le_refl 0) (fun _ => ⟨hk, ⟨hI.1, hlt⟩, by show (r.iv 9 - (r.iv 51 + 1)).toNat < _; omega⟩) fun s hs hJ => ?_
    obtain ⟨hk, hi, hm⟩ := hs
    replace hJ : 0 ≤ s.iv 52 := hJ
    rw [show (s.num.iv 9 - s.num.iv 52).toNat = (s.iv 9 - s.iv 52).toNat from rfl]
    refine Sat.br (fun hl2 => ?_) (fun _ => ?_)
    · replace hl2 : s.iv 52 < s.iv 9 ∧ s.iv 52 < 20 := by simpa only [D.le, D.lef, D.lt, D.ltf, D.eq, D.eqf, D.not, D.notf, D.and, D.andf, D.or, D.orf, D.inr, D.var, D.lit, D.cellB, D.beq, D.beqf, D.litI, D.varI, D.add, D.sub, D.mul, D.min, D.max, D.cellI, D.i64min, D.i64max, Int.toNat_zero] using hl2
      refine Sat.ob (nilLt hk.1.1.2.2 (by simp only [Nat.reduceAdd]; omega)) (Sat.ob (decide_eq_true hi.1) (Sat.ob (decide_eq_true hJ) (Sat.ob (by simp only [D.le, D.lef, D.lt, D.ltf, D.eq, D.eqf, D.not, D.notf, D.and, D.andf, D.or, D.orf, D.inr, D.var, D.lit, D.cellB, D.beq, D.beqf, D.litI, D.varI, D.add, D.sub, D.mul, D.min, D.max, D.cellI, D.i64min, D.i64max, Int.toNat_zero]; omega) (Sat.back rfl ⟨?_, ?_⟩))))
      · show 0 ≤ s.iv 52 + 1
        omega
      · show (s.iv 9 - (s.iv 52 + 1)).toNat < (s.iv 9 - s.iv 52).toNat
        omega
    · refine Sat.ob (by simp only [D.le, D.lef, D.lt, D.ltf, D.eq, D.eqf, D.not, D.notf, D.and, D.andf, D.or, D.orf, D.inr, D.var, D.lit, D.cellB, D.beq, D.beqf, D.litI, D.varI, D.add, D.sub, D.mul, D.min, D.max, D.cellI, D.i64min, D.i64max, Int.toNat_zero]; omega) (Sat.back rfl ⟨⟨?_, ?_⟩, hm⟩)
      · show 0 ≤ s.iv 51 + 1
        omega
      · show s.iv 51 + 1 ≤ s.iv 9
        omega
  clear hI
  refine Sat.callK (c := equalCon) rfl ⟨hk.1.1.2.2, hk.2⟩ (fun u => xGT u ∧ (u.bv 52 = true ↔ recs mkRw u 8 = recs mkRw u 12)) (fun e hq => ⟨hk, equal_at (a := recs mkRw (r.join 52 e) 8) (b := recs mkRw (r.join 52 e) 12) hq (recs_same rfl fun i _ => by simp [recAt, mkRw, -Int.pred_toNat, Sub.nenv, assoc, CV.I, CV.B, upsI, upsB, Seg.I, Seg.B, SC.I, SC.B, IE.den, BE.den, Env.join]) (recs_same rfl fun i _ => by simp [recAt, mkRw, -Int.pred_toNat, Sub.nenv, assoc, CV.I, CV.B, upsI, upsB, Seg.I, Seg.B, SC.I, SC.B, IE.den, BE.den, Env.join])⟩) fun q hk => ?_
  obtain ⟨hk, h1⟩ := hk
  refine Sat.callK (c := rSameCon) rfl ⟨hk.1.1.2.2, hk.2⟩ (fun u => xGT u ∧ (u.bv 52 = true ↔ recs mkRw u 8 = recs mkRw u 12) ∧ (u.bv 53 = true ↔ recs mkRw u 8 = recs mkRw u 12)) (fun e hq => ⟨hk, h1, rsame_at (a := recs mkRw (q.join 53 e) 8) (b := recs mkRw (q.join 53 e) 12) hq (recs_same rfl fun i _ => by simp [recAt, mkRw, -Int.pred_toNat, Sub.nenv, assoc, CV.I, CV.B, upsI, upsB, Seg.I, Seg.B, SC.I, SC.B, IE.den, BE.den, Env.join]) (recs_same rfl fun i _ => by simp [recAt, mkRw, -Int.pred_toNat, Sub.nenv, assoc, CV.I, CV.B, upsI, upsB, Seg.I, Seg.B, SC.I, SC.B, IE.den, BE.den, Env.join])⟩) fun q hk => ?_
  clear h1
  obtain ⟨hk, h1, h2⟩ := hk
  have he : q.bv 52 = q.bv 53 := Bool.eq_iff_iff.2 (h1.trans h2.symm)
  refine Sat.br (fun _ => ?_) (fun h => ?_)
  · refine Sat.callK (c := equalCon) rfl ⟨hk.1.1.2.2, hk.1.1.2.2⟩ (fun u => u.bv 54 = true) (fun e hq => (equal_at (a := recs mkRw (q.join 54 e) 8) (b := recs mkRw (q.join 54 e) 8) hq (recs_same rfl fun i _ => by simp [recAt, mkRw, -Int.pred_toNat, Sub.nenv, assoc, CV.I, CV.B, upsI, upsB, Seg.I, Seg.B, SC.I, SC.B, IE.den, BE.den, Env.join]) (recs_same rfl fun i _ => by simp [recAt, mkRw, -Int.pred_toNat, Sub.nenv, assoc, CV.I, CV.B, upsI, upsB, Seg.I, Seg.B, SC.I, SC.B, IE.den, BE.den, Env.join])).2 rfl) fun q hk => ?_
    exact Sat.fin hk
  · have h : (q.bv 52 == q.bv 53) = false := h
    rw [he, beq_self_eq_true] at h
    cases h
def xGPre (ρ : Env) : Prop := lawPre shX ρ ∧ errOf (recs mkEv ρ 4) = 0
def xGR (u : Env) : Prop := u.iv 20 = 0 ∧ OkSl u 16 ∧ recs mkRw u 16 = recs mkRw u 12
set_option maxHeartbeats 2000000 in
theorem xG_sat (ρ : Env) (hpre : xGPre ρ.num) : Sat (lawPostG ss5 shX) xGSem [] ρ xGOut := by
  obtain ⟨hpre, hE⟩ := hpre
  replace hE : errOf (recs mkEv ρ 4) = 0 := hE
  have hk := lawX_pre (ρ := ρ) hpre
  clear hpre
  unfold xGOut
  refine Sat.callK (c := awakeCon) rfl trivial (fun q => ((OkSl q 0 ∧ OkSl q 4 ∧ OkSl q 8) ∧ (∀ i : Nat, (i : Int) < q.iv 5 → InR (q.ic 7 i 0 0)) ∧ ∀ i : Nat, (i : Int) < q.iv 9 → InR (q.ic 11 i 0 0)) ∧ errOf (recs mkEv q 4) = 0) (fun _ _ => ⟨hk, hE⟩) fun q hk => ?_
  clear hE
  obtain ⟨hk, hE⟩ := hk
  have p1 := nilOb hk.1.1
  have p2 := nilOb hk.1.2.1
  have p3 := nilOb hk.1.2.2
  have n1 := hk.1.1.2.1
  have n2 := hk.1.2.1.2.1
  have n3 := hk.1.2.2.2.1
  refine Sat.ob p1 (Sat.ob (decide_eq_true n1) (Sat.ob (by rw [BE.den, p2, Bool.or_true]) (Sat.ob (by rw [BE.den, show (BE.ile (.lit 0) (.var 5)).den q = true from decide_eq_true n2, Bool.or_true]) (Sat.ob (by rw [BE.den, p3, Bool.or_true]) (Sat.ob (by rw [BE.den, show (BE.ile (.lit 0) (.var 9)).den q = true from decide_eq_true n3, Bool.or_true]) (Sat.br (fun _ => Sat.fin rfl) (fun hb => ?_)))))))
  replace hb : q.iv 1 ≤ 200 ∧ q.iv 5 ≤ 200 ∧ q.iv 9 ≤ 200 := by
    simp only [D.le, D.lef, D.lt, D.ltf, D.eq, D.eqf, D.not, D.notf, D.and, D.andf, D.or, D.orf, D.inr, D.var, D.lit, D.cellB, D.beq, D.beqf, D.litI, D.varI, D.add, D.sub, D.mul, D.min, D.max, D.cellI, D.i64min, D.i64max, Int.toNat_zero] at hb
    omega
  replace hk : xBase q := ⟨hk.1, hb, hk.2⟩
  clear p1 p2 p3 n1 n2 n3 hb
  refine Sat.callK (c := rowsGood) rfl ⟨⟨hk.1.2.1, Int.le_trans hk.2.1.2.1 (by decide), fun i hi => ?_⟩, ?_⟩ (fun u => xGT u ∧ errOf (recs mkEv u 4) = 0 ∧ rowsOf (recs mkEv u 4) = some (recs mkRw u 12)) (fun e hq => ⟨⟨hk, (good_at (evs := recs mkEv (q.join 12 e) 4) hq (recs_same rfl fun i _ => by simp [recAt, mkEv, -Int.pred_toNat, Sub.nenv, assoc, CV.I, CV.B, upsI, upsB, Seg.I, Seg.B, SC.I, SC.B, IE.den, BE.den, Env.join])).1⟩, hE, (good_at (evs := recs mkEv (q.join 12 e) 4) hq (recs_same rfl fun i _ => by simp [recAt, mkEv, -Int.pred_toNat, Sub.nenv, assoc, CV.I, CV.B, upsI, upsB, Seg.I, Seg.B, SC.I, SC.B, IE.den, BE.den, Env.join])).2⟩) fun q hk => ?_
  · have := hk.2.2.1 i hi
    simpa [-Int.pred_toNat, Sub.nenv, assoc, CV.I, CV.B, upsI, upsB, Seg.I, Seg.B, SC.I, SC.B, IE.den, BE.den] using this
  · refine Eq.trans (congrArg errOf ?_) hE
    exact recs_same rfl fun i _ => by simp [recAt, mkEv, -Int.pred_toNat, Sub.nenv, assoc, CV.I, CV.B, upsI, upsB, Seg.I, Seg.B, SC.I, SC.B, IE.den, BE.den]
  clear hE
  obtain ⟨hk, hE, hA⟩ := hk
  refine Sat.callK (c := rRowsCon) rfl ⟨hk.1.1.2.1, Int.le_trans hk.1.2.1.2.1 (by decide)⟩ (fun u => xGT u ∧ xGR u) (fun e hq => ⟨hk, ?_⟩) fun q hk => ?_
  · obtain ⟨a1, a2, a3, a4⟩ := rr_callE hq (evs := recs mkEv (q.join 16 e) 4) (recs_same rfl fun i _ => by simp [recAt, mkEv, -Int.pred_toNat, Sub.nenv, assoc, CV.I, CV.B, upsI, upsB, Seg.I, Seg.B, SC.I, SC.B, IE.den, BE.den, Env.join])
    have a0 : (q.join 16 e).iv 20 = 0 := a1.trans hE
    have a5 := a3 a0
    have hA : rowsOf (recs mkEv (q.join 16 e) 4) = some (recs mkRw (q.join 16 e) 12) := hA
    rw [hA] at a5
    exact ⟨a0, a2, (Option.some.inj a5).symm⟩
  clear hE hA
  obtain ⟨hk, hR⟩ := hk
  refine Sat.callK (c := ofCon) rfl ⟨hk.1.1.2.2, Int.le_trans hk.1.2.1.2.2 (by decide), fun i hi => ?_⟩ (fun u => xGT u ∧ xGR u ∧ OfAt u (recs mkRw u 8) 21 ∧ OkSl u 21) (fun e hq => ⟨hk, hR, of_at (rows := recs mkRw (q.join 21 e) 8) hq (recs_same rfl fun i _ => by simp [recAt, mkRw, -Int.pred_toNat, Sub.nenv, assoc, CV.I, CV.B, upsI, upsB, Seg.I, Seg.B, SC.I, SC.B, IE.den, BE.den, Env.join]), ?_⟩) fun q hk => ?_
  · have := hk.1.2.2.2 i hi
    simpa [-Int.pred_toNat, Sub.nenv, assoc, CV.I, CV.B, upsI, upsB, Seg.I, Seg.B, SC.I, SC.B, IE.den, BE.den] using this
  · refine (of_at (rows := recs mkRw (q.join 21 e) 8) hq (recs_same rfl fun i _ => by simp [recAt, mkRw, -Int.pred_toNat, Sub.nenv, assoc, CV.I, CV.B, upsI, upsB, Seg.I, Seg.B, SC.I, SC.B, IE.den, BE.den, Env.join])).ok fun hb => ?_
    exact of_six hq hb
  clear hR
  obtain ⟨hk, hR, hO, hO2⟩ := hk
  refine Sat.callK (c := rOfCon) rfl ⟨hk.1.1.2.2, Int.le_trans hk.1.2.1.2.2 (by decide)⟩ (fun u => xGT u ∧ xGR u ∧ (u.bv 25 = u.bv 30 ∧ recs mkEv u 21 = recs mkEv u 26) ∧ OkSl u 21 ∧ OkSl u 26) (fun e hq => ?_) fun q hk => ?_
  · have h2 := rof_at (rows := recs mkRw (q.join 26 e) 8) hq (recs_same rfl fun i _ => by simp [recAt, mkRw, -Int.pred_toNat, Sub.nenv, assoc, CV.I, CV.B, upsI, upsB, Seg.I, Seg.B, SC.I, SC.B, IE.den, BE.den, Env.join])
    obtain ⟨c1, c2, -⟩ := of_same (q := q.join 26 e) (M := 21) (N := 26) hO h2
    exact ⟨hk, hR, ⟨c1, c2⟩, hO2, h2.1⟩
  clear hR hO hO2
  obtain ⟨hk, hR, hO, hO2, hO3⟩ := hk
  refine Sat.callK (c := eventsCon) rfl ⟨hk.1.1.1, Int.le_trans hk.1.2.1.1 (by decide)⟩ (fun u => (xGT u ∧ xGR u ∧ (u.bv 25 = u.bv 30 ∧ recs mkEv u 21 = recs mkEv u 26) ∧ OkSl u 21 ∧ OkSl u 26) ∧ OkSl u 31 ∧ recs mkEv u 31 = (recs mkBt u 0).flatMap evsOf) (fun e hq => ⟨⟨hk, hR, hO, hO2, hO3⟩, events_at (bts := recs mkBt (q.join 31 e) 0) hq (recs_same rfl fun i _ => by simp [recAt, mkBt, -Int.pred_toNat, Sub.nenv, assoc, CV.I, CV.B, upsI, upsB, Seg.I, Seg.B, SC.I, SC.B, IE.den, BE.den, Env.join])⟩) fun q hk => ?_
  clear hR hO hO2 hO3
  obtain ⟨⟨hk, hR, hO, hO2, hO3⟩, g1, g2⟩ := hk
  refine Sat.callK (c := rEventsCon) rfl ⟨hk.1.1.1, Int.le_trans hk.1.2.1.1 (by decide)⟩ (fun u => (xGT u ∧ xGR u ∧ (u.bv 25 = u.bv 30 ∧ recs mkEv u 21 = recs mkEv u 26) ∧ OkSl u 21 ∧ OkSl u 26) ∧ (OkSl u 31 ∧ recs mkEv u 31 = (recs mkBt u 0).flatMap evsOf) ∧ OkSl u 35 ∧ recs mkEv u 35 = (recs mkBt u 0).flatMap evsOf) (fun e hq => ⟨⟨hk, hR, hO, hO2, hO3⟩, ⟨g1, g2⟩, events_at (bts := recs mkBt (q.join 35 e) 0) hq (recs_same rfl fun i _ => by simp [recAt, mkBt, -Int.pred_toNat, Sub.nenv, assoc, CV.I, CV.B, upsI, upsB, Seg.I, Seg.B, SC.I, SC.B, IE.den, BE.den, Env.join])⟩) fun q hk => ?_
  clear hR hO hO2 hO3 g1 g2
  obtain ⟨⟨hk, hR, hO, hO2, hO3⟩, ⟨g1, g2⟩, g3, g4⟩ := hk
  refine Sat.callK (c := alikeCon) rfl ⟨g1, g3⟩ (fun u => (xGT u ∧ xGR u ∧ (u.bv 25 = u.bv 30 ∧ recs mkEv u 21 = recs mkEv u 26) ∧ OkSl u 21 ∧ OkSl u 26) ∧ u.bv 39 = true) (fun e hq => ⟨⟨hk, hR, hO, hO2, hO3⟩, (alike_at (a := recs mkEv (q.join 39 e) 31) (b := recs mkEv (q.join 39 e) 35) hq (recs_same rfl fun i _ => by simp [recAt, mkEv, -Int.pred_toNat, Sub.nenv, assoc, CV.I, CV.B, upsI, upsB, Seg.I, Seg.B, SC.I, SC.B, IE.den, BE.den, Env.join]) (recs_same rfl fun i _ => by simp [recAt, mkEv, -Int.pred_toNat, Sub.nenv, assoc, CV.I, CV.B, upsI, upsB, Seg.I, Seg.B, SC.I, SC.B, IE.den, BE.den, Env.join])).2 ?_⟩) fun q hk => ?_
  · exact g2.trans g4.symm
  clear hR hO hO2 hO3 g1 g2 g3 g4
  obtain ⟨⟨hk, hR, hO, hO2, hO3⟩, hb⟩ := hk
  refine Sat.br (fun _ => ?_) (fun h => ?_)
  rotate_left
  · have h : q.bv 39 = false := h
    rw [hb] at h
    cases h
  clear hb
  refine Sat.callK (c := rSameCon) rfl ⟨hk.2, hR.2.1⟩ (fun u => (xGT u ∧ xGR u ∧ (u.bv 25 = u.bv 30 ∧ recs mkEv u 21 = recs mkEv u 26) ∧ OkSl u 21 ∧ OkSl u 26) ∧ u.bv 40 = true) (fun e hq => ⟨⟨hk, hR, hO, hO2, hO3⟩, (rsame_at (a := recs mkRw (q.join 40 e) 12) (b := recs mkRw (q.join 40 e) 16) hq (recs_same rfl fun i _ => by simp [recAt, mkRw, -Int.pred_toNat, Sub.nenv, assoc, CV.I, CV.B, upsI, upsB, Seg.I, Seg.B, SC.I, SC.B, IE.den, BE.den, Env.join]) (recs_same rfl fun i _ => by simp [recAt, mkRw, -Int.pred_toNat, Sub.nenv, assoc, CV.I, CV.B, upsI, upsB, Seg.I, Seg.B, SC.I, SC.B, IE.den, BE.den, Env.join])).2 ?_⟩) fun q hk => ?_
  · exact hR.2.2.symm
  clear hR hO hO2 hO3
  obtain ⟨⟨hk, hR, hO, hO2, hO3⟩, hb⟩ := hk
  refine Sat.br (fun _ => ?_) (fun h => ?_)
  rotate_left
  · have h : q.bv 40 = false := h
    rw [hb] at h
    cases h
  clear hb
  refine Sat.br (fun _ => ?_) (fun h => ?_)
  rotate_left
  · have h : decide ((0 : Int) = q.iv 20) = false := h
    rw [hR.1] at h
    exact absurd h (by decide)
  clear hR
  refine Sat.callK (c := alikeCon) rfl ⟨hO2, hO3⟩ (fun u => (xGT u ∧ (u.bv 25 = u.bv 30 ∧ recs mkEv u 21 = recs mkEv u 26)) ∧ u.bv 41 = true) (fun e hq => ⟨⟨hk, hO⟩, (alike_at (a := recs mkEv (q.join 41 e) 21) (b := recs mkEv (q.join 41 e) 26) hq (recs_same rfl fun i _ => by simp [recAt, mkEv, -Int.pred_toNat, Sub.nenv, assoc, CV.I, CV.B, upsI, upsB, Seg.I, Seg.B, SC.I, SC.B, IE.den, BE.den, Env.join]) (recs_same rfl fun i _ => by simp [recAt, mkEv, -Int.pred_toNat, Sub.nenv, assoc, CV.I, CV.B, upsI, upsB, Seg.I, Seg.B, SC.I, SC.B, IE.den, BE.den, Env.join])).2 ?_⟩) fun q hk => ?_
  · exact hO.2
  clear hO hO2 hO3
  obtain ⟨⟨hk, hO⟩, hb⟩ := hk
  refine Sat.br (fun h => ?_) (fun _ => ?_)
  · have h : (!(q.bv 41)) = true := h
    rw [hb] at h
    cases h
  clear hb
  refine Sat.br (fun _ => ?_) (fun h1 => ?_)
  · refine Sat.callK (c := selfCon) rfl trivial xGT (fun _ _ => hk) fun q hk => ?_
    exact xGTail_sat q hk
  · have h1 : ((q.bv 25 == q.bv 30) && !(q.bv 25)) = false := h1
    rw [hO.1, beq_self_eq_true, Bool.true_and] at h1
    refine Sat.br (fun _ => ?_) (fun h => ?_)
    · refine Sat.br (fun h => ?_) (fun _ => ?_)
      · have h : (!(q.bv 25)) = true := h
        rw [hO.1, h1] at h
        cases h
      · exact xGTail_sat q hk
    · have h : (q.bv 25 == q.bv 30) = false := h
      rw [hO.1, beq_self_eq_true] at h
      cases h
theorem xG_con : ConOK Tryd.prog lawX xGPre (lawPostG ss5 shX) :=
  con_ok tabOK (E := xGE) (cs := xGSem) rfl xGSem_ok schedOK rfl xG_run (by kernel_rfl) (fun ρ _ p hp => by cases hp) xG_sat
end Go.Proofs.YtjhnfmfajbghbaaDoor
