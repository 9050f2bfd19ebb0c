/- 'tookProtect' -/
import Derived.Test.YthomdlajobnmnaaDoorRE
set_option linter.unusedSimpArgs false
set_option linter.unusedVariables false
namespace Go.Proofs.YthomdlajobnmnaaDoor
open Go.Rex
noncomputable def tProtE : Ex := { sched := sched, loops := [], cons := [keepCon, spanCon], fin := tProtCon }
def tProtOut : Out :=
 .br (.ieq (.var 22) (.lit 7))
 (.fin { lo := 77, lob := 4, iv := [(143, yv 70), (138, yv 65), (137, yv 64), (136, yv 63), (135, yv 62), (134, yv 61), (133, yv 60), (132, yv 59), (130, yv 57), (129, yv 56), (126, yv 53), (125, yv 52), (142, yv 69), (123, yv 50), (122, yv 49), (120, yv 47), (118, yv 45), (117, yv 44), (116, yv 43), (115, yv 42), (113, yv 40), (112, yv 39), (111, yv 38), (110, yv 37), (108, .lit 0), (107, .lit 0), (106, .lit 0), (105, .lit 0), (103, .lit 0), (102, .lit 0), (101, .lit 0), (100, .lit 0), (99, yv 7), (98, yv 6), (97, yv 5), (96, .lit 1), (95, .lit 5), (94, yv 21), (93, yv 20), (92, yv 19), (91, yv 18), (89, yv 16), (88, yv 15), (87, yv 14), (86, yv 13), (84, yv 11), (83, yv 10), (82, yv 9), (81, yv 8), (80, yv 7), (79, yv 6), (78, yv 5), (77, yv 4)], bv := [(140, yw 67), (139, yw 66), (131, yw 58), (128, yw 55), (124, yw 51), (121, yw 48), (119, yw 46), (114, yw 41), (109, .lit false), (104, .lit false), (90, yw 17), (85, yw 12)], ct := [(143, yu 70 59 7 yN 0), (142, yu 69 70 7 yN 0), (141, yu 68 49 5 yW 0), (127, yl 54 9 5 50 yW 0)], bk := [(6, yc 3 7), (5, yc 2 7), (4, yc 1 5)] })
 (.br (.ieq (.var 22) (.lit 5))
  (.br (.or (.ieq (.var 0) (.lit 3)) (.ieq (.var 0) (.lit 5)))
   (.fin { lo := 77, lob := 4, iv := [(143, yv 70), (138, yv 65), (137, yv 64), (136, yv 63), (135, yv 62), (134, yv 61), (133, yv 60), (132, yv 59), (130, yv 57), (129, yv 56), (126, yv 53), (125, yv 52), (142, yv 69), (123, yv 50), (122, yv 49), (120, yv 47), (118, yv 45), (117, yv 44), (116, yv 43), (115, yv 42), (113, yv 74), (112, yv 73), (111, yv 72), (110, yv 71), (108, .lit 0), (107, .lit 0), (106, .lit 0), (105, .lit 0), (103, .lit 0), (102, .lit 0), (101, .lit 0), (100, .lit 0), (99, .lit 24), (98, .lit 0), (97, .lit 0), (96, .lit 1), (95, .lit 6), (94, yv 21), (93, yv 20), (92, yv 19), (91, yv 18), (89, yv 16), (88, yv 15), (87, yv 14), (86, yv 13), (84, yv 11), (83, yv 10), (82, yv 9), (81, yv 8), (80, yv 7), (79, yv 6), (78, yv 5), (77, yv 4)], bv := [(140, yw 67), (139, yw 66), (131, yw 58), (128, yw 55), (124, yw 51), (121, yw 48), (119, yw 46), (114, yw 75), (109, .lit false), (104, .lit false), (90, yw 17), (85, yw 12)], ct := [(143, yu 70 59 7 yN 0), (142, yu 69 70 7 yN 0), (141, yu 68 49 5 yW 0), (127, yl 54 9 5 50 yW 0)], bk := [(6, yc 3 7), (5, yc 2 7), (4, yc 1 5)] })
   (.br (.ieq (.var 0) (.lit 2))
    (.ob (.or (.ieq (.var 71) (.lit 0)) (.ile (.lit 0) (.var 18))) <|
     .ob (.or (.ieq (.var 71) (.lit 0)) (.ilt (.var 18) (.lit 9))) <|
     .br (.not (.ieq (.var 71) (.lit 0)))
     (.br (.not (.and (.ieq (.cell 54 (.var 18) (.lit 0) 0) (.var 71)) (.and (.ieq (.cell 54 (.var 18) (.lit 0) 1) (.var 72)) (.and (.ieq (.cell 54 (.var 18) (.lit 0) 2) (.lit 0)) (.and (.ieq (.cell 54 (.var 18) (.lit 0) 3) (.lit 0)) (.not (.cell 54 (.var 18) (.lit 0) 4)))))))
      (.ob (.ile (.lit 0) (.var 18)) <|
       .ob (.ilt (.var 18) (.lit 9)) <|
       .call 0 { lo := 0, lob := 0, iv := [(1, yv 18), (0, yv 1)] } 77 <|
       .fin { lo := 77, lob := 4, iv := [(143, yv 70), (138, yv 65), (137, yv 64), (136, yv 63), (135, yv 62), (134, yv 61), (133, yv 60), (132, yv 59), (130, yv 57), (129, yv 56), (126, yv 53), (125, yv 52), (142, yv 69), (123, yv 50), (122, yv 49), (120, yv 47), (118, yv 45), (117, yv 44), (116, yv 43), (115, yv 42), (113, yv 74), (112, yv 73), (111, yv 72), (110, yv 71), (108, .lit 0), (107, .lit 0), (106, yv 72), (105, yv 71), (103, .lit 0), (102, .lit 0), (101, .lit 0), (100, .lit 0), (99, .add (.add (.lit 25) (.mul (.var 1) (.lit 9))) (.var 18)), (98, .lit 0), (97, .lit 0), (96, .lit 2), (95, .lit 7), (94, yv 21), (93, yv 20), (92, yv 19), (91, yv 18), (89, yv 16), (88, yv 15), (87, yv 14), (86, yv 13), (84, yv 11), (83, yv 10), (82, yv 9), (81, yv 8), (80, yv 7), (79, yv 6), (78, yv 5), (77, yv 4)], bv := [(140, yw 67), (139, yw 66), (131, yw 58), (128, yw 55), (124, yw 51), (121, yw 48), (119, yw 46), (114, yw 75), (109, .lit false), (104, .lit false), (90, yw 17), (85, yw 12)], ct := [(143, yu 70 59 7 yN 0), (142, yu 69 70 7 yN 0), (141, yu 68 49 5 yW 0), (127, .up { r := 54, n1 := .lit 9, s1 := 5, lo := 50, ks := yW } 0 [⟨0, (.var 18), (.lit 0), 4, .bool (.lit false)⟩, ⟨0, (.var 18), (.lit 0), 3, .int .i64 (.lit 0)⟩, ⟨0, (.var 18), (.lit 0), 2, .int .i64 (.lit 0)⟩, ⟨0, (.var 18), (.lit 0), 1, .int .i64 (.var 72)⟩, ⟨0, (.var 18), (.lit 0), 0, .int .i64 (.var 71)⟩] (.lit 0))], bk := [(6, yc 3 7), (5, yc 2 7), (4, yc 1 5)] })
      (.fin { lo := 77, lob := 4, iv := [(138, yv 74), (137, yv 73), (136, yv 72), (135, yv 71), (134, yv 61), (133, yv 60), (132, yv 59), (130, yv 57), (129, yv 56), (126, .lit 0), (125, .lit 0), (123, .lit 0), (122, .lit 0), (120, .lit 0), (118, .lit 0), (117, .lit 0), (116, .lit 0), (115, .lit 0), (113, .lit 0), (112, .lit 0), (111, .lit 0), (110, .lit 0), (108, .lit 0), (107, .lit 0), (106, .lit 0), (105, .lit 0), (103, .lit 0), (102, .lit 0), (101, .lit 0), (100, .lit 0), (99, .lit 0), (98, .lit 0), (97, .lit 0), (96, .lit 0), (95, .lit 0), (94, .lit 0), (93, .lit 0), (92, .lit 0), (91, .lit 0), (89, .lit 0), (88, .lit 0), (87, .lit 0), (86, .lit 0), (84, .lit 0), (83, .lit 0), (82, .lit 0), (81, .lit 0), (80, .lit 0), (79, .lit 0), (78, .lit 0), (77, .lit 0)], bv := [(140, .lit true), (139, yw 75), (131, yw 58), (128, yw 55), (124, .lit true), (121, .lit true), (119, .lit false), (114, .lit false), (109, .lit false), (104, .lit false), (90, .lit false), (85, .lit false)], ct := [(143, yu 70 59 7 yN 0), (127, yl 54 9 5 50 yW 0)], bk := [(6, yc 3 7)], nb := [5, 4, 5, 4] }))
     (.fin { lo := 77, lob := 4, iv := [(138, yv 74), (137, yv 73), (136, yv 72), (135, yv 71), (134, yv 61), (133, yv 60), (132, yv 59), (130, yv 57), (129, yv 56), (126, .lit 0), (125, .lit 0), (123, .lit 0), (122, .lit 0), (120, .lit 0), (118, .lit 0), (117, .lit 0), (116, .lit 0), (115, .lit 0), (113, .lit 0), (112, .lit 0), (111, .lit 0), (110, .lit 0), (108, .lit 0), (107, .lit 0), (106, .lit 0), (105, .lit 0), (103, .lit 0), (102, .lit 0), (101, .lit 0), (100, .lit 0), (99, .lit 0), (98, .lit 0), (97, .lit 0), (96, .lit 0), (95, .lit 0), (94, .lit 0), (93, .lit 0), (92, .lit 0), (91, .lit 0), (89, .lit 0), (88, .lit 0), (87, .lit 0), (86, .lit 0), (84, .lit 0), (83, .lit 0), (82, .lit 0), (81, .lit 0), (80, .lit 0), (79, .lit 0), (78, .lit 0), (77, .lit 0)], bv := [(140, .lit true), (139, yw 75), (131, yw 58), (128, yw 55), (124, .lit true), (121, .lit true), (119, .lit false), (114, .lit false), (109, .lit false), (104, .lit false), (90, .lit false), (85, .lit false)], ct := [(143, yu 70 59 7 yN 0), (127, yl 54 9 5 50 yW 0)], bk := [(6, yc 3 7)], nb := [5, 4, 5, 4] }))
    (.fin { lo := 77, lob := 4, iv := [(138, yv 74), (137, yv 73), (136, yv 72), (135, yv 71), (134, yv 61), (133, yv 60), (132, yv 59), (130, yv 57), (129, yv 56), (126, .lit 0), (125, .lit 0), (123, .lit 0), (122, .lit 0), (120, .lit 0), (118, .lit 0), (117, .lit 0), (116, .lit 0), (115, .lit 0), (113, .lit 0), (112, .lit 0), (111, .lit 0), (110, .lit 0), (108, .lit 0), (107, .lit 0), (106, .lit 0), (105, .lit 0), (103, .lit 0), (102, .lit 0), (101, .lit 0), (100, .lit 0), (99, .lit 0), (98, .lit 0), (97, .lit 0), (96, .lit 0), (95, .lit 0), (94, .lit 0), (93, .lit 0), (92, .lit 0), (91, .lit 0), (89, .lit 0), (88, .lit 0), (87, .lit 0), (86, .lit 0), (84, .lit 0), (83, .lit 0), (82, .lit 0), (81, .lit 0), (80, .lit 0), (79, .lit 0), (78, .lit 0), (77, .lit 0)], bv := [(140, .lit true), (139, yw 75), (131, yw 58), (128, yw 55), (124, .lit true), (121, .lit true), (119, .lit false), (114, .lit false), (109, .lit false), (104, .lit false), (90, .lit false), (85, .lit false)], ct := [(143, yu 70 59 7 yN 0), (127, yl 54 9 5 50 yW 0)], bk := [(6, yc 3 7)], nb := [5, 4, 5, 4] })))
  (.br (.ieq (.var 22) (.lit 6))
   (.br (.ieq (.var 0) (.lit 3))
    (.ob (.ile (.lit 0) (.var 18)) <|
     .ob (.ilt (.var 18) (.lit 9)) <|
     .br (.not (.and (.ieq (.cell 54 (.var 18) (.lit 0) 0) (.lit 0)) (.and (.ieq (.cell 54 (.var 18) (.lit 0) 1) (.lit 0)) (.and (.ieq (.cell 54 (.var 18) (.lit 0) 2) (.lit 0)) (.and (.ieq (.cell 54 (.var 18) (.lit 0) 3) (.lit 0)) (.not (.cell 54 (.var 18) (.lit 0) 4)))))))
     (.br (.ieq (.cell 54 (.var 18) (.lit 0) 3) (.var 74))
      (.fin { lo := 77, lob := 4, iv := [(138, yv 40), (137, yv 39), (136, yv 38), (135, yv 37), (134, yv 61), (133, yv 60), (132, yv 59), (130, yv 57), (129, yv 56), (126, .lit 0), (125, .lit 0), (123, .lit 0), (122, .lit 0), (120, .lit 0), (118, .lit 0), (117, .lit 0), (116, .lit 0), (115, .lit 0), (113, .lit 0), (112, .lit 0), (111, .lit 0), (110, .lit 0), (108, .lit 0), (107, .lit 0), (106, .lit 0), (105, .lit 0), (103, .lit 0), (102, .lit 0), (101, .lit 0), (100, .lit 0), (99, .lit 0), (98, .lit 0), (97, .lit 0), (96, .lit 0), (95, .lit 0), (94, .lit 0), (93, .lit 0), (92, .lit 0), (91, .lit 0), (89, .lit 0), (88, .lit 0), (87, .lit 0), (86, .lit 0), (84, .lit 0), (83, .lit 0), (82, .lit 0), (81, .lit 0), (80, .lit 0), (79, .lit 0), (78, .lit 0), (77, .lit 0)], bv := [(140, .lit true), (139, yw 41), (131, yw 58), (128, yw 55), (124, .lit true), (121, .lit true), (119, .lit false), (114, .lit false), (109, .lit false), (104, .lit false), (90, .lit false), (85, .lit false)], ct := [(143, yu 70 59 7 yN 0), (127, yl 54 9 5 50 yW 0)], bk := [(6, yc 3 7)], nb := [5, 4, 5, 4] })
      (.call 0 { lo := 0, lob := 0, iv := [(1, yv 18), (0, yv 1)] } 77 <|
       .fin { lo := 77, lob := 4, iv := [(143, yv 70), (138, yv 65), (137, yv 64), (136, yv 63), (135, yv 62), (134, yv 61), (133, yv 60), (132, yv 59), (130, yv 57), (129, yv 56), (126, yv 53), (125, yv 52), (142, yv 69), (123, yv 50), (122, yv 49), (120, yv 47), (118, yv 45), (117, yv 44), (116, yv 43), (115, yv 42), (113, yv 40), (112, yv 39), (111, yv 38), (110, yv 37), (108, yv 74), (107, .lit 0), (106, .lit 0), (105, .lit 0), (103, .lit 0), (102, .lit 0), (101, .lit 0), (100, .lit 0), (99, .add (.add (.lit 25) (.mul (.var 1) (.lit 9))) (.var 18)), (98, .lit 0), (97, .lit 0), (96, .lit 2), (95, .lit 7), (94, yv 21), (93, yv 20), (92, yv 19), (91, yv 18), (89, yv 16), (88, yv 15), (87, yv 14), (86, yv 13), (84, yv 11), (83, yv 10), (82, yv 9), (81, yv 8), (80, yv 7), (79, yv 6), (78, yv 5), (77, yv 4)], bv := [(140, yw 67), (139, yw 66), (131, yw 58), (128, yw 55), (124, yw 51), (121, yw 48), (119, yw 46), (114, yw 41), (109, .lit false), (104, .lit false), (90, yw 17), (85, yw 12)], ct := [(143, yu 70 59 7 yN 0), (142, yu 69 70 7 yN 0), (141, yu 68 49 5 yW 0), (127, .up { r := 54, n1 := .lit 9, s1 := 5, lo := 50, ks := yW } 0 [⟨0, (.var 18), (.lit 0), 4, .bool (.lit false)⟩, ⟨0, (.var 18), (.lit 0), 3, .int .i64 (.var 74)⟩, ⟨0, (.var 18), (.lit 0), 2, .int .i64 (.lit 0)⟩, ⟨0, (.var 18), (.lit 0), 1, .int .i64 (.lit 0)⟩, ⟨0, (.var 18), (.lit 0), 0, .int .i64 (.lit 0)⟩] (.lit 0))], bk := [(6, yc 3 7), (5, yc 2 7), (4, yc 1 5)] }))
     (.call 0 { lo := 0, lob := 0, iv := [(1, yv 18), (0, yv 1)] } 77 <|
      .fin { lo := 77, lob := 4, iv := [(143, yv 70), (138, yv 65), (137, yv 64), (136, yv 63), (135, yv 62), (134, yv 61), (133, yv 60), (132, yv 59), (130, yv 57), (129, yv 56), (126, yv 53), (125, yv 52), (142, yv 69), (123, yv 50), (122, yv 49), (120, yv 47), (118, yv 45), (117, yv 44), (116, yv 43), (115, yv 42), (113, yv 40), (112, yv 39), (111, yv 38), (110, yv 37), (108, yv 74), (107, .lit 0), (106, .lit 0), (105, .lit 0), (103, .lit 0), (102, .lit 0), (101, .lit 0), (100, .lit 0), (99, .add (.add (.lit 25) (.mul (.var 1) (.lit 9))) (.var 18)), (98, .lit 0), (97, .lit 0), (96, .lit 2), (95, .lit 7), (94, yv 21), (93, yv 20), (92, yv 19), (91, yv 18), (89, yv 16), (88, yv 15), (87, yv 14), (86, yv 13), (84, yv 11), (83, yv 10), (82, yv 9), (81, yv 8), (80, yv 7), (79, yv 6), (78, yv 5), (77, yv 4)], bv := [(140, yw 67), (139, yw 66), (131, yw 58), (128, yw 55), (124, yw 51), (121, yw 48), (119, yw 46), (114, yw 41), (109, .lit false), (104, .lit false), (90, yw 17), (85, yw 12)], ct := [(143, yu 70 59 7 yN 0), (142, yu 69 70 7 yN 0), (141, yu 68 49 5 yW 0), (127, .up { r := 54, n1 := .lit 9, s1 := 5, lo := 50, ks := yW } 0 [⟨0, (.var 18), (.lit 0), 4, .bool (.lit false)⟩, ⟨0, (.var 18), (.lit 0), 3, .int .i64 (.var 74)⟩, ⟨0, (.var 18), (.lit 0), 2, .int .i64 (.lit 0)⟩, ⟨0, (.var 18), (.lit 0), 1, .int .i64 (.lit 0)⟩, ⟨0, (.var 18), (.lit 0), 0, .int .i64 (.lit 0)⟩] (.lit 0))], bk := [(6, yc 3 7), (5, yc 2 7), (4, yc 1 5)] }))
    (.br (.and (.var 55) (.ieq (.var 57) (.var 74)))
     (.fin { lo := 77, lob := 4, iv := [(138, yv 40), (137, yv 39), (136, yv 38), (135, yv 37), (134, yv 61), (133, yv 60), (132, yv 59), (130, yv 57), (129, yv 56), (126, .lit 0), (125, .lit 0), (123, .lit 0), (122, .lit 0), (120, .lit 0), (118, .lit 0), (117, .lit 0), (116, .lit 0), (115, .lit 0), (113, .lit 0), (112, .lit 0), (111, .lit 0), (110, .lit 0), (108, .lit 0), (107, .lit 0), (106, .lit 0), (105, .lit 0), (103, .lit 0), (102, .lit 0), (101, .lit 0), (100, .lit 0), (99, .lit 0), (98, .lit 0), (97, .lit 0), (96, .lit 0), (95, .lit 0), (94, .lit 0), (93, .lit 0), (92, .lit 0), (91, .lit 0), (89, .lit 0), (88, .lit 0), (87, .lit 0), (86, .lit 0), (84, .lit 0), (83, .lit 0), (82, .lit 0), (81, .lit 0), (80, .lit 0), (79, .lit 0), (78, .lit 0), (77, .lit 0)], bv := [(140, .lit true), (139, yw 41), (131, yw 58), (128, yw 55), (124, .lit true), (121, .lit true), (119, .lit false), (114, .lit false), (109, .lit false), (104, .lit false), (90, .lit false), (85, .lit false)], ct := [(143, yu 70 59 7 yN 0), (127, yl 54 9 5 50 yW 0)], bk := [(6, yc 3 7)], nb := [5, 4, 5, 4] })
     (.br (.var 55)
      (.call 1 { lo := 0, lob := 0, iv := [(0, yv 1)] } 77 <|
       .fin { lo := 77, lob := 4, iv := [(143, yv 70), (138, yv 65), (137, yv 64), (136, yv 63), (135, yv 62), (134, yv 61), (133, yv 60), (132, yv 59), (130, yv 74), (129, yv 56), (126, yv 53), (125, yv 52), (142, yv 69), (123, yv 50), (122, yv 49), (120, yv 47), (118, yv 45), (117, yv 44), (116, yv 43), (115, yv 42), (113, yv 40), (112, yv 39), (111, yv 38), (110, yv 37), (108, yv 56), (107, yv 74), (106, .lit 0), (105, .lit 0), (103, .lit 0), (102, .lit 0), (101, .lit 0), (100, .lit 0), (99, .add (.lit 79) (.var 1)), (98, .lit 0), (97, .lit 0), (96, .lit 2), (95, .lit 7), (94, yv 21), (93, yv 20), (92, yv 19), (91, yv 18), (89, yv 16), (88, yv 15), (87, yv 14), (86, yv 13), (84, yv 11), (83, yv 10), (82, yv 9), (81, yv 8), (80, yv 7), (79, yv 6), (78, yv 5), (77, yv 4)], bv := [(140, yw 67), (139, yw 66), (131, yw 58), (128, .lit true), (124, yw 51), (121, yw 48), (119, yw 46), (114, yw 41), (109, .lit true), (104, .lit false), (90, yw 17), (85, yw 12)], ct := [(143, yu 70 59 7 yN 0), (142, yu 69 70 7 yN 0), (141, yu 68 49 5 yW 0), (127, yl 54 9 5 50 yW 0)], bk := [(6, yc 3 7), (5, yc 2 7), (4, yc 1 5)] })
      (.call 1 { lo := 0, lob := 0, iv := [(0, yv 1)] } 77 <|
       .fin { lo := 77, lob := 4, iv := [(143, yv 70), (138, yv 65), (137, yv 64), (136, yv 63), (135, yv 62), (134, yv 61), (133, yv 60), (132, yv 59), (130, yv 74), (129, yv 74), (126, yv 53), (125, yv 52), (142, yv 69), (123, yv 50), (122, yv 49), (120, yv 47), (118, yv 45), (117, yv 44), (116, yv 43), (115, yv 42), (113, yv 40), (112, yv 39), (111, yv 38), (110, yv 37), (108, yv 74), (107, yv 74), (106, .lit 0), (105, .lit 0), (103, .lit 0), (102, .lit 0), (101, .lit 0), (100, .lit 0), (99, .add (.lit 79) (.var 1)), (98, .lit 0), (97, .lit 0), (96, .lit 2), (95, .lit 7), (94, yv 21), (93, yv 20), (92, yv 19), (91, yv 18), (89, yv 16), (88, yv 15), (87, yv 14), (86, yv 13), (84, yv 11), (83, yv 10), (82, yv 9), (81, yv 8), (80, yv 7), (79, yv 6), (78, yv 5), (77, yv 4)], bv := [(140, yw 67), (139, yw 66), (131, yw 58), (128, .lit true), (124, yw 51), (121, yw 48), (119, yw 46), (114, yw 41), (109, .lit true), (104, .lit false), (90, yw 17), (85, yw 12)], ct := [(143, yu 70 59 7 yN 0), (142, yu 69 70 7 yN 0), (141, yu 68 49 5 yW 0), (127, yl 54 9 5 50 yW 0)], bk := [(6, yc 3 7), (5, yc 2 7), (4, yc 1 5)] }))))
   (.fin { lo := 77, lob := 4, iv := [(143, yv 70), (138, yv 65), (137, yv 64), (136, yv 63), (135, yv 62), (134, yv 61), (133, yv 60), (132, yv 59), (130, yv 57), (129, yv 56), (126, yv 53), (125, yv 52), (142, yv 69), (123, yv 50), (122, yv 49), (120, yv 47), (118, yv 45), (117, yv 44), (116, yv 43), (115, yv 42), (113, yv 40), (112, yv 39), (111, yv 38), (110, yv 37), (108, yv 35), (107, yv 34), (106, yv 33), (105, yv 32), (103, yv 30), (102, yv 29), (101, yv 28), (100, yv 27), (99, yv 26), (98, yv 25), (97, yv 24), (96, yv 23), (95, yv 22), (94, yv 21), (93, yv 20), (92, yv 19), (91, yv 18), (89, yv 16), (88, yv 15), (87, yv 14), (86, yv 13), (84, yv 11), (83, yv 10), (82, yv 9), (81, yv 8), (80, yv 7), (79, yv 6), (78, yv 5), (77, yv 4)], bv := [(140, yw 67), (139, yw 66), (131, yw 58), (128, yw 55), (124, yw 51), (121, yw 48), (119, yw 46), (114, yw 41), (109, yw 36), (104, yw 31), (90, yw 17), (85, yw 12)], ct := [(143, yu 70 59 7 yN 0), (142, yu 69 70 7 yN 0), (141, yu 68 49 5 yW 0), (127, yl 54 9 5 50 yW 0)], bk := [(6, yc 3 7), (5, yc 2 7), (4, yc 1 5)] })))
theorem tProt_run : exec tab tProtE 8000 [] (cfg0 tProtCon.f tProtCon.nv [] tProtCon.gl tProtCon.hp tProtCon.args) = tProtOut := by kernel_rfl
def tProtPre (ρ : Env) : Prop := OkR ρ 4 ∧ StR ρ ∧ 0 ≤ ρ.iv 18 ∧ ρ.iv 18 < 9
def tProtPost (ρ : Env) : Prop := OkR ρ 77 ∧ rsRd ρ 0 77 = (rsRd ρ 0 4).tookProtect (rpRd ρ 71)
theorem upd_holds {q : Env} {n : Int} {w : Wd} (i : Nat) : ((rsRd q 0 4).hold n w).holds i = if i = n.toNat then w else mkW (q.ic 54 i 0) (q.bc 54 i 0) := rfl
set_option maxHeartbeats 4000000 in
theorem tProt_sat (ρ : Env) (hpre : tProtPre ρ.num) : Sat tProtPost bSem [] ρ tProtOut := by
 replace hpre : tProtPre ρ := hpre
 obtain ⟨⟨o1, o2, o3⟩, ⟨s1, s2, s3, s4⟩, n1, n2⟩ := hpre
 unfold tProtOut
 refine Sat.br (fun c => ?_) (fun c => ?_)
 ·simp only [Da] at c
  have hm : (rsRd ρ 0 4).tookProtect (rpRd ρ 71) = (rsRd ρ 0 4).load 5 (ρ.iv 5) (ρ.iv 6) (ρ.iv 7) := if_pos c
  exact Sat.fin ⟨⟨(by first | exact o1 | exact o2 | exact o3 | exact okNil rfl rfl | assumption), (by first | exact o2 | exact ⟨okNil rfl rfl, Int.le_refl 0, .inl rfl⟩ | assumption), (by first | exact o1 | exact o2 | exact o3 | exact okNil rfl rfl | assumption)⟩, Eq.trans (b := (rsRd ρ 0 4).load 5 (ρ.iv 5) (ρ.iv 6) (ρ.iv 7)) (RS.ext' rfl rfl rfl rfl rfl rfl rW1 rD1 rfl rfl rfl rfl rH1 rfl rN1 rfl rfl) (Eq.symm (hm))⟩
 simp only [Da] at c
 refine Sat.br (fun c2 => ?_) (fun c2 => ?_)
 ·simp only [Da] at c2
  refine Sat.br (fun c3 => ?_) (fun c3 => ?_)
  ·simp only [Da] at c3
   have hm : (rsRd ρ 0 4).tookProtect (rpRd ρ 71) = ({ rsRd ρ 0 4 with word := wdRd ρ 71 } : RS).era 6 := (if_neg c).trans ((if_pos c2).trans (if_pos c3))
   exact Sat.fin ⟨⟨(by first | exact o1 | exact o2 | exact o3 | exact okNil rfl rfl | assumption), (by first | exact o2 | exact ⟨okNil rfl rfl, Int.le_refl 0, .inl rfl⟩ | assumption), (by first | exact o1 | exact o2 | exact o3 | exact okNil rfl rfl | assumption)⟩, Eq.trans (b := ({ rsRd ρ 0 4 with word := wdRd ρ 71 } : RS).era 6) (RS.ext' rfl rfl rfl rfl rfl rfl rW1 rD1 rfl rfl rfl rfl rH1 rfl rN1 rfl rfl) (Eq.symm (hm))⟩
  simp only [Da] at c3
  have nd : ¬ (rsRd ρ 0 4).dating := fun h : ρ.iv 0 = 3 ∨ ρ.iv 0 = 5 => by omega
  refine Sat.br (fun c4 => ?_) (fun c4 => ?_)
  ·simp only [Da] at c4
   refine Sat.ob (by simp only [Da]; omega) (Sat.ob (by simp only [Da]; omega) (Sat.br (fun c5 => ?_) (fun c5 => ?_)))
   ·simp only [Da] at c5
    refine Sat.br (fun c6 => ?_) (fun c6 => ?_)
    ·simp only [Da] at c6
     have hne : (rsRd ρ 0 4).holds (ρ.iv 18).toNat ≠ Wd.ref' (wdRd ρ 71) := fun h => by
      have h' := wd_eq'.1 h
      simp only [rsRd, mkW, Wd.ref', wdRd] at h'
      simp_all
     have hm : (rsRd ρ 0 4).tookProtect (rpRd ρ 71) = ({ rsRd ρ 0 4 with word := wdRd ρ 71 } : RS).post 7 (ρ.iv 18) (Wd.ref' (wdRd ρ 71)) := (if_neg c).trans ((if_pos c2).trans ((if_neg nd).trans (if_pos ⟨c4, c5, hne⟩)))
     refine Sat.ob (decide_eq_true n1) (Sat.ob (by simp only [Da]; omega) (Sat.callK (c := keepCon) rfl ⟨⟨s1, s2⟩, n1, n2⟩ (fun r => ((OkR r 4) ∧ 0 ≤ r.iv 18) ∧ (rsRd r 0 4).tookProtect (rpRd r 71) = ({ rsRd r 0 4 with word := wdRd r 71 } : RS).post 7 (r.iv 18) (Wd.ref' (wdRd r 71))) (fun e _ => ⟨⟨⟨o1, o2, o3⟩, n1⟩, hm⟩) fun r hr => ?_))
     obtain ⟨⟨⟨o1, o2, o3⟩, i1⟩, hm⟩ := hr
     refine Sat.fin ⟨⟨(by first | exact o1 | exact o2 | exact o3 | exact okNil rfl rfl | assumption), (by first | exact o2 | exact ⟨okNil rfl rfl, Int.le_refl 0, .inl rfl⟩ | assumption), (by first | exact o1 | exact o2 | exact o3 | exact okNil rfl rfl | assumption)⟩, Eq.trans (b := ({ rsRd r 0 4 with word := wdRd r 71 } : RS).post 7 (r.iv 18) (Wd.ref' (wdRd r 71))) (RS.ext' rfl rfl rfl rfl rfl rfl rW1 rD1 rfl rfl rfl rfl ?_ rfl rN1 rfl rfl) (Eq.symm (hm))⟩
     intro i
     show _ = if i = (r.iv 18).toNat then Wd.ref' (wdRd r 71) else mkW (r.ic 54 i 0) (r.bc 54 i 0)
     by_cases h : i = (r.iv 18).toNat
     ·subst h
      simp [rsRd, mkW, Wd.ref', wdRd, -Int.pred_toNat, Sub.nenv, assoc, CV.I, CV.B, upsI, upsB, Seg.I, Seg.B, SC.I, SC.B, IE.den, BE.den]
     ·simp [rsRd, mkW, -Int.pred_toNat, Sub.nenv, assoc, CV.I, CV.B, upsI, upsB, Seg.I, Seg.B, SC.I, SC.B, IE.den, BE.den, h, Ne.symm h]
    ·simp only [Da] at c6
     have he : (rsRd ρ 0 4).holds (ρ.iv 18).toNat = Wd.ref' (wdRd ρ 71) := by
      apply wd_eq'.2
      simp only [rsRd, mkW, Wd.ref', wdRd]
      simp_all
     have hm : (rsRd ρ 0 4).tookProtect (rpRd ρ 71) = (rsRd ρ 0 4).finish ⟨wdRd ρ 71, true⟩ := (if_neg c).trans ((if_pos c2).trans ((if_neg nd).trans (if_neg (fun h => h.2.2 he))))
     exact Sat.fin ⟨⟨(by first | exact o1 | exact o2 | exact o3 | exact okNil rfl rfl | assumption), (by first | exact o2 | exact ⟨okNil rfl rfl, Int.le_refl 0, .inl rfl⟩ | assumption), (by first | exact o1 | exact o2 | exact o3 | exact okNil rfl rfl | assumption)⟩, Eq.trans (b := (rsRd ρ 0 4).finish ⟨wdRd ρ 71, true⟩) (RS.ext' rfl rfl rfl rfl rfl rfl rW1 rD1 rfl rfl rfl rfl rH1 rfl rN1 rfl rfl) (Eq.symm (hm))⟩
   ·simp only [Da] at c5
    have hm : (rsRd ρ 0 4).tookProtect (rpRd ρ 71) = (rsRd ρ 0 4).finish ⟨wdRd ρ 71, true⟩ := (if_neg c).trans ((if_pos c2).trans ((if_neg nd).trans (if_neg (fun h => h.2.1 c5))))
    exact Sat.fin ⟨⟨(by first | exact o1 | exact o2 | exact o3 | exact okNil rfl rfl | assumption), (by first | exact o2 | exact ⟨okNil rfl rfl, Int.le_refl 0, .inl rfl⟩ | assumption), (by first | exact o1 | exact o2 | exact o3 | exact okNil rfl rfl | assumption)⟩, Eq.trans (b := (rsRd ρ 0 4).finish ⟨wdRd ρ 71, true⟩) (RS.ext' rfl rfl rfl rfl rfl rfl rW1 rD1 rfl rfl rfl rfl rH1 rfl rN1 rfl rfl) (Eq.symm (hm))⟩
  ·simp only [Da] at c4
   have hm : (rsRd ρ 0 4).tookProtect (rpRd ρ 71) = (rsRd ρ 0 4).finish ⟨wdRd ρ 71, true⟩ := (if_neg c).trans ((if_pos c2).trans ((if_neg nd).trans (if_neg (fun h => c4 h.1))))
   exact Sat.fin ⟨⟨(by first | exact o1 | exact o2 | exact o3 | exact okNil rfl rfl | assumption), (by first | exact o2 | exact ⟨okNil rfl rfl, Int.le_refl 0, .inl rfl⟩ | assumption), (by first | exact o1 | exact o2 | exact o3 | exact okNil rfl rfl | assumption)⟩, Eq.trans (b := (rsRd ρ 0 4).finish ⟨wdRd ρ 71, true⟩) (RS.ext' rfl rfl rfl rfl rfl rfl rW1 rD1 rfl rfl rfl rfl rH1 rfl rN1 rfl rfl) (Eq.symm (hm))⟩
 simp only [Da] at c2
 refine Sat.br (fun c3 => ?_) (fun c3 => ?_)
 ·simp only [Da] at c3
  have h0 : (rsRd ρ 0 4).tookProtect (rpRd ρ 71) = if (rsRd ρ 0 4).covers (ρ.iv 18) (ρ.iv 74) then (rsRd ρ 0 4).finish ⟨wdRd ρ 37, true⟩ else if (rsRd ρ 0 4).engine = 3 then (rsRd ρ 0 4).post 7 (ρ.iv 18) (Wd.num' (ρ.iv 74)) else (rsRd ρ 0 4).announce 7 ⟨true, if (rsRd ρ 0 4).span.is = true then (rsRd ρ 0 4).span.low else ρ.iv 74, ρ.iv 74⟩ := (if_neg c).trans ((if_neg c2).trans (if_pos c3))
  refine Sat.br (fun c4 => ?_) (fun c4 => ?_)
  ·simp only [Da] at c4
   refine Sat.ob (decide_eq_true n1) (Sat.ob (by simp only [Da]; omega) (Sat.br (fun c5 => ?_) (fun c5 => ?_)))
   ·simp only [Da] at c5
    have hne : (rsRd ρ 0 4).holds (ρ.iv 18).toNat ≠ Wd.zero := fun h => by
     have h' := wd_eq'.1 h
     simp only [rsRd, mkW, Wd.zero] at h'
     simp_all
    refine Sat.br (fun c6 => ?_) (fun c6 => ?_)
    ·simp only [Da] at c6
     have hcv : (rsRd ρ 0 4).covers (ρ.iv 18) (ρ.iv 74) := by unfold RS.covers; rw [if_pos (show (rsRd ρ 0 4).engine = 3 from c4)]; exact ⟨hne, c6⟩
     have hm : (rsRd ρ 0 4).tookProtect (rpRd ρ 71) = (rsRd ρ 0 4).finish ⟨wdRd ρ 37, true⟩ := h0.trans (if_pos hcv)
     exact Sat.fin ⟨⟨(by first | exact o1 | exact o2 | exact o3 | exact okNil rfl rfl | assumption), (by first | exact o2 | exact ⟨okNil rfl rfl, Int.le_refl 0, .inl rfl⟩ | assumption), (by first | exact o1 | exact o2 | exact o3 | exact okNil rfl rfl | assumption)⟩, Eq.trans (b := (rsRd ρ 0 4).finish ⟨wdRd ρ 37, true⟩) (RS.ext' rfl rfl rfl rfl rfl rfl rW1 rD1 rfl rfl rfl rfl rH1 rfl rN1 rfl rfl) (Eq.symm (hm))⟩
    ·simp only [Da] at c6
     have hcv : ¬ (rsRd ρ 0 4).covers (ρ.iv 18) (ρ.iv 74) := by unfold RS.covers; rw [if_pos (show (rsRd ρ 0 4).engine = 3 from c4)]; exact fun h => c6 h.2
     have hm : (rsRd ρ 0 4).tookProtect (rpRd ρ 71) = (rsRd ρ 0 4).post 7 (ρ.iv 18) (Wd.num' (ρ.iv 74)) := h0.trans ((if_neg hcv).trans (if_pos c4))
     refine Sat.callK (c := keepCon) rfl ⟨⟨s1, s2⟩, n1, n2⟩ (fun r => ((OkR r 4) ∧ 0 ≤ r.iv 18) ∧ (rsRd r 0 4).tookProtect (rpRd r 71) = (rsRd r 0 4).post 7 (r.iv 18) (Wd.num' (r.iv 74))) (fun e _ => ⟨⟨⟨o1, o2, o3⟩, n1⟩, hm⟩) fun r hr => ?_
     obtain ⟨⟨⟨o1, o2, o3⟩, i1⟩, hm⟩ := hr
     refine Sat.fin ⟨⟨(by first | exact o1 | exact o2 | exact o3 | exact okNil rfl rfl | assumption), (by first | exact o2 | exact ⟨okNil rfl rfl, Int.le_refl 0, .inl rfl⟩ | assumption), (by first | exact o1 | exact o2 | exact o3 | exact okNil rfl rfl | assumption)⟩, Eq.trans (b := (rsRd r 0 4).post 7 (r.iv 18) (Wd.num' (r.iv 74))) (RS.ext' rfl rfl rfl rfl rfl rfl rW1 rD1 rfl rfl rfl rfl ?_ rfl rN1 rfl rfl) (Eq.symm (hm))⟩
     intro i
     show _ = if i = (r.iv 18).toNat then Wd.num' (r.iv 74) else mkW (r.ic 54 i 0) (r.bc 54 i 0)
     by_cases h : i = (r.iv 18).toNat
     ·subst h
      simp [rsRd, mkW, Wd.num', wdRd, -Int.pred_toNat, Sub.nenv, assoc, CV.I, CV.B, upsI, upsB, Seg.I, Seg.B, SC.I, SC.B, IE.den, BE.den]
     ·simp [rsRd, mkW, -Int.pred_toNat, Sub.nenv, assoc, CV.I, CV.B, upsI, upsB, Seg.I, Seg.B, SC.I, SC.B, IE.den, BE.den, h, Ne.symm h]
   ·simp only [Da] at c5
    have he : (rsRd ρ 0 4).holds (ρ.iv 18).toNat = Wd.zero := by
     apply wd_eq'.2
     simp only [rsRd, mkW, Wd.zero]
     simp_all
    have hcv : ¬ (rsRd ρ 0 4).covers (ρ.iv 18) (ρ.iv 74) := by unfold RS.covers; rw [if_pos (show (rsRd ρ 0 4).engine = 3 from c4)]; exact fun h => h.1 he
    have hm : (rsRd ρ 0 4).tookProtect (rpRd ρ 71) = (rsRd ρ 0 4).post 7 (ρ.iv 18) (Wd.num' (ρ.iv 74)) := h0.trans ((if_neg hcv).trans (if_pos c4))
    refine Sat.callK (c := keepCon) rfl ⟨⟨s1, s2⟩, n1, n2⟩ (fun r => ((OkR r 4) ∧ 0 ≤ r.iv 18) ∧ (rsRd r 0 4).tookProtect (rpRd r 71) = (rsRd r 0 4).post 7 (r.iv 18) (Wd.num' (r.iv 74))) (fun e _ => ⟨⟨⟨o1, o2, o3⟩, n1⟩, hm⟩) fun r hr => ?_
    obtain ⟨⟨⟨o1, o2, o3⟩, i1⟩, hm⟩ := hr
    refine Sat.fin ⟨⟨(by first | exact o1 | exact o2 | exact o3 | exact okNil rfl rfl | assumption), (by first | exact o2 | exact ⟨okNil rfl rfl, Int.le_refl 0, .inl rfl⟩ | assumption), (by first | exact o1 | exact o2 | exact o3 | exact okNil rfl rfl | assumption)⟩, Eq.trans (b := (rsRd r 0 4).post 7 (r.iv 18) (Wd.num' (r.iv 74))) (RS.ext' rfl rfl rfl rfl rfl rfl rW1 rD1 rfl rfl rfl rfl ?_ rfl rN1 rfl rfl) (Eq.symm (hm))⟩
    intro i
    show _ = if i = (r.iv 18).toNat then Wd.num' (r.iv 74) else mkW (r.ic 54 i 0) (r.bc 54 i 0)
    by_cases h : i = (r.iv 18).toNat
    ·subst h
     simp [rsRd, mkW, Wd.num', wdRd, -Int.pred_toNat, Sub.nenv, assoc, CV.I, CV.B, upsI, upsB, Seg.I, Seg.B, SC.I, SC.B, IE.den, BE.den]
    ·simp [rsRd, mkW, -Int.pred_toNat, Sub.nenv, assoc, CV.I, CV.B, upsI, upsB, Seg.I, Seg.B, SC.I, SC.B, IE.den, BE.den, h, Ne.symm h]
  ·simp only [Da] at c4
   refine Sat.br (fun c5 => ?_) (fun c5 => ?_)
   ·simp only [Da] at c5
    have hcv : (rsRd ρ 0 4).covers (ρ.iv 18) (ρ.iv 74) := by unfold RS.covers; rw [if_neg (show ¬ (rsRd ρ 0 4).engine = 3 from c4)]; exact c5
    have hm : (rsRd ρ 0 4).tookProtect (rpRd ρ 71) = (rsRd ρ 0 4).finish ⟨wdRd ρ 37, true⟩ := h0.trans (if_pos hcv)
    exact Sat.fin ⟨⟨(by first | exact o1 | exact o2 | exact o3 | exact okNil rfl rfl | assumption), (by first | exact o2 | exact ⟨okNil rfl rfl, Int.le_refl 0, .inl rfl⟩ | assumption), (by first | exact o1 | exact o2 | exact o3 | exact okNil rfl rfl | assumption)⟩, Eq.trans (b := (rsRd ρ 0 4).finish ⟨wdRd ρ 37, true⟩) (RS.ext' rfl rfl rfl rfl rfl rfl rW1 rD1 rfl rfl rfl rfl rH1 rfl rN1 rfl rfl) (Eq.symm (hm))⟩
   ·simp only [Da] at c5
    have hcv : ¬ (rsRd ρ 0 4).covers (ρ.iv 18) (ρ.iv 74) := by
     unfold RS.covers
     rw [if_neg (show ¬ (rsRd ρ 0 4).engine = 3 from c4)]
     rintro ⟨h1, h2⟩
     rcases c5 with h | h
     ·rw [show ρ.bv 55 = true from h1] at h; cases h
     ·exact h h2
    refine Sat.br (fun c6 => ?_) (fun c6 => ?_)
    ·simp only [Da] at c6
     have hm : (rsRd ρ 0 4).tookProtect (rpRd ρ 71) = (rsRd ρ 0 4).announce 7 ⟨true, ρ.iv 56, ρ.iv 74⟩ := by
      rw [h0, if_neg hcv, if_neg (show ¬ (rsRd ρ 0 4).engine = 3 from c4), if_pos (show (rsRd ρ 0 4).span.is = true from c6)]
      rfl
     refine Sat.callK (c := spanCon) rfl ⟨s1, s2⟩ (fun r => (OkR r 4) ∧ (rsRd r 0 4).tookProtect (rpRd r 71) = (rsRd r 0 4).announce 7 ⟨true, r.iv 56, r.iv 74⟩) (fun e _ => ⟨⟨o1, o2, o3⟩, hm⟩) fun r hr => ?_
     obtain ⟨⟨o1, o2, o3⟩, hm⟩ := hr
     exact Sat.fin ⟨⟨(by first | exact o1 | exact o2 | exact o3 | exact okNil rfl rfl | assumption), (by first | exact o2 | exact ⟨okNil rfl rfl, Int.le_refl 0, .inl rfl⟩ | assumption), (by first | exact o1 | exact o2 | exact o3 | exact okNil rfl rfl | assumption)⟩, Eq.trans (b := (rsRd r 0 4).announce 7 ⟨true, r.iv 56, r.iv 74⟩) (RS.ext' rfl rfl rfl rfl rfl rfl rW1 rD1 rfl rfl rfl rfl rH1 rfl rN1 rfl rfl) (Eq.symm (hm))⟩
    ·simp only [Da] at c6
     have hm : (rsRd ρ 0 4).tookProtect (rpRd ρ 71) = (rsRd ρ 0 4).announce 7 ⟨true, ρ.iv 74, ρ.iv 74⟩ := by
      rw [h0, if_neg hcv, if_neg (show ¬ (rsRd ρ 0 4).engine = 3 from c4), if_neg (show ¬ (rsRd ρ 0 4).span.is = true from fun h => by rw [show ρ.bv 55 = true from h] at c6; cases c6)]
     refine Sat.callK (c := spanCon) rfl ⟨s1, s2⟩ (fun r => (OkR r 4) ∧ (rsRd r 0 4).tookProtect (rpRd r 71) = (rsRd r 0 4).announce 7 ⟨true, r.iv 74, r.iv 74⟩) (fun e _ => ⟨⟨o1, o2, o3⟩, hm⟩) fun r hr => ?_
     obtain ⟨⟨o1, o2, o3⟩, hm⟩ := hr
     exact Sat.fin ⟨⟨(by first | exact o1 | exact o2 | exact o3 | exact okNil rfl rfl | assumption), (by first | exact o2 | exact ⟨okNil rfl rfl, Int.le_refl 0, .inl rfl⟩ | assumption), (by first | exact o1 | exact o2 | exact o3 | exact okNil rfl rfl | assumption)⟩, Eq.trans (b := (rsRd r 0 4).announce 7 ⟨true, r.iv 74, r.iv 74⟩) (RS.ext' rfl rfl rfl rfl rfl rfl rW1 rD1 rfl rfl rfl rfl rH1 rfl rN1 rfl rfl) (Eq.symm (hm))⟩
 ·simp only [Da] at c3
  have hm : (rsRd ρ 0 4).tookProtect (rpRd ρ 71) = rsRd ρ 0 4 := (if_neg c).trans ((if_neg c2).trans (if_neg c3))
  exact Sat.fin ⟨⟨(by first | exact o1 | exact o2 | exact o3 | exact okNil rfl rfl | assumption), (by first | exact o2 | exact ⟨okNil rfl rfl, Int.le_refl 0, .inl rfl⟩ | assumption), (by first | exact o1 | exact o2 | exact o3 | exact okNil rfl rfl | assumption)⟩, Eq.trans (b := (rsRd ρ 0 4)) (RS.ext' rfl rfl rfl rfl rfl rfl rW1 rD1 rfl rfl rfl rfl rH1 rfl rN1 rfl rfl) (Eq.symm (hm))⟩
theorem tProt_con : ConOK Tryd.prog tProtCon tProtPre tProtPost :=
 con_ok tabOK (E := tProtE) (cs := bSem) rfl bSem_ok schedOK rfl tProt_run (by kernel_rfl) (fun ρ _ p hp => by cases hp) tProt_sat
end Go.Proofs.YthomdlajobnmnaaDoor
