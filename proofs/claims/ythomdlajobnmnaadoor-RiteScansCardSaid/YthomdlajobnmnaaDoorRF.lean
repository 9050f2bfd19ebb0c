/- 'open', 'Begin' -/
import Derived.Test.YthomdlajobnmnaaDoorRProt
import Derived.Test.YthomdlajobnmnaaDoorRA
set_option linter.unusedSimpArgs false
set_option linter.unusedVariables false
namespace Go.Proofs.YthomdlajobnmnaaDoor
open Go.Rex
def oSem : CSem := [(leaveCon, leavePre, leavePost), (keepCon, keepPre, yesP), (scanCon, sPre, scanPost), (retireCon, retirePre, retirePost)]
theorem oSem_ok : ∀ k pre post, (k, pre, post) ∈ oSem → conWf k = true ∧ ConOK Tryd.prog k pre post := by
 intro k pre post h
 simp only [oSem, List.mem_cons, List.not_mem_nil, or_false, Prod.mk.injEq] at h
 rcases h with ⟨rfl, rfl, rfl⟩ | ⟨rfl, rfl, rfl⟩ | ⟨rfl, rfl, rfl⟩ | ⟨rfl, rfl, rfl⟩
 ·exact ⟨by kernel_rfl, leave_con⟩
 ·exact ⟨by kernel_rfl, keep_con⟩
 ·exact ⟨by kernel_rfl, scan_con⟩
 ·exact ⟨by kernel_rfl, retire_con⟩
noncomputable def openE : Ex := { sched := sched, loops := [], cons := [leaveCon, keepCon, scanCon, retireCon], fin := openCon }
def openOut : Out :=
 .br (.ieq (.var 4) (.lit 1))
 (.br (.or (.ieq (.var 0) (.lit 4)) (.ieq (.var 0) (.lit 5)))
  (.fin { lo := 71, lob := 4, iv := [(137, yv 70), (132, yv 65), (131, yv 64), (130, yv 63), (129, yv 62), (128, yv 61), (127, yv 60), (126, yv 59), (124, yv 57), (123, yv 56), (120, yv 53), (119, yv 52), (136, yv 69), (117, yv 50), (116, yv 49), (114, yv 47), (112, yv 45), (111, yv 44), (110, yv 43), (109, yv 42), (107, yv 40), (106, yv 39), (105, yv 38), (104, yv 37), (102, .lit 0), (101, .lit 0), (100, .lit 0), (99, .lit 0), (97, .lit 0), (96, .lit 0), (95, .lit 0), (94, .lit 0), (93, .lit 24), (92, .lit 0), (91, .lit 0), (90, .lit 1), (89, .lit 3), (88, yv 21), (87, yv 20), (86, yv 19), (85, yv 18), (83, yv 16), (82, yv 15), (81, yv 14), (80, yv 13), (78, yv 11), (77, yv 10), (76, yv 9), (75, yv 8), (74, yv 7), (73, yv 6), (72, yv 5), (71, yv 4)], bv := [(134, yw 67), (133, yw 66), (125, yw 58), (122, yw 55), (118, yw 51), (115, yw 48), (113, yw 46), (108, yw 41), (103, .lit false), (98, .lit false), (84, yw 17), (79, yw 12)], ct := [(137, yu 70 59 7 yN 0), (136, yu 69 70 7 yN 0), (135, yu 68 49 5 yW 0), (121, yl 54 9 5 50 yW 0)], bk := [(6, yc 3 7), (5, yc 2 7), (4, yc 1 5)] })
  (.fin { lo := 71, lob := 4, iv := [(132, .lit 0), (131, .lit 0), (130, .lit 0), (129, .lit 0), (128, yv 61), (127, yv 60), (126, yv 59), (124, yv 57), (123, yv 56), (120, .lit 0), (119, .lit 0), (117, .lit 0), (116, .lit 0), (114, .lit 0), (112, .lit 0), (111, .lit 0), (110, .lit 0), (109, .lit 0), (107, .lit 0), (106, .lit 0), (105, .lit 0), (104, .lit 0), (102, .lit 0), (101, .lit 0), (100, .lit 0), (99, .lit 0), (97, .lit 0), (96, .lit 0), (95, .lit 0), (94, .lit 0), (93, .lit 0), (92, .lit 0), (91, .lit 0), (90, .lit 0), (89, .lit 0), (88, .lit 0), (87, .lit 0), (86, .lit 0), (85, .lit 0), (83, .lit 0), (82, .lit 0), (81, .lit 0), (80, .lit 0), (78, .lit 0), (77, .lit 0), (76, .lit 0), (75, .lit 0), (74, .lit 0), (73, .lit 0), (72, .lit 0), (71, .lit 0)], bv := [(134, .lit true), (133, .lit false), (125, yw 58), (122, yw 55), (118, .lit true), (115, .lit true), (113, .lit false), (108, .lit false), (103, .lit false), (98, .lit false), (84, .lit false), (79, .lit false)], ct := [(137, yu 70 59 7 yN 0), (121, yl 54 9 5 50 yW 0)], bk := [(6, yc 3 7)], nb := [5, 4, 5, 4] }))
 (.br (.ieq (.var 4) (.lit 2))
  (.call 0 { lo := 0, lob := 0, iv := [(70, yv 70), (65, yv 65), (64, yv 64), (63, yv 63), (62, yv 62), (61, yv 61), (60, yv 60), (59, yv 59), (57, yv 57), (56, yv 56), (3, yv 3), (2, yv 2), (1, yv 1), (0, yv 0), (53, yv 53), (52, yv 52), (69, yv 69), (50, yv 50), (49, yv 49), (47, yv 47), (45, yv 45), (44, yv 44), (43, yv 43), (42, yv 42), (40, yv 40), (39, yv 39), (38, yv 38), (37, yv 37), (35, yv 35), (34, yv 34), (33, yv 33), (32, yv 32), (30, yv 30), (29, yv 29), (28, yv 28), (27, yv 27), (26, yv 26), (25, yv 25), (24, yv 24), (23, yv 23), (22, yv 22), (21, yv 21), (20, yv 20), (19, yv 19), (18, yv 18), (16, yv 16), (15, yv 15), (14, yv 14), (13, yv 13), (11, yv 11), (10, yv 10), (9, yv 9), (8, yv 8), (7, yv 7), (6, yv 6), (5, yv 5), (4, yv 4), (71, .lit 0)], bv := [(67, yw 67), (66, yw 66), (58, yw 58), (55, yw 55), (51, yw 51), (48, yw 48), (46, yw 46), (41, yw 41), (36, yw 36), (31, yw 31), (17, yw 17), (12, yw 12)], ct := [(70, yu 70 59 7 yN 0), (69, yu 69 70 7 yN 0), (68, yu 68 49 5 yW 0), (54, yl 54 9 5 50 yW 0)], bk := [(3, yc 3 7), (2, yc 2 7), (1, yc 1 5), (0, yb 0)] } 71 <|
   .fin { lo := 71, lob := 4, iv := [(137, yv 137), (132, yv 132), (131, yv 131), (130, yv 130), (129, yv 129), (128, yv 128), (127, yv 127), (126, yv 126), (124, yv 124), (123, yv 123), (120, yv 120), (119, yv 119), (136, yv 136), (117, yv 117), (116, yv 116), (114, yv 114), (112, yv 112), (111, yv 111), (110, yv 110), (109, yv 109), (107, yv 107), (106, yv 106), (105, yv 105), (104, yv 104), (102, yv 102), (101, yv 101), (100, yv 100), (99, yv 99), (97, yv 97), (96, yv 96), (95, yv 95), (94, yv 94), (93, yv 93), (92, yv 92), (91, yv 91), (90, yv 90), (89, yv 89), (88, yv 88), (87, yv 87), (86, yv 86), (85, yv 85), (83, yv 83), (82, yv 82), (81, yv 81), (80, yv 80), (78, yv 78), (77, yv 77), (76, yv 76), (75, yv 75), (74, yv 74), (73, yv 73), (72, yv 72), (71, yv 71)], bv := [(134, yw 134), (133, yw 133), (125, yw 125), (122, yw 122), (118, yw 118), (115, yw 115), (113, yw 113), (108, yw 108), (103, yw 103), (98, yw 98), (84, yw 84), (79, yw 79)], ct := [(137, yu 137 126 7 yN 0), (136, yu 136 137 7 yN 0), (135, yu 135 116 5 yW 0), (121, yl 121 9 5 50 yW 0)], bk := [(6, yc 7 7), (5, yc 6 7), (4, yc 5 5)] })
  (.br (.ieq (.var 4) (.lit 3))
   (.fin { lo := 71, lob := 4, iv := [(137, yv 70), (132, yv 65), (131, yv 64), (130, yv 63), (129, yv 62), (128, yv 61), (127, yv 60), (126, yv 59), (124, yv 57), (123, yv 56), (120, yv 53), (119, yv 52), (136, yv 69), (117, yv 50), (116, yv 49), (114, yv 47), (112, yv 45), (111, yv 44), (110, yv 43), (109, yv 42), (107, yv 40), (106, yv 39), (105, yv 38), (104, yv 37), (102, .lit 0), (101, .lit 0), (100, .lit 0), (99, .lit 0), (97, .lit 0), (96, .lit 0), (95, .lit 0), (94, .lit 0), (93, yv 7), (92, yv 6), (91, yv 5), (90, .lit 1), (89, .lit 1), (88, yv 21), (87, yv 20), (86, yv 19), (85, yv 18), (83, yv 16), (82, yv 15), (81, yv 14), (80, yv 13), (78, yv 11), (77, yv 10), (76, yv 9), (75, yv 8), (74, yv 7), (73, yv 6), (72, yv 5), (71, yv 4)], bv := [(134, yw 67), (133, yw 66), (125, yw 58), (122, yw 55), (118, yw 51), (115, yw 48), (113, yw 46), (108, yw 41), (103, .lit false), (98, .lit false), (84, yw 17), (79, yw 12)], ct := [(137, yu 70 59 7 yN 0), (136, yu 69 70 7 yN 0), (135, yu 68 49 5 yW 0), (121, yl 54 9 5 50 yW 0)], bk := [(6, yc 3 7), (5, yc 2 7), (4, yc 1 5)] })
   (.br (.ieq (.var 4) (.lit 4))
    (.fin { lo := 71, lob := 4, iv := [(137, yv 70), (132, yv 65), (131, yv 64), (130, yv 63), (129, yv 62), (128, yv 61), (127, yv 60), (126, yv 59), (124, yv 57), (123, yv 56), (120, yv 53), (119, yv 52), (136, yv 69), (117, yv 50), (116, yv 49), (114, yv 47), (112, yv 45), (111, yv 44), (110, yv 43), (109, yv 42), (107, yv 40), (106, yv 39), (105, yv 38), (104, yv 37), (102, yv 16), (101, yv 15), (100, yv 14), (99, yv 13), (97, yv 11), (96, yv 10), (95, yv 9), (94, yv 8), (93, yv 7), (92, yv 6), (91, yv 5), (90, .lit 2), (89, .lit 1), (88, yv 21), (87, yv 20), (86, yv 19), (85, yv 18), (83, yv 16), (82, yv 15), (81, yv 14), (80, yv 13), (78, yv 11), (77, yv 10), (76, yv 9), (75, yv 8), (74, yv 7), (73, yv 6), (72, yv 5), (71, yv 4)], bv := [(134, yw 67), (133, yw 66), (125, yw 58), (122, yw 55), (118, yw 51), (115, yw 48), (113, yw 46), (108, yw 41), (103, yw 17), (98, yw 12), (84, yw 17), (79, yw 12)], ct := [(137, yu 70 59 7 yN 0), (136, yu 69 70 7 yN 0), (135, yu 68 49 5 yW 0), (121, yl 54 9 5 50 yW 0)], bk := [(6, yc 3 7), (5, yc 2 7), (4, yc 1 5)] })
    (.br (.ieq (.var 4) (.lit 5))
     (.fin { lo := 71, lob := 4, iv := [(137, yv 70), (132, yv 65), (131, yv 64), (130, yv 63), (129, yv 62), (128, yv 61), (127, yv 60), (126, yv 59), (124, yv 57), (123, yv 56), (120, yv 53), (119, yv 52), (136, yv 69), (117, yv 50), (116, yv 49), (114, yv 47), (112, yv 45), (111, yv 44), (110, yv 43), (109, yv 42), (107, yv 40), (106, yv 39), (105, yv 38), (104, yv 37), (102, yv 16), (101, yv 15), (100, yv 14), (99, yv 13), (97, yv 11), (96, yv 10), (95, yv 9), (94, yv 8), (93, yv 7), (92, yv 6), (91, yv 5), (90, .lit 3), (89, .lit 1), (88, yv 21), (87, yv 20), (86, yv 19), (85, yv 18), (83, yv 16), (82, yv 15), (81, yv 14), (80, yv 13), (78, yv 11), (77, yv 10), (76, yv 9), (75, yv 8), (74, yv 7), (73, yv 6), (72, yv 5), (71, yv 4)], bv := [(134, yw 67), (133, yw 66), (125, yw 58), (122, yw 55), (118, yw 51), (115, yw 48), (113, yw 46), (108, yw 41), (103, yw 17), (98, yw 12), (84, yw 17), (79, yw 12)], ct := [(137, yu 70 59 7 yN 0), (136, yu 69 70 7 yN 0), (135, yu 68 49 5 yW 0), (121, yl 54 9 5 50 yW 0)], bk := [(6, yc 3 7), (5, yc 2 7), (4, yc 1 5)] })
     (.br (.ieq (.var 4) (.lit 6))
      (.fin { lo := 71, lob := 4, iv := [(137, yv 70), (132, yv 65), (131, yv 64), (130, yv 63), (129, yv 62), (128, yv 61), (127, yv 60), (126, yv 59), (124, yv 57), (123, yv 56), (120, yv 53), (119, yv 52), (136, yv 69), (117, yv 50), (116, yv 49), (114, yv 47), (112, yv 45), (111, yv 44), (110, yv 43), (109, yv 42), (107, yv 40), (106, yv 39), (105, yv 38), (104, yv 37), (102, .lit 0), (101, .lit 0), (100, .lit 0), (99, .lit 0), (97, .lit 0), (96, .lit 0), (95, .lit 0), (94, .lit 0), (93, yv 7), (92, yv 6), (91, yv 5), (90, .lit 1), (89, .lit 5), (88, yv 21), (87, yv 20), (86, yv 19), (85, yv 18), (83, yv 16), (82, yv 15), (81, yv 14), (80, yv 13), (78, yv 11), (77, yv 10), (76, yv 9), (75, yv 8), (74, yv 7), (73, yv 6), (72, yv 5), (71, yv 4)], bv := [(134, yw 67), (133, yw 66), (125, yw 58), (122, yw 55), (118, yw 51), (115, yw 48), (113, yw 46), (108, yw 41), (103, .lit false), (98, .lit false), (84, yw 17), (79, yw 12)], ct := [(137, yu 70 59 7 yN 0), (136, yu 69 70 7 yN 0), (135, yu 68 49 5 yW 0), (121, yl 54 9 5 50 yW 0)], bk := [(6, yc 3 7), (5, yc 2 7), (4, yc 1 5)] })
      (.br (.ieq (.var 4) (.lit 7))
       (.ob (.or (.not (.or (.ieq (.var 0) (.lit 2)) (.ieq (.var 0) (.lit 3)))) (.ile (.lit 0) (.var 18))) <|
        .ob (.or (.not (.or (.ieq (.var 0) (.lit 2)) (.ieq (.var 0) (.lit 3)))) (.ilt (.var 18) (.lit 9))) <|
        .ob (.or (.not (.or (.ieq (.var 0) (.lit 2)) (.ieq (.var 0) (.lit 3)))) (.ile (.lit 0) (.var 19))) <|
        .ob (.or (.not (.or (.ieq (.var 0) (.lit 2)) (.ieq (.var 0) (.lit 3)))) (.ilt (.var 19) (.lit 9))) <|
        .br (.and (.or (.ieq (.var 0) (.lit 2)) (.ieq (.var 0) (.lit 3))) (.not (.and (.ieq (.cell 54 (.var 18) (.lit 0) 0) (.cell 54 (.var 19) (.lit 0) 0)) (.and (.ieq (.cell 54 (.var 18) (.lit 0) 1) (.cell 54 (.var 19) (.lit 0) 1)) (.and (.ieq (.cell 54 (.var 18) (.lit 0) 2) (.cell 54 (.var 19) (.lit 0) 2)) (.and (.ieq (.cell 54 (.var 18) (.lit 0) 3) (.cell 54 (.var 19) (.lit 0) 3)) (.beq (.cell 54 (.var 18) (.lit 0) 4) (.cell 54 (.var 19) (.lit 0) 4))))))))
        (.ob (.ile (.lit 0) (.var 19)) <|
         .ob (.ilt (.var 19) (.lit 9)) <|
         .ob (.ile (.lit 0) (.var 18)) <|
         .ob (.ilt (.var 18) (.lit 9)) <|
         .call 1 { lo := 0, lob := 0, iv := [(1, yv 18), (0, yv 1)] } 71 <|
         .fin { lo := 71, lob := 4, iv := [(137, yv 70), (132, yv 65), (131, yv 64), (130, yv 63), (129, yv 62), (128, yv 61), (127, yv 60), (126, yv 59), (124, yv 57), (123, yv 56), (120, yv 53), (119, yv 52), (136, yv 69), (117, yv 50), (116, yv 49), (114, yv 47), (112, yv 45), (111, yv 44), (110, yv 43), (109, yv 42), (107, yv 40), (106, yv 39), (105, yv 38), (104, yv 37), (102, .cell 54 (.var 19) (.lit 0) 3), (101, .cell 54 (.var 19) (.lit 0) 2), (100, .cell 54 (.var 19) (.lit 0) 1), (99, .cell 54 (.var 19) (.lit 0) 0), (97, .lit 0), (96, .lit 0), (95, .lit 0), (94, .lit 0), (93, .add (.add (.lit 25) (.mul (.var 1) (.lit 9))) (.var 18)), (92, .lit 0), (91, .lit 0), (90, .lit 2), (89, .lit 2), (88, yv 21), (87, yv 20), (86, yv 19), (85, yv 18), (83, yv 16), (82, yv 15), (81, yv 14), (80, yv 13), (78, yv 11), (77, yv 10), (76, yv 9), (75, yv 8), (74, yv 7), (73, yv 6), (72, yv 5), (71, yv 4)], bv := [(134, yw 67), (133, yw 66), (125, yw 58), (122, yw 55), (118, yw 51), (115, yw 48), (113, yw 46), (108, yw 41), (103, .cell 54 (.var 19) (.lit 0) 4), (98, .lit false), (84, yw 17), (79, yw 12)], ct := [(137, yu 70 59 7 yN 0), (136, yu 69 70 7 yN 0), (135, yu 68 49 5 yW 0), (121, .up { r := 54, n1 := .lit 9, s1 := 5, lo := 50, ks := yW } 0 [⟨0, (.var 18), (.lit 0), 4, .bool (.cell 54 (.var 19) (.lit 0) 4)⟩, ⟨0, (.var 18), (.lit 0), 3, .int .i64 (.cell 54 (.var 19) (.lit 0) 3)⟩, ⟨0, (.var 18), (.lit 0), 2, .int .i64 (.cell 54 (.var 19) (.lit 0) 2)⟩, ⟨0, (.var 18), (.lit 0), 1, .int .i64 (.cell 54 (.var 19) (.lit 0) 1)⟩, ⟨0, (.var 18), (.lit 0), 0, .int .i64 (.cell 54 (.var 19) (.lit 0) 0)⟩] (.lit 0))], bk := [(6, yc 3 7), (5, yc 2 7), (4, yc 1 5)] })
        (.fin { lo := 71, lob := 4, iv := [(132, .lit 0), (131, .lit 0), (130, .lit 0), (129, .lit 0), (128, yv 61), (127, yv 60), (126, yv 59), (124, yv 57), (123, yv 56), (120, .lit 0), (119, .lit 0), (117, .lit 0), (116, .lit 0), (114, .lit 0), (112, .lit 0), (111, .lit 0), (110, .lit 0), (109, .lit 0), (107, .lit 0), (106, .lit 0), (105, .lit 0), (104, .lit 0), (102, .lit 0), (101, .lit 0), (100, .lit 0), (99, .lit 0), (97, .lit 0), (96, .lit 0), (95, .lit 0), (94, .lit 0), (93, .lit 0), (92, .lit 0), (91, .lit 0), (90, .lit 0), (89, .lit 0), (88, .lit 0), (87, .lit 0), (86, .lit 0), (85, .lit 0), (83, .lit 0), (82, .lit 0), (81, .lit 0), (80, .lit 0), (78, .lit 0), (77, .lit 0), (76, .lit 0), (75, .lit 0), (74, .lit 0), (73, .lit 0), (72, .lit 0), (71, .lit 0)], bv := [(134, .lit true), (133, .lit false), (125, yw 58), (122, yw 55), (118, .lit true), (115, .lit true), (113, .lit false), (108, .lit false), (103, .lit false), (98, .lit false), (84, .lit false), (79, .lit false)], ct := [(137, yu 70 59 7 yN 0), (121, yl 54 9 5 50 yW 0)], bk := [(6, yc 3 7)], nb := [5, 4, 5, 4] }))
       (.br (.ieq (.var 4) (.lit 8))
        (.br (.or (.ieq (.var 0) (.lit 3)) (.ieq (.var 0) (.lit 5)))
         (.fin { lo := 71, lob := 4, iv := [(137, yv 70), (132, yv 65), (131, yv 64), (130, yv 63), (129, yv 62), (128, yv 61), (127, yv 60), (126, yv 59), (124, yv 57), (123, yv 56), (120, yv 53), (119, yv 52), (136, yv 69), (117, yv 50), (116, yv 49), (114, yv 47), (112, yv 45), (111, yv 44), (110, yv 43), (109, yv 42), (107, yv 40), (106, yv 39), (105, yv 38), (104, yv 37), (102, .lit 0), (101, .lit 0), (100, .lit 0), (99, .lit 0), (97, .lit 0), (96, .lit 0), (95, .lit 0), (94, .lit 0), (93, .lit 24), (92, .lit 0), (91, .lit 0), (90, .lit 1), (89, .lit 8), (88, yv 21), (87, yv 20), (86, yv 19), (85, yv 18), (83, yv 16), (82, yv 15), (81, yv 14), (80, yv 13), (78, yv 11), (77, yv 10), (76, yv 9), (75, yv 8), (74, yv 7), (73, yv 6), (72, yv 5), (71, yv 4)], bv := [(134, yw 67), (133, yw 66), (125, yw 58), (122, yw 55), (118, yw 51), (115, yw 48), (113, yw 46), (108, yw 41), (103, .lit false), (98, .lit false), (84, yw 17), (79, yw 12)], ct := [(137, yu 70 59 7 yN 0), (136, yu 69 70 7 yN 0), (135, yu 68 49 5 yW 0), (121, yl 54 9 5 50 yW 0)], bk := [(6, yc 3 7), (5, yc 2 7), (4, yc 1 5)] })
         (.fin { lo := 71, lob := 4, iv := [(137, yv 70), (132, yv 65), (131, yv 64), (130, yv 63), (129, yv 62), (128, yv 61), (127, yv 60), (126, yv 59), (124, yv 57), (123, yv 56), (120, yv 53), (119, yv 52), (136, yv 69), (117, yv 50), (116, yv 49), (114, yv 47), (112, yv 45), (111, yv 44), (110, yv 43), (109, yv 42), (107, yv 40), (106, yv 39), (105, yv 38), (104, yv 37), (102, .lit 0), (101, .lit 0), (100, .lit 0), (99, .lit 0), (97, .lit 0), (96, .lit 0), (95, .lit 0), (94, .lit 0), (93, .lit 0), (92, .lit 0), (91, .lit 0), (90, .lit 4), (89, .lit 1), (88, yv 21), (87, yv 20), (86, yv 19), (85, yv 18), (83, yv 16), (82, yv 15), (81, yv 14), (80, yv 13), (78, yv 11), (77, yv 10), (76, yv 9), (75, yv 8), (74, yv 7), (73, yv 6), (72, yv 5), (71, yv 4)], bv := [(134, yw 67), (133, yw 66), (125, yw 58), (122, yw 55), (118, yw 51), (115, yw 48), (113, yw 46), (108, yw 41), (103, .lit false), (98, .lit false), (84, yw 17), (79, yw 12)], ct := [(137, yu 70 59 7 yN 0), (136, yu 69 70 7 yN 0), (135, yu 68 49 5 yW 0), (121, yl 54 9 5 50 yW 0)], bk := [(6, yc 3 7), (5, yc 2 7), (4, yc 1 5)] }))
        (.br (.ieq (.var 4) (.lit 9))
         (.fin { lo := 71, lob := 4, iv := [(137, yv 70), (132, yv 65), (131, yv 64), (130, yv 63), (129, yv 62), (128, yv 61), (127, yv 60), (126, yv 59), (124, yv 57), (123, yv 56), (120, yv 53), (119, yv 52), (136, yv 69), (117, yv 50), (116, yv 49), (114, yv 47), (112, yv 45), (111, yv 44), (110, yv 43), (109, yv 42), (107, yv 40), (106, yv 39), (105, yv 38), (104, yv 37), (102, .lit 0), (101, .lit 0), (100, .lit 0), (99, .lit 0), (97, yv 11), (96, yv 10), (95, yv 9), (94, yv 8), (93, .lit 0), (92, .lit 0), (91, .lit 0), (90, .lit 5), (89, .lit 2), (88, yv 21), (87, yv 20), (86, yv 19), (85, yv 18), (83, yv 16), (82, yv 15), (81, yv 14), (80, yv 13), (78, yv 11), (77, yv 10), (76, yv 9), (75, yv 8), (74, yv 7), (73, yv 6), (72, yv 5), (71, yv 4)], bv := [(134, yw 67), (133, yw 66), (125, yw 58), (122, yw 55), (118, yw 51), (115, yw 48), (113, yw 46), (108, yw 41), (103, .lit false), (98, yw 12), (84, yw 17), (79, yw 12)], ct := [(137, yu 70 59 7 yN 0), (136, yu 69 70 7 yN 0), (135, yu 68 49 5 yW 0), (121, yl 54 9 5 50 yW 0)], bk := [(6, yc 3 7), (5, yc 2 7), (4, yc 1 5)] })
         (.br (.ieq (.var 4) (.lit 10))
          (.call 3 { lo := 0, lob := 0, iv := [(70, yv 70), (65, yv 65), (64, yv 64), (63, yv 63), (62, yv 62), (61, yv 61), (60, yv 60), (59, yv 59), (57, yv 57), (56, yv 56), (3, yv 3), (2, yv 2), (1, yv 1), (0, yv 0), (53, yv 53), (52, yv 52), (69, yv 69), (50, yv 50), (49, yv 49), (47, yv 47), (45, yv 45), (44, yv 44), (43, yv 43), (42, yv 42), (40, yv 40), (39, yv 39), (38, yv 38), (37, yv 37), (35, yv 35), (34, yv 34), (33, yv 33), (32, yv 32), (30, yv 30), (29, yv 29), (28, yv 28), (27, yv 27), (26, yv 26), (25, yv 25), (24, yv 24), (23, yv 23), (22, yv 22), (21, yv 21), (20, yv 20), (19, yv 19), (18, yv 18), (16, yv 16), (15, yv 15), (14, yv 14), (13, yv 13), (11, yv 11), (10, yv 10), (9, yv 9), (8, yv 8), (7, yv 7), (6, yv 6), (5, yv 5), (4, yv 4)], bv := [(67, yw 67), (66, yw 66), (58, yw 58), (55, yw 55), (51, yw 51), (48, yw 48), (46, yw 46), (41, yw 41), (36, yw 36), (31, yw 31), (17, yw 17), (12, yw 12)], ct := [(70, yu 70 59 7 yN 0), (69, yu 69 70 7 yN 0), (68, yu 68 49 5 yW 0), (54, yl 54 9 5 50 yW 0)], bk := [(3, yc 3 7), (2, yc 2 7), (1, yc 1 5), (0, yb 0)] } 71 <|
           .fin { lo := 71, lob := 4, iv := [(137, yv 137), (132, yv 132), (131, yv 131), (130, yv 130), (129, yv 129), (128, yv 128), (127, yv 127), (126, yv 126), (124, yv 124), (123, yv 123), (120, yv 120), (119, yv 119), (136, yv 136), (117, yv 117), (116, yv 116), (114, yv 114), (112, yv 112), (111, yv 111), (110, yv 110), (109, yv 109), (107, yv 107), (106, yv 106), (105, yv 105), (104, yv 104), (102, yv 102), (101, yv 101), (100, yv 100), (99, yv 99), (97, yv 97), (96, yv 96), (95, yv 95), (94, yv 94), (93, yv 93), (92, yv 92), (91, yv 91), (90, yv 90), (89, yv 89), (88, yv 88), (87, yv 87), (86, yv 86), (85, yv 85), (83, yv 83), (82, yv 82), (81, yv 81), (80, yv 80), (78, yv 78), (77, yv 77), (76, yv 76), (75, yv 75), (74, yv 74), (73, yv 73), (72, yv 72), (71, yv 71)], bv := [(134, yw 134), (133, yw 133), (125, yw 125), (122, yw 122), (118, yw 118), (115, yw 115), (113, yw 113), (108, yw 108), (103, yw 103), (98, yw 98), (84, yw 84), (79, yw 79)], ct := [(137, yu 137 126 7 yN 0), (136, yu 136 137 7 yN 0), (135, yu 135 116 5 yW 0), (121, yl 121 9 5 50 yW 0)], bk := [(6, yc 7 7), (5, yc 6 7), (4, yc 5 5)] })
          (.br (.ieq (.var 4) (.lit 11))
           (.call 2 { lo := 0, lob := 0, iv := [(70, yv 70), (65, yv 65), (64, yv 64), (63, yv 63), (62, yv 62), (61, yv 61), (60, yv 60), (59, yv 59), (57, yv 57), (56, yv 56), (3, yv 3), (2, yv 2), (1, yv 1), (0, yv 0), (53, yv 53), (52, yv 52), (69, yv 69), (50, yv 50), (49, yv 49), (47, yv 47), (45, yv 45), (44, yv 44), (43, yv 43), (42, yv 42), (40, yv 40), (39, yv 39), (38, yv 38), (37, yv 37), (35, yv 35), (34, yv 34), (33, yv 33), (32, yv 32), (30, yv 30), (29, yv 29), (28, yv 28), (27, yv 27), (26, yv 26), (25, yv 25), (24, yv 24), (23, yv 23), (22, yv 22), (21, yv 21), (20, yv 20), (19, yv 19), (18, yv 18), (16, yv 16), (15, yv 15), (14, yv 14), (13, yv 13), (11, yv 11), (10, yv 10), (9, yv 9), (8, yv 8), (7, yv 7), (6, yv 6), (5, yv 5), (4, yv 4)], bv := [(67, yw 67), (66, yw 66), (58, yw 58), (55, yw 55), (51, yw 51), (48, yw 48), (46, yw 46), (41, yw 41), (36, yw 36), (31, yw 31), (17, yw 17), (12, yw 12)], ct := [(70, yu 70 59 7 yN 0), (69, yu 69 70 7 yN 0), (68, yu 68 49 5 yW 0), (54, yl 54 9 5 50 yW 0)], bk := [(3, yc 3 7), (2, yc 2 7), (1, yc 1 5), (0, yb 0)] } 71 <|
            .fin { lo := 71, lob := 4, iv := [(137, yv 137), (132, yv 132), (131, yv 131), (130, yv 130), (129, yv 129), (128, yv 128), (127, yv 127), (126, yv 126), (124, yv 124), (123, yv 123), (120, yv 120), (119, yv 119), (136, yv 136), (117, yv 117), (116, yv 116), (114, yv 114), (112, yv 112), (111, yv 111), (110, yv 110), (109, yv 109), (107, yv 107), (106, yv 106), (105, yv 105), (104, yv 104), (102, yv 102), (101, yv 101), (100, yv 100), (99, yv 99), (97, yv 97), (96, yv 96), (95, yv 95), (94, yv 94), (93, yv 93), (92, yv 92), (91, yv 91), (90, yv 90), (89, yv 89), (88, yv 88), (87, yv 87), (86, yv 86), (85, yv 85), (83, yv 83), (82, yv 82), (81, yv 81), (80, yv 80), (78, yv 78), (77, yv 77), (76, yv 76), (75, yv 75), (74, yv 74), (73, yv 73), (72, yv 72), (71, yv 71)], bv := [(134, yw 134), (133, yw 133), (125, yw 125), (122, yw 122), (118, yw 118), (115, yw 115), (113, yw 113), (108, yw 108), (103, yw 103), (98, yw 98), (84, yw 84), (79, yw 79)], ct := [(137, yu 137 126 7 yN 0), (136, yu 136 137 7 yN 0), (135, yu 135 116 5 yW 0), (121, yl 121 9 5 50 yW 0)], bk := [(6, yc 7 7), (5, yc 6 7), (4, yc 5 5)] })
           (.fin { lo := 71, lob := 4, iv := [(137, yv 70), (132, yv 65), (131, yv 64), (130, yv 63), (129, yv 62), (128, yv 61), (127, yv 60), (126, yv 59), (124, yv 57), (123, yv 56), (120, yv 53), (119, yv 52), (136, yv 69), (117, yv 50), (116, yv 49), (114, yv 47), (112, yv 45), (111, yv 44), (110, yv 43), (109, yv 42), (107, yv 40), (106, yv 39), (105, yv 38), (104, yv 37), (102, yv 35), (101, yv 34), (100, yv 33), (99, yv 32), (97, yv 30), (96, yv 29), (95, yv 28), (94, yv 27), (93, yv 26), (92, yv 25), (91, yv 24), (90, yv 23), (89, yv 22), (88, yv 21), (87, yv 20), (86, yv 19), (85, yv 18), (83, yv 16), (82, yv 15), (81, yv 14), (80, yv 13), (78, yv 11), (77, yv 10), (76, yv 9), (75, yv 8), (74, yv 7), (73, yv 6), (72, yv 5), (71, yv 4)], bv := [(134, yw 67), (133, yw 66), (125, yw 58), (122, yw 55), (118, yw 51), (115, yw 48), (113, yw 46), (108, yw 41), (103, yw 36), (98, yw 31), (84, yw 17), (79, yw 12)], ct := [(137, yu 70 59 7 yN 0), (136, yu 69 70 7 yN 0), (135, yu 68 49 5 yW 0), (121, yl 54 9 5 50 yW 0)], bk := [(6, yc 3 7), (5, yc 2 7), (4, yc 1 5)] })))))))))))
theorem open_run : exec tab openE 8000 [] (cfg0 openCon.f openCon.nv [] openCon.gl openCon.hp openCon.args) = openOut := by kernel_rfl
def openPre (ρ : Env) : Prop := OkR ρ 4 ∧ StR ρ ∧ FewN ρ 4 ∧ (0 ≤ ρ.iv 18 ∧ ρ.iv 18 < 9) ∧ 0 ≤ ρ.iv 19 ∧ ρ.iv 19 < 9
def openPost (ρ : Env) : Prop := OkR ρ 71 ∧ rsRd ρ 0 71 = (rsRd ρ 0 4).opened
set_option maxHeartbeats 4000000 in
theorem open_sat (ρ : Env) (hpre : openPre ρ.num) : Sat openPost oSem [] ρ openOut := by
 replace hpre : openPre ρ := hpre
 obtain ⟨⟨o1, o2, o3⟩, hs, hf, ⟨n1, n2⟩, m1, m2⟩ := hpre
 unfold openOut
 refine Sat.br (fun c1 => ?_) (fun c1 => ?_)
 ·simp only [Da] at c1
  have h0 : (rsRd ρ 0 4).opened = if (rsRd ρ 0 4).spanning then (rsRd ρ 0 4).era 3 else (rsRd ρ 0 4).done := if_pos c1
  refine Sat.br (fun c => ?_) (fun c => ?_)
  ·simp only [Da] at c
   have hm : (rsRd ρ 0 4).opened = (rsRd ρ 0 4).era 3 := h0.trans (if_pos c)
   exact Sat.fin ⟨⟨(by first | exact o1 | exact o2 | exact o3 | exact okNil rfl rfl | assumption), (by first | exact o2 | exact ⟨okNil rfl rfl, Int.le_refl 0, .inl rfl⟩ | assumption), (by first | exact o1 | exact o2 | exact o3 | exact okNil rfl rfl | assumption)⟩, Eq.trans (b := (rsRd ρ 0 4).era 3) (RS.ext' rfl rfl rfl rfl rfl rfl rW1 rD1 rfl rfl rfl rfl rH1 rfl rN1 rfl rfl) (Eq.symm (hm))⟩
  ·simp only [Da] at c
   have hm : (rsRd ρ 0 4).opened = (rsRd ρ 0 4).done := h0.trans (if_neg (fun h : ρ.iv 0 = 4 ∨ ρ.iv 0 = 5 => by omega))
   exact Sat.fin ⟨⟨(by first | exact o1 | exact o2 | exact o3 | exact okNil rfl rfl | assumption), (by first | exact o2 | exact ⟨okNil rfl rfl, Int.le_refl 0, .inl rfl⟩ | assumption), (by first | exact o1 | exact o2 | exact o3 | exact okNil rfl rfl | assumption)⟩, Eq.trans (b := (rsRd ρ 0 4).done) (RS.ext' rfl rfl rfl rfl rfl rfl rW1 rD1 rfl rfl rfl rfl rH1 rfl rN1 rfl rfl) (Eq.symm (hm))⟩
 simp only [Da] at c1
 refine Sat.br (fun c2 => ?_) (fun c2 => ?_)
 ·simp only [Da] at c2
  have hm : (rsRd ρ 0 4).opened = (rsRd ρ 0 4).leave 0 := (if_neg c1).trans (if_pos c2)
  refine r_call (c := leaveCon) rfl (rsRd ρ 0 4) ((rsRd ρ 0 4).leave 0) (by decide) (by decide) (st4 rfl rfl rfl rfl) ⟨⟨o1, o2, o3⟩, hs, Int.le_refl 0, (show (0 : Int) ≤ 9 by decide)⟩ (RS.ext' rfl rfl rfl rfl rfl rfl rW1 rD1 rfl rfl rfl rfl rH1 rfl rN1 rfl rfl) (fun e hq hr => ⟨hq.1, by rw [← hr]; exact hq.2⟩) (fun u => (OkR u 71) ∧ rsRd u 0 71 = (rsRd u 0 4).opened) (fun e h1 h2 => ⟨h1, h2.trans hm.symm⟩) fun u hu => ?_
  obtain ⟨⟨o1, o2, o3⟩, hm⟩ := hu
  exact Sat.fin ⟨⟨(by first | exact o1 | exact o2 | exact o3 | exact okNil rfl rfl | assumption), (by first | exact o2 | exact ⟨okNil rfl rfl, Int.le_refl 0, .inl rfl⟩ | assumption), (by first | exact o1 | exact o2 | exact o3 | exact okNil rfl rfl | assumption)⟩, Eq.trans (b := (rsRd u 0 71)) (RS.ext' rfl rfl rfl rfl rfl rfl rW1 rD1 rfl rfl rfl rfl rH1 rfl rN1 rfl rfl) (Eq.symm (hm.symm))⟩
 simp only [Da] at c2
 refine Sat.br (fun c3 => ?_) (fun c3 => ?_)
 ·simp only [Da] at c3
  have hm : (rsRd ρ 0 4).opened = (rsRd ρ 0 4).load 1 (ρ.iv 5) (ρ.iv 6) (ρ.iv 7) := (if_neg c1).trans ((if_neg c2).trans (if_pos c3))
  exact Sat.fin ⟨⟨(by first | exact o1 | exact o2 | exact o3 | exact okNil rfl rfl | assumption), (by first | exact o2 | exact ⟨okNil rfl rfl, Int.le_refl 0, .inl rfl⟩ | assumption), (by first | exact o1 | exact o2 | exact o3 | exact okNil rfl rfl | assumption)⟩, Eq.trans (b := (rsRd ρ 0 4).load 1 (ρ.iv 5) (ρ.iv 6) (ρ.iv 7)) (RS.ext' rfl rfl rfl rfl rfl rfl rW1 rD1 rfl rfl rfl rfl rH1 rfl rN1 rfl rfl) (Eq.symm (hm))⟩
 simp only [Da] at c3
 refine Sat.br (fun c4 => ?_) (fun c4 => ?_)
 ·simp only [Da] at c4
  have hm : (rsRd ρ 0 4).opened = (rsRd ρ 0 4).ask 1 ⟨2, ρ.iv 5, ρ.iv 6, ρ.iv 7, wdRd ρ 8, wdRd ρ 13⟩ := (if_neg c1).trans ((if_neg c2).trans ((if_neg c3).trans (if_pos c4)))
  exact Sat.fin ⟨⟨(by first | exact o1 | exact o2 | exact o3 | exact okNil rfl rfl | assumption), (by first | exact o2 | exact ⟨okNil rfl rfl, Int.le_refl 0, .inl rfl⟩ | assumption), (by first | exact o1 | exact o2 | exact o3 | exact okNil rfl rfl | assumption)⟩, Eq.trans (b := (rsRd ρ 0 4).ask 1 ⟨2, ρ.iv 5, ρ.iv 6, ρ.iv 7, wdRd ρ 8, wdRd ρ 13⟩) (RS.ext' rfl rfl rfl rfl rfl rfl rW1 rD1 rfl rfl rfl rfl rH1 rfl rN1 rfl rfl) (Eq.symm (hm))⟩
 simp only [Da] at c4
 refine Sat.br (fun c5 => ?_) (fun c5 => ?_)
 ·simp only [Da] at c5
  have hm : (rsRd ρ 0 4).opened = (rsRd ρ 0 4).ask 1 ⟨3, ρ.iv 5, ρ.iv 6, ρ.iv 7, wdRd ρ 8, wdRd ρ 13⟩ := (if_neg c1).trans ((if_neg c2).trans ((if_neg c3).trans ((if_neg c4).trans (if_pos c5))))
  exact Sat.fin ⟨⟨(by first | exact o1 | exact o2 | exact o3 | exact okNil rfl rfl | assumption), (by first | exact o2 | exact ⟨okNil rfl rfl, Int.le_refl 0, .inl rfl⟩ | assumption), (by first | exact o1 | exact o2 | exact o3 | exact okNil rfl rfl | assumption)⟩, Eq.trans (b := (rsRd ρ 0 4).ask 1 ⟨3, ρ.iv 5, ρ.iv 6, ρ.iv 7, wdRd ρ 8, wdRd ρ 13⟩) (RS.ext' rfl rfl rfl rfl rfl rfl rW1 rD1 rfl rfl rfl rfl rH1 rfl rN1 rfl rfl) (Eq.symm (hm))⟩
 simp only [Da] at c5
 refine Sat.br (fun c6 => ?_) (fun c6 => ?_)
 ·simp only [Da] at c6
  have hm : (rsRd ρ 0 4).opened = (rsRd ρ 0 4).load 5 (ρ.iv 5) (ρ.iv 6) (ρ.iv 7) := (if_neg c1).trans ((if_neg c2).trans ((if_neg c3).trans ((if_neg c4).trans ((if_neg c5).trans (if_pos c6)))))
  exact Sat.fin ⟨⟨(by first | exact o1 | exact o2 | exact o3 | exact okNil rfl rfl | assumption), (by first | exact o2 | exact ⟨okNil rfl rfl, Int.le_refl 0, .inl rfl⟩ | assumption), (by first | exact o1 | exact o2 | exact o3 | exact okNil rfl rfl | assumption)⟩, Eq.trans (b := (rsRd ρ 0 4).load 5 (ρ.iv 5) (ρ.iv 6) (ρ.iv 7)) (RS.ext' rfl rfl rfl rfl rfl rfl rW1 rD1 rfl rfl rfl rfl rH1 rfl rN1 rfl rfl) (Eq.symm (hm))⟩
 simp only [Da] at c6
 have hB : ∀ X : RS, (if ρ.iv 4 = 7 then (if (rsRd ρ 0 4).keeping ∧ (rsRd ρ 0 4).holds (ρ.iv 18).toNat ≠ (rsRd ρ 0 4).holds (ρ.iv 19).toNat then (rsRd ρ 0 4).post 2 (ρ.iv 18) ((rsRd ρ 0 4).holds (ρ.iv 19).toNat) else (rsRd ρ 0 4).done)
     else if ρ.iv 4 = 8 then (if (rsRd ρ 0 4).dating then (rsRd ρ 0 4).era 8 else (rsRd ρ 0 4).ask 1 ⟨4, 0, 0, 0, Wd.zero, Wd.zero⟩)
     else if ρ.iv 4 = 9 then (rsRd ρ 0 4).ask 2 ⟨5, 0, 0, 0, wdRd ρ 8, Wd.zero⟩ else if ρ.iv 4 = 10 then (rsRd ρ 0 4).retire else if ρ.iv 4 = 11 then (rsRd ρ 0 4).scan else rsRd ρ 0 4) = X → (rsRd ρ 0 4).opened = X :=
  fun X h => ((if_neg c1).trans ((if_neg c2).trans ((if_neg c3).trans ((if_neg c4).trans ((if_neg c5).trans (if_neg c6)))))).trans h
 refine Sat.br (fun c7 => ?_) (fun c7 => ?_)
 ·simp only [Da] at c7
  refine Sat.ob (by simp only [Da]; omega) (Sat.ob (by simp only [Da]; omega) (Sat.ob (by simp only [Da]; omega) (Sat.ob (by simp only [Da]; omega) (Sat.br (fun c => ?_) (fun c => ?_)))))
  ·simp only [Da] at c
   have hne : (rsRd ρ 0 4).holds (ρ.iv 18).toNat ≠ (rsRd ρ 0 4).holds (ρ.iv 19).toNat := fun h => by
    have h' := wd_eq'.1 h
    simp only [rsRd, mkW] at h'
    simp_all
   have hm : (rsRd ρ 0 4).opened = (rsRd ρ 0 4).post 2 (ρ.iv 18) ((rsRd ρ 0 4).holds (ρ.iv 19).toNat) := hB _ ((if_pos c7).trans (if_pos ⟨c.1, hne⟩))
   refine Sat.ob (decide_eq_true m1) (Sat.ob (by simp only [Da]; omega) (Sat.ob (decide_eq_true n1) (Sat.ob (by simp only [Da]; omega) (Sat.callK (c := keepCon) rfl ⟨⟨hs.1, hs.2.1⟩, n1, n2⟩ (fun r => ((OkR r 4) ∧ 0 ≤ r.iv 18) ∧ (rsRd r 0 4).opened = (rsRd r 0 4).post 2 (r.iv 18) ((rsRd r 0 4).holds (r.iv 19).toNat)) (fun e _ => ⟨⟨⟨o1, o2, o3⟩, n1⟩, hm⟩) fun r hr => ?_))))
   obtain ⟨⟨⟨o1, o2, o3⟩, i1⟩, hm⟩ := hr
   refine Sat.fin ⟨⟨(by first | exact o1 | exact o2 | exact o3 | exact okNil rfl rfl | assumption), (by first | exact o2 | exact ⟨okNil rfl rfl, Int.le_refl 0, .inl rfl⟩ | assumption), (by first | exact o1 | exact o2 | exact o3 | exact okNil rfl rfl | assumption)⟩, Eq.trans (b := (rsRd r 0 4).post 2 (r.iv 18) ((rsRd r 0 4).holds (r.iv 19).toNat)) (RS.ext' rfl rfl rfl rfl rfl rfl rW1 rD1 rfl rfl rfl rfl ?_ rfl rN1 rfl rfl) (Eq.symm (hm))⟩
   intro i
   show _ = if i = (r.iv 18).toNat then mkW (r.ic 54 (r.iv 19).toNat 0) (r.bc 54 (r.iv 19).toNat 0) else mkW (r.ic 54 i 0) (r.bc 54 i 0)
   by_cases h : i = (r.iv 18).toNat
   ·subst h
    simp [rsRd, mkW, Wd.ref', wdRd, -Int.pred_toNat, Sub.nenv, assoc, CV.I, CV.B, upsI, upsB, Seg.I, Seg.B, SC.I, SC.B, IE.den, BE.den]
   ·simp [rsRd, mkW, -Int.pred_toNat, Sub.nenv, assoc, CV.I, CV.B, upsI, upsB, Seg.I, Seg.B, SC.I, SC.B, IE.den, BE.den, h, Ne.symm h]
  ·simp only [Da] at c
   have he : ¬ ((rsRd ρ 0 4).keeping ∧ (rsRd ρ 0 4).holds (ρ.iv 18).toNat ≠ (rsRd ρ 0 4).holds (ρ.iv 19).toNat) := by
    rintro ⟨h1, h2⟩
    have h1 : ρ.iv 0 = 2 ∨ ρ.iv 0 = 3 := h1
    apply h2
    apply wd_eq'.2
    simp only [rsRd, mkW]
    rcases c with c | c
    ·omega
    ·exact c
   have hm : (rsRd ρ 0 4).opened = (rsRd ρ 0 4).done := hB _ ((if_pos c7).trans (if_neg he))
   exact Sat.fin ⟨⟨(by first | exact o1 | exact o2 | exact o3 | exact okNil rfl rfl | assumption), (by first | exact o2 | exact ⟨okNil rfl rfl, Int.le_refl 0, .inl rfl⟩ | assumption), (by first | exact o1 | exact o2 | exact o3 | exact okNil rfl rfl | assumption)⟩, Eq.trans (b := (rsRd ρ 0 4).done) (RS.ext' rfl rfl rfl rfl rfl rfl rW1 rD1 rfl rfl rfl rfl rH1 rfl rN1 rfl rfl) (Eq.symm (hm))⟩
 simp only [Da] at c7
 refine Sat.br (fun c8 => ?_) (fun c8 => ?_)
 ·simp only [Da] at c8
  refine Sat.br (fun c => ?_) (fun c => ?_)
  ·simp only [Da] at c
   have hm : (rsRd ρ 0 4).opened = (rsRd ρ 0 4).era 8 := hB _ ((if_neg c7).trans ((if_pos c8).trans (if_pos c)))
   exact Sat.fin ⟨⟨(by first | exact o1 | exact o2 | exact o3 | exact okNil rfl rfl | assumption), (by first | exact o2 | exact ⟨okNil rfl rfl, Int.le_refl 0, .inl rfl⟩ | assumption), (by first | exact o1 | exact o2 | exact o3 | exact okNil rfl rfl | assumption)⟩, Eq.trans (b := (rsRd ρ 0 4).era 8) (RS.ext' rfl rfl rfl rfl rfl rfl rW1 rD1 rfl rfl rfl rfl rH1 rfl rN1 rfl rfl) (Eq.symm (hm))⟩
  ·simp only [Da] at c
   have hm : (rsRd ρ 0 4).opened = (rsRd ρ 0 4).ask 1 ⟨4, 0, 0, 0, Wd.zero, Wd.zero⟩ := hB _ ((if_neg c7).trans ((if_pos c8).trans (if_neg (fun h : ρ.iv 0 = 3 ∨ ρ.iv 0 = 5 => by omega))))
   exact Sat.fin ⟨⟨(by first | exact o1 | exact o2 | exact o3 | exact okNil rfl rfl | assumption), (by first | exact o2 | exact ⟨okNil rfl rfl, Int.le_refl 0, .inl rfl⟩ | assumption), (by first | exact o1 | exact o2 | exact o3 | exact okNil rfl rfl | assumption)⟩, Eq.trans (b := (rsRd ρ 0 4).ask 1 ⟨4, 0, 0, 0, Wd.zero, Wd.zero⟩) (RS.ext' rfl rfl rfl rfl rfl rfl rW1 rD1 rfl rfl rfl rfl rH1 rfl rN1 rfl rfl) (Eq.symm (hm))⟩
 simp only [Da] at c8
 refine Sat.br (fun c9 => ?_) (fun c9 => ?_)
 ·simp only [Da] at c9
  have hm : (rsRd ρ 0 4).opened = (rsRd ρ 0 4).ask 2 ⟨5, 0, 0, 0, wdRd ρ 8, Wd.zero⟩ := hB _ ((if_neg c7).trans ((if_neg c8).trans (if_pos c9)))
  exact Sat.fin ⟨⟨(by first | exact o1 | exact o2 | exact o3 | exact okNil rfl rfl | assumption), (by first | exact o2 | exact ⟨okNil rfl rfl, Int.le_refl 0, .inl rfl⟩ | assumption), (by first | exact o1 | exact o2 | exact o3 | exact okNil rfl rfl | assumption)⟩, Eq.trans (b := (rsRd ρ 0 4).ask 2 ⟨5, 0, 0, 0, wdRd ρ 8, Wd.zero⟩) (RS.ext' rfl rfl rfl rfl rfl rfl rW1 rD1 rfl rfl rfl rfl rH1 rfl rN1 rfl rfl) (Eq.symm (hm))⟩
 simp only [Da] at c9
 refine Sat.br (fun c10 => ?_) (fun c10 => ?_)
 ·simp only [Da] at c10
  have hm : (rsRd ρ 0 4).opened = (rsRd ρ 0 4).retire := hB _ ((if_neg c7).trans ((if_neg c8).trans ((if_neg c9).trans (if_pos c10))))
  refine r_call (c := retireCon) rfl (rsRd ρ 0 4) (rsRd ρ 0 4).retire (by decide) (by decide) (st4 rfl rfl rfl rfl) ⟨⟨o1, o2, o3⟩, hs, hf⟩ (RS.ext' rfl rfl rfl rfl rfl rfl rW1 rD1 rfl rfl rfl rfl rH1 rfl rN1 rfl rfl) (fun e hq hr => ⟨hq.1, by rw [← hr]; exact hq.2⟩) (fun u => (OkR u 71) ∧ rsRd u 0 71 = (rsRd u 0 4).opened) (fun e h1 h2 => ⟨h1, h2.trans hm.symm⟩) fun u hu => ?_
  obtain ⟨⟨o1, o2, o3⟩, hm⟩ := hu
  exact Sat.fin ⟨⟨(by first | exact o1 | exact o2 | exact o3 | exact okNil rfl rfl | assumption), (by first | exact o2 | exact ⟨okNil rfl rfl, Int.le_refl 0, .inl rfl⟩ | assumption), (by first | exact o1 | exact o2 | exact o3 | exact okNil rfl rfl | assumption)⟩, Eq.trans (b := (rsRd u 0 71)) (RS.ext' rfl rfl rfl rfl rfl rfl rW1 rD1 rfl rfl rfl rfl rH1 rfl rN1 rfl rfl) (Eq.symm (hm.symm))⟩
 simp only [Da] at c10
 refine Sat.br (fun c11 => ?_) (fun c11 => ?_)
 ·simp only [Da] at c11
  have hm : (rsRd ρ 0 4).opened = (rsRd ρ 0 4).scan := hB _ ((if_neg c7).trans ((if_neg c8).trans ((if_neg c9).trans ((if_neg c10).trans (if_pos c11)))))
  refine r_call (c := scanCon) rfl (rsRd ρ 0 4) (rsRd ρ 0 4).scan (by decide) (by decide) (st4 rfl rfl rfl rfl) ⟨⟨o1, o2, o3⟩, hs⟩ (RS.ext' rfl rfl rfl rfl rfl rfl rW1 rD1 rfl rfl rfl rfl rH1 rfl rN1 rfl rfl) (fun e hq hr => ⟨hq.1, by rw [← hr]; exact hq.2⟩) (fun u => (OkR u 71) ∧ rsRd u 0 71 = (rsRd u 0 4).opened) (fun e h1 h2 => ⟨h1, h2.trans hm.symm⟩) fun u hu => ?_
  obtain ⟨⟨o1, o2, o3⟩, hm⟩ := hu
  exact Sat.fin ⟨⟨(by first | exact o1 | exact o2 | exact o3 | exact okNil rfl rfl | assumption), (by first | exact o2 | exact ⟨okNil rfl rfl, Int.le_refl 0, .inl rfl⟩ | assumption), (by first | exact o1 | exact o2 | exact o3 | exact okNil rfl rfl | assumption)⟩, Eq.trans (b := (rsRd u 0 71)) (RS.ext' rfl rfl rfl rfl rfl rfl rW1 rD1 rfl rfl rfl rfl rH1 rfl rN1 rfl rfl) (Eq.symm (hm.symm))⟩
 ·simp only [Da] at c11
  have hm : (rsRd ρ 0 4).opened = rsRd ρ 0 4 := hB _ ((if_neg c7).trans ((if_neg c8).trans ((if_neg c9).trans ((if_neg c10).trans (if_neg c11)))))
  exact Sat.fin ⟨⟨(by first | exact o1 | exact o2 | exact o3 | exact okNil rfl rfl | assumption), (by first | exact o2 | exact ⟨okNil rfl rfl, Int.le_refl 0, .inl rfl⟩ | assumption), (by first | exact o1 | exact o2 | exact o3 | exact okNil rfl rfl | assumption)⟩, Eq.trans (b := (rsRd ρ 0 4)) (RS.ext' rfl rfl rfl rfl rfl rfl rW1 rD1 rfl rfl rfl rfl rH1 rfl rN1 rfl rfl) (Eq.symm (hm))⟩
theorem open_con : ConOK Tryd.prog openCon openPre openPost :=
 con_ok tabOK (E := openE) (cs := oSem) rfl oSem_ok schedOK rfl open_run (by kernel_rfl) (fun ρ _ p hp => by cases hp) open_sat
end Go.Proofs.YthomdlajobnmnaaDoor

set_option linter.unusedSimpArgs false
set_option linter.unusedVariables false
namespace Go.Proofs.YthomdlajobnmnaaDoor
open Go.Rex
def bgSem : CSem := [(openCon, openPre, openPost)]
theorem bgSem_ok : ∀ k pre post, (k, pre, post) ∈ bgSem → conWf k = true ∧ ConOK Tryd.prog k pre post := by
 intro k pre post h
 simp only [bgSem, List.mem_cons, List.not_mem_nil, or_false, Prod.mk.injEq] at h
 obtain ⟨rfl, rfl, rfl⟩ := h
 exact ⟨by kernel_rfl, open_con⟩
def knB : Kn := [(.ieq (.var 22) (.lit 0), true), (.ilt (.var 71) (.lit 1), false), (.ilt (.lit 11) (.var 71), false), (.ilt (.var 85) (.lit 0), false), (.ile (.lit 9) (.var 85), false), (.ilt (.var 86) (.lit 0), false), (.ile (.lit 9) (.var 86), false)]
noncomputable def beginE : Ex := { sched := sched, loops := [], cons := [openCon], fin := beginCon }
def beginOut : Out :=
 .br (.or (.ieq (.var 71) (.lit 6)) (.ieq (.var 71) (.lit 7)))
 (.call 0 { lo := 0, lob := 0, iv := [(65, yv 65), (64, yv 64), (63, yv 63), (62, yv 62), (61, yv 61), (60, yv 60), (59, yv 59), (57, yv 57), (56, yv 56), (3, yv 3), (2, yv 2), (1, yv 1), (0, yv 0), (53, .lit 0), (52, .lit 0), (50, .lit 0), (49, .lit 0), (47, .lit 0), (45, .lit 0), (44, .lit 0), (43, .lit 0), (42, .lit 0), (40, .lit 0), (39, .lit 0), (38, .lit 0), (37, .lit 0), (35, .lit 0), (34, .lit 0), (33, .lit 0), (32, .lit 0), (30, .lit 0), (29, .lit 0), (28, .lit 0), (27, .lit 0), (26, .lit 0), (25, .lit 0), (24, .lit 0), (23, .lit 0), (22, .lit 0), (21, yv 88), (20, yv 87), (19, yv 86), (18, yv 85), (16, yv 83), (15, yv 82), (14, yv 81), (13, yv 80), (11, yv 78), (10, yv 77), (9, yv 76), (8, yv 75), (7, yv 74), (6, yv 73), (5, yv 72), (4, yv 71)], bv := [(67, yw 67), (66, yw 66), (58, yw 58), (55, yw 55), (51, .lit true), (48, .lit true), (46, .lit false), (41, .lit false), (36, .lit false), (31, .lit false), (17, yw 84), (12, yw 79)], ct := [(70, yu 70 59 7 yN 0), (54, yl 54 9 5 50 yW 0)], bk := [(3, yc 3 7), (0, yb 0)], nb := [2, 1, 2, 1] } 89 <|
  .fin { lo := 89, lob := 4, iv := [(155, yv 155), (150, yv 150), (149, yv 149), (148, yv 148), (147, yv 147), (146, yv 146), (145, yv 145), (144, yv 144), (142, yv 142), (141, yv 141), (138, yv 138), (137, yv 137), (154, yv 154), (135, yv 135), (134, yv 134), (132, yv 132), (130, yv 130), (129, yv 129), (128, yv 128), (127, yv 127), (125, yv 125), (124, yv 124), (123, yv 123), (122, yv 122), (120, yv 120), (119, yv 119), (118, yv 118), (117, yv 117), (115, yv 115), (114, yv 114), (113, yv 113), (112, yv 112), (111, yv 111), (110, yv 110), (109, yv 109), (108, yv 108), (107, yv 107), (106, yv 106), (105, yv 105), (104, yv 104), (103, yv 103), (101, yv 101), (100, yv 100), (99, yv 99), (98, yv 98), (96, yv 96), (95, yv 95), (94, yv 94), (93, yv 93), (92, yv 92), (91, yv 91), (90, yv 90), (89, yv 89)], bv := [(152, yw 152), (151, yw 151), (143, yw 143), (140, yw 140), (136, yw 136), (133, yw 133), (131, yw 131), (126, yw 126), (121, yw 121), (116, yw 116), (102, yw 102), (97, yw 97)], ct := [(155, yu 155 144 7 yN 0), (154, yu 154 155 7 yN 0), (153, yu 153 134 5 yW 0), (139, yl 139 9 5 50 yW 0)], bk := [(6, yc 7 7), (5, yc 6 7), (4, yc 5 5)] })
 (.call 0 { lo := 0, lob := 0, iv := [(65, yv 65), (64, yv 64), (63, yv 63), (62, yv 62), (61, yv 61), (60, yv 60), (59, yv 59), (57, yv 57), (56, yv 56), (3, yv 3), (2, yv 2), (1, yv 1), (0, yv 0), (53, .lit 0), (52, .lit 0), (50, .lit 0), (49, .lit 0), (47, .lit 0), (45, .lit 0), (44, .lit 0), (43, .lit 0), (42, .lit 0), (40, .lit 0), (39, .lit 0), (38, .lit 0), (37, .lit 0), (35, .lit 0), (34, .lit 0), (33, .lit 0), (32, .lit 0), (30, .lit 0), (29, .lit 0), (28, .lit 0), (27, .lit 0), (26, .lit 0), (25, .lit 0), (24, .lit 0), (23, .lit 0), (22, .lit 0), (21, yv 88), (20, yv 87), (19, yv 86), (18, yv 85), (16, yv 83), (15, yv 82), (14, yv 81), (13, yv 80), (11, yv 78), (10, yv 77), (9, yv 76), (8, yv 75), (7, yv 74), (6, yv 73), (5, yv 72), (4, yv 71)], bv := [(67, yw 67), (66, yw 66), (58, yw 58), (55, yw 55), (51, .lit true), (48, .lit true), (46, .lit false), (41, .lit false), (36, .lit false), (31, .lit false), (17, yw 84), (12, yw 79)], ct := [(70, yu 70 59 7 yN 0), (54, yl 54 9 5 50 yW 0)], bk := [(3, yc 3 7), (0, yb 0)], nb := [2, 1, 2, 1] } 89 <|
  .fin { lo := 89, lob := 4, iv := [(155, yv 155), (150, yv 150), (149, yv 149), (148, yv 148), (147, yv 147), (146, yv 146), (145, yv 145), (144, yv 144), (142, yv 142), (141, yv 141), (138, yv 138), (137, yv 137), (154, yv 154), (135, yv 135), (134, yv 134), (132, yv 132), (130, yv 130), (129, yv 129), (128, yv 128), (127, yv 127), (125, yv 125), (124, yv 124), (123, yv 123), (122, yv 122), (120, yv 120), (119, yv 119), (118, yv 118), (117, yv 117), (115, yv 115), (114, yv 114), (113, yv 113), (112, yv 112), (111, yv 111), (110, yv 110), (109, yv 109), (108, yv 108), (107, yv 107), (106, yv 106), (105, yv 105), (104, yv 104), (103, yv 103), (101, yv 101), (100, yv 100), (99, yv 99), (98, yv 98), (96, yv 96), (95, yv 95), (94, yv 94), (93, yv 93), (92, yv 92), (91, yv 91), (90, yv 90), (89, yv 89)], bv := [(152, yw 152), (151, yw 151), (143, yw 143), (140, yw 140), (136, yw 136), (133, yw 133), (131, yw 131), (126, yw 126), (121, yw 121), (116, yw 116), (102, yw 102), (97, yw 97)], ct := [(155, yu 155 144 7 yN 0), (154, yu 154 155 7 yN 0), (153, yu 153 134 5 yW 0), (139, yl 139 9 5 50 yW 0)], bk := [(6, yc 7 7), (5, yc 6 7), (4, yc 5 5)] })
theorem begin_run : exec tab beginE 8000 [] (cfg0 beginCon.f beginCon.nv knB beginCon.gl beginCon.hp beginCon.args) = beginOut := by kernel_rfl
def beginPre (ρ : Env) : Prop := (OkR ρ 4 ∧ StR ρ ∧ FewN ρ 4) ∧ ρ.iv 22 = 0 ∧ (caRd ρ 71).OK
def beginPost (ρ : Env) : Prop := OkR ρ 89 ∧ rsRd ρ 0 89 = ((rsRd ρ 0 4).begin (caRd ρ 71)).1
theorem begin_eq {r : RS} {c : Ca} (h : r.step = 0) (hc : c.OK) : (r.begin c).1 = ({ r with call := c, step := 0, acc := Ac.zero, word := Wd.zero, clock := Wd.zero, index := 0, seen := [], doomed := [] } : RS).opened ∧ (r.begin c).2 = true := by
 obtain ⟨c1, c2, c3, c4, c5, c6⟩ := hc
 unfold RS.begin
 rw [if_neg (by omega), if_neg (by omega), if_neg (by omega)]
 exact ⟨rfl, rfl⟩
theorem begin_sat (ρ : Env) (hpre : beginPre ρ.num) : Sat beginPost bgSem [] ρ beginOut := by
 replace hpre : beginPre ρ := hpre
 obtain ⟨⟨⟨o1, o2, o3⟩, hs, hf⟩, h0, hc⟩ := hpre
 have hm : ((rsRd ρ 0 4).begin (caRd ρ 71)).1 = ({ rsRd ρ 0 4 with call := caRd ρ 71, step := 0, acc := Ac.zero, word := Wd.zero, clock := Wd.zero, index := 0, seen := [], doomed := [] } : RS).opened := (begin_eq h0 hc).1
 obtain ⟨-, -, c3, c4, c5, c6⟩ := hc
 unfold beginOut
 refine Sat.br (fun _ => ?_) (fun _ => ?_)
 all_goals
  refine r_call (c := openCon) rfl ({ rsRd ρ 0 4 with call := caRd ρ 71, step := 0, acc := Ac.zero, word := Wd.zero, clock := Wd.zero, index := 0, seen := [], doomed := [] } : RS) ({ rsRd ρ 0 4 with call := caRd ρ 71, step := 0, acc := Ac.zero, word := Wd.zero, clock := Wd.zero, index := 0, seen := [], doomed := [] } : RS).opened (by decide) (by decide) (st4 rfl rfl rfl rfl) ⟨⟨by exact okNil rfl rfl, by exact ⟨okNil rfl rfl, Int.le_refl 0, .inl rfl⟩, o3⟩, hs, hf, ⟨c3, c4⟩, c5, c6⟩ (RS.ext' rfl rfl rfl rfl rfl rfl rW1 rD1 rfl rfl rfl rfl rH1 rfl rN1 rfl rfl) (fun e hq hr => ⟨hq.1, by rw [← hr]; exact hq.2⟩) (fun u => (OkR u 89) ∧ rsRd u 0 89 = ((rsRd u 0 4).begin (caRd u 71)).1) (fun e h1 h2 => ⟨h1, h2.trans hm.symm⟩) fun u hu => ?_
  obtain ⟨⟨o1, o2, o3⟩, hm⟩ := hu
  exact Sat.fin ⟨⟨(by first | exact o1 | exact o2 | exact o3 | exact okNil rfl rfl | assumption), (by first | exact o2 | exact ⟨okNil rfl rfl, Int.le_refl 0, .inl rfl⟩ | assumption), (by first | exact o1 | exact o2 | exact o3 | exact okNil rfl rfl | assumption)⟩, Eq.trans (b := (rsRd u 0 89)) (RS.ext' rfl rfl rfl rfl rfl rfl rW1 rD1 rfl rfl rfl rfl rH1 rfl rN1 rfl rfl) (Eq.symm (hm.symm))⟩
theorem begin_con : ConOK Tryd.prog beginCon beginPre beginPost :=
 con_ok tabOK (E := beginE) (cs := bgSem) rfl bgSem_ok schedOK rfl begin_run (by kernel_rfl) (fun ρ h p hp => by
   obtain ⟨-, h0, c1, c2, c3, c4, c5, c6⟩ := h
   replace h0 : ρ.iv 22 = 0 := h0
   replace c1 : 1 ≤ ρ.iv 71 := c1
   replace c2 : ρ.iv 71 ≤ 11 := c2
   replace c3 : 0 ≤ ρ.iv 85 := c3
   replace c4 : ρ.iv 85 < 9 := c4
   replace c5 : 0 ≤ ρ.iv 86 := c5
   replace c6 : ρ.iv 86 < 9 := c6
   simp only [knB, List.mem_cons, List.not_mem_nil, or_false] at hp
   rcases hp with rfl | rfl | rfl | rfl | rfl | rfl | rfl
   · exact beq_iff_eq.2 h0
   · exact decide_eq_false (by show ¬ ρ.iv 71 < 1; omega)
   · exact decide_eq_false (by show ¬ 11 < ρ.iv 71; omega)
   · exact decide_eq_false (by show ¬ ρ.iv 85 < 0; omega)
   · exact decide_eq_false (by show ¬ 9 ≤ ρ.iv 85; omega)
   · exact decide_eq_false (by show ¬ ρ.iv 86 < 0; omega)
   · exact decide_eq_false (by show ¬ 9 ≤ ρ.iv 86; omega)) begin_sat
end Go.Proofs.YthomdlajobnmnaaDoor
