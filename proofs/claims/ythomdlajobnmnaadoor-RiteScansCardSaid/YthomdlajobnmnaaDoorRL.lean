/- 'RiteScans' -/
import Derived.Test.YthomdlajobnmnaaDoorRK
import Derived.Test.YthomdlajobnmnaaDoorRC
set_option linter.unusedSimpArgs false
set_option linter.unusedVariables false
set_option linter.unusedSimpArgs false
set_option linter.unusedVariables false
set_option maxRecDepth 4000
namespace Go.Proofs.YthomdlajobnmnaaDoor
open Go.Rex
def slSem : CSem := [(awakeR, yesP, yesP), (newCon, newPre, newPost), (doCon, doPre, doPost), (newRCon, newRPre, newRPost), (beginCon, beginPre, beginPost), (tookCon, tookPre, tookPost), (keepCon, keepPre, yesP), (rootCon, rootPre, yesP), (notesCon, notesPre, notesPost), (usedCon, usedPre, usedPost)]
theorem slSem_ok : ∀ k pre post, (k, pre, post) ∈ slSem → conWf k = true ∧ ConOK Tryd.prog k pre post := by
 intro k pre post h
 simp only [slSem, List.mem_cons, List.not_mem_nil, or_false, Prod.mk.injEq] at h
 rcases h with ⟨rfl, rfl, rfl⟩ | ⟨rfl, rfl, rfl⟩ | ⟨rfl, rfl, rfl⟩ | ⟨rfl, rfl, rfl⟩ | ⟨rfl, rfl, rfl⟩ | ⟨rfl, rfl, rfl⟩ | ⟨rfl, rfl, rfl⟩ | ⟨rfl, rfl, rfl⟩ | ⟨rfl, rfl, rfl⟩ | ⟨rfl, rfl, rfl⟩
 ·exact ⟨by kernel_rfl, awakeR_con⟩
 ·exact ⟨by kernel_rfl, new_con⟩
 ·exact ⟨by kernel_rfl, do_con⟩
 ·exact ⟨by kernel_rfl, newR_con⟩
 ·exact ⟨by kernel_rfl, begin_con⟩
 ·exact ⟨by kernel_rfl, took_con⟩
 ·exact ⟨by kernel_rfl, keep_con⟩
 ·exact ⟨by kernel_rfl, root_con⟩
 ·exact ⟨by kernel_rfl, notes_con⟩
 ·exact ⟨by kernel_rfl, used_con⟩
noncomputable def scE : Ex := { sched := sched, loops := [L11a, L11b, L11c, L11d], cons := [awakeR, newCon, doCon, newRCon, beginCon, tookCon, keepCon, rootCon, notesCon, usedCon], fin := lawConG 27 ssR 11 [shI, shInts] }
def scOut : Out :=
 .call 0 { lo := 0, lob := 0, bk := [(11, yb 11), (10, yb 10), (9, yb 9), (8, yb 8), (7, yb 7), (6, yb 6), (5, yb 5), (4, yb 4), (3, yb 3), (2, yb 2), (1, yb 1), (0, yb 0)] } 5 <|
 .ob (.inr .i64 (.mod (.wrap .u64 (.var 0)) (.lit 12))) <|
 .ob (.inr .i64 (.add (.lit 1) (.mod (.wrap .u64 (.var 0)) (.lit 12)))) <|
 .call 1 { lo := 0, lob := 0, iv := [(1, .lit 85), (0, .add (.lit 1) (.mod (.wrap .u64 (.var 0)) (.lit 12)))] } 5 <|
 .call 2 { lo := 0, lob := 0, iv := [(20, yv 9), (19, yv 8), (18, yv 7), (17, yv 6), (15, .add (.lit 1) (.mod (.wrap .u64 (.var 0)) (.lit 12))), (14, .lit 85), (12, .lit 1), (11, .lit 0), (10, .lit 0), (9, .lit 0), (7, .lit 0), (6, .lit 0), (5, .lit 0), (4, .lit 0), (3, .lit 24), (2, .lit 0), (1, .lit 0), (0, .lit 2)], bv := [(21, yw 10), (16, yw 5), (13, .lit false), (8, .lit false)], ct := [(25, yu 14 6 1 yI 0), (24, .up { r := 13, n1 := .add (.lit 1) (.mod (.wrap .u64 (.var 0)) (.lit 12)), s1 := 52, n2 := 10, s2 := 5, lo := 2, ks := yW } 1 [] (.lit 0)), (23, .up { r := 12, n1 := .add (.lit 1) (.mod (.wrap .u64 (.var 0)) (.lit 12)), s1 := 52, ks := yB } 0 [] (.lit 0)), (22, .up { r := 11, n1 := .lit 85, s1 := 5, ks := yW } 0 [] (.lit 0))], bk := [(12, yb 17), (11, yc 16 1), (10, yc 15 52), (9, yc 14 5), (7, yb 11), (6, yb 10), (5, yb 9), (4, yb 8), (3, yb 7), (2, yb 6), (1, yb 1), (0, yb 0), (8, yb 13)] } 15 <|
 .call 3 { lo := 0, lob := 0, iv := [(3, .lit 1), (2, .lit 1), (1, .lit 0), (0, .lit 2)] } 32 <|
 .new 99 [.be (.and (.ile (.lit 1) (.var 99)) (.ile (.var 99) (.lit 9223372036854775807)))] <|
 .call 3 { lo := 0, lob := 0, iv := [(3, .lit 64), (2, .lit 3), (1, .lit 0), (0, .lit 2)] } 100 <|
 .loop 167 { lo := 167, lob := 34, iv := [(177, yv 26), (176, yv 25), (174, yv 24), (173, yv 23), (167, .lit 0)], bv := [(178, yw 27), (172, yw 22)], ct := [(175, yu 31 23 1 yI 0), (168, .ex [.bool (.lit false), .bool (.lit false), .bool (.lit false), .bool (.lit false), .bool (.lit false), .bool (.lit false), .bool (.lit false), .bool (.lit false), .bool (.lit false), .bool (.lit false), .bool (.lit false), .bool (.lit false), .bool (.lit false)] 1 0 0), (171, .up { r := 30, n1 := .add (.lit 1) (.mod (.wrap .u64 (.var 0)) (.lit 12)), s1 := 52, n2 := 10, s2 := 5, lo := 2, ks := yW } 1 [] (.lit 0)), (170, .up { r := 29, n1 := .add (.lit 1) (.mod (.wrap .u64 (.var 0)) (.lit 12)), s1 := 52, ks := yB } 0 [] (.lit 0)), (169, .up { r := 28, n1 := .lit 85, s1 := 5, ks := yW } 0 [] (.lit 0))], bk := [(35, yb 20), (34, yc 19 1)] } <|
 .ob (.or (.not (.var 1)) (.ieq (.var 2) (.lit 0))) <|
 .ob (.ile (.lit 0) (.var 2)) <|
 .br (.and (.ilt (.var 167) (.var 2)) (.ilt (.var 167) (.lit 18)))
 (.ob (.not (.var 1)) <|
  .ob (.ile (.lit 0) (.var 167)) <|
  .ob (.inr .i64 (.mod (.wrap .u64 (.cell 4 (.var 167) (.lit 0) 0)) (.lit 14))) <|
  .ob (.inr .i64 (.div (.var 167) (.lit 9))) <|
  .ob (.inr .i64 (.add (.lit 1) (.div (.var 167) (.lit 9)))) <|
  .call 6 { lo := 0, lob := 0, iv := [(1, .mod (.var 167) (.lit 9)), (0, .add (.lit 1) (.div (.var 167) (.lit 9)))] } 179 <|
  .call 2 { lo := 0, lob := 0, iv := [(20, yv 177), (19, yv 176), (18, yv 174), (17, yv 173), (15, .add (.lit 1) (.mod (.wrap .u64 (.var 0)) (.lit 12))), (14, .lit 85), (12, .lit 0), (11, .lit 0), (10, .lit 1), (9, .mod (.wrap .u64 (.cell 4 (.var 167) (.lit 0) 0)) (.lit 14)), (7, .lit 0), (6, .lit 0), (5, .lit 0), (4, .lit 0), (3, .add (.add (.lit 25) (.mul (.add (.lit 1) (.div (.var 167) (.lit 9))) (.lit 9))) (.mod (.var 167) (.lit 9))), (2, .lit 0), (1, .lit 0), (0, .lit 2)], bv := [(21, yw 178), (16, yw 172), (13, .lit false), (8, .lit false)], ct := [(25, yu 175 173 1 yI 0), (24, .up { r := 171, n1 := .add (.lit 1) (.mod (.wrap .u64 (.var 0)) (.lit 12)), s1 := 52, n2 := 10, s2 := 5, lo := 2, ks := yW } 1 [] (.lit 0)), (23, .up { r := 170, n1 := .add (.lit 1) (.mod (.wrap .u64 (.var 0)) (.lit 12)), s1 := 52, ks := yB } 0 [] (.lit 0)), (22, .up { r := 169, n1 := .lit 85, s1 := 5, ks := yW } 0 [] (.lit 0))], bk := [(12, yb 35), (11, yc 34 1), (10, yc 15 52), (9, yc 14 5), (7, yb 11), (6, yb 10), (5, yb 9), (4, yb 8), (3, yb 7), (2, yb 6), (1, yb 1), (0, yb 0), (8, yb 13)] } 179 <|
  .br (.and (.ile (.lit 1) (.mod (.wrap .u64 (.cell 4 (.var 167) (.lit 0) 0)) (.lit 14))) (.ile (.mod (.wrap .u64 (.cell 4 (.var 167) (.lit 0) 0)) (.lit 14)) (.add (.lit 1) (.mod (.wrap .u64 (.var 0)) (.lit 12)))))
  (.ob (.ile (.lit 0) (.mod (.wrap .u64 (.cell 4 (.var 167) (.lit 0) 0)) (.lit 14))) <|
   .ob (.ilt (.mod (.wrap .u64 (.cell 4 (.var 167) (.lit 0) 0)) (.lit 14)) (.lit 13)) <|
   .ob (.inr .i64 (.add (.var 167) (.lit 1))) <|
   .back 0 { lo := 167, lob := 34, iv := [(177, yv 190), (176, yv 189), (174, yv 188), (173, yv 187), (167, .add (.var 167) (.lit 1))], bv := [(178, yw 191), (172, yw 186)], ct := [(175, yu 195 187 1 yI 0), (168, .up { r := 168, n1 := .lit 13, s1 := 1, ks := [.bool] } 0 [⟨0, (.mod (.wrap .u64 (.cell 4 (.var 167) (.lit 0) 0)) (.lit 14)), (.lit 0), 0, .bool (.lit true)⟩] (.lit 0)), (171, .up { r := 194, n1 := .add (.lit 1) (.mod (.wrap .u64 (.var 0)) (.lit 12)), s1 := 52, n2 := 10, s2 := 5, lo := 2, ks := yW } 1 [] (.lit 0)), (170, .up { r := 193, n1 := .add (.lit 1) (.mod (.wrap .u64 (.var 0)) (.lit 12)), s1 := 52, ks := yB } 0 [] (.lit 0)), (169, .up { r := 192, n1 := .lit 85, s1 := 5, ks := yW } 0 [] (.lit 0))], bk := [(35, yb 38), (34, yc 37 1)] })
  (.ob (.inr .i64 (.add (.var 167) (.lit 1))) <|
   .back 0 { lo := 167, lob := 34, iv := [(177, yv 190), (176, yv 189), (174, yv 188), (173, yv 187), (167, .add (.var 167) (.lit 1))], bv := [(178, yw 191), (172, yw 186)], ct := [(175, yu 195 187 1 yI 0), (168, .up { r := 168, n1 := .lit 13, s1 := 1, ks := [.bool] } 0 [] (.lit 0)), (171, .up { r := 194, n1 := .add (.lit 1) (.mod (.wrap .u64 (.var 0)) (.lit 12)), s1 := 52, n2 := 10, s2 := 5, lo := 2, ks := yW } 1 [] (.lit 0)), (170, .up { r := 193, n1 := .add (.lit 1) (.mod (.wrap .u64 (.var 0)) (.lit 12)), s1 := 52, ks := yB } 0 [] (.lit 0)), (169, .up { r := 192, n1 := .lit 85, s1 := 5, ks := yW } 0 [] (.lit 0))], bk := [(35, yb 38), (34, yc 37 1)] }))
 (.loop 179 { lo := 179, lob := 36, iv := [(238, yv 166), (257, yv 161), (256, yv 160), (255, yv 159), (254, yv 158), (253, yv 157), (251, yv 156), (250, yv 155), (248, yv 153), (247, yv 152), (245, .lit 64), (244, .lit 3), (243, .lit 0), (242, .lit 2), (240, yv 149), (239, yv 148), (241, yv 165), (236, yv 146), (235, yv 145), (233, yv 143), (231, yv 141), (230, yv 140), (229, yv 139), (228, yv 138), (226, yv 136), (225, yv 135), (224, yv 134), (223, yv 133), (221, yv 131), (220, yv 130), (219, yv 129), (218, yv 128), (216, yv 126), (215, yv 125), (214, yv 124), (213, yv 123), (212, yv 122), (211, yv 121), (210, yv 120), (209, yv 119), (208, yv 118), (207, yv 117), (206, yv 116), (205, yv 115), (204, yv 114), (202, yv 112), (201, yv 111), (200, yv 110), (199, yv 109), (197, yv 107), (196, yv 106), (195, yv 105), (194, yv 104), (193, yv 103), (192, yv 102), (191, yv 101), (190, yv 100), (188, yv 177), (187, yv 176), (185, yv 174), (184, yv 173), (179, .lit 1)], bv := [(259, yw 163), (258, yw 162), (249, yw 154), (246, yw 151), (238, yw 147), (234, yw 144), (232, yw 142), (227, yw 137), (222, yw 132), (217, yw 127), (203, yw 113), (198, yw 108), (189, yw 178), (183, yw 172)], ct := [(252, yu 166 155 7 yN 0), (241, yu 165 166 7 yN 0), (237, yu 164 145 5 yW 0), (186, yu 175 173 1 yI 0), (260, yl 150 9 5 50 yW 0), (182, .up { r := 171, n1 := .add (.lit 1) (.mod (.wrap .u64 (.var 0)) (.lit 12)), s1 := 52, n2 := 10, s2 := 5, lo := 2, ks := yW } 1 [] (.lit 0)), (181, .up { r := 170, n1 := .add (.lit 1) (.mod (.wrap .u64 (.var 0)) (.lit 12)), s1 := 52, ks := yB } 0 [] (.lit 0)), (180, .up { r := 169, n1 := .lit 85, s1 := 5, ks := yW } 0 [] (.lit 0))], bk := [(40, yc 32 7), (39, yc 31 7), (38, yc 30 5), (37, yb 35), (36, yc 34 1)] } <|
  .br (.ile (.var 179) (.add (.lit 1) (.mod (.wrap .u64 (.var 0)) (.lit 12))))
  (.call 2 { lo := 0, lob := 0, iv := [(20, yv 188), (19, yv 187), (18, yv 185), (17, yv 184), (15, .add (.lit 1) (.mod (.wrap .u64 (.var 0)) (.lit 12))), (14, .lit 85), (12, .lit 0), (11, .lit 0), (10, .lit 0), (9, .lit 0), (7, .lit 0), (6, .lit 0), (5, .lit 0), (4, .lit 0), (3, .lit 0), (2, .lit 0), (1, .lit 0), (0, .lit 4)], bv := [(21, yw 189), (16, yw 183), (13, .lit false), (8, .lit false)], ct := [(25, yu 186 184 1 yI 0), (24, .up { r := 182, n1 := .add (.lit 1) (.mod (.wrap .u64 (.var 0)) (.lit 12)), s1 := 52, n2 := 10, s2 := 5, lo := 2, ks := yW } 1 [] (.lit 0)), (23, .up { r := 181, n1 := .add (.lit 1) (.mod (.wrap .u64 (.var 0)) (.lit 12)), s1 := 52, ks := yB } 0 [] (.lit 0)), (22, .up { r := 180, n1 := .lit 85, s1 := 5, ks := yW } 0 [] (.lit 0))], bk := [(12, yb 37), (11, yc 36 1), (10, yc 15 52), (9, yc 14 5), (7, yb 11), (6, yb 10), (5, yb 9), (4, yb 8), (3, yb 7), (2, yb 6), (1, yb 1), (0, yb 0), (8, yb 13)] } 261 <|
   .call 4 { lo := 0, lob := 0, iv := [(70, yv 238), (65, yv 257), (64, yv 256), (63, yv 255), (62, yv 254), (61, yv 253), (60, yv 251), (59, yv 250), (57, yv 248), (56, yv 247), (3, yv 245), (2, yv 244), (1, yv 243), (0, yv 242), (53, yv 240), (52, yv 239), (69, yv 241), (50, yv 236), (49, yv 235), (47, yv 233), (45, yv 231), (44, yv 230), (43, yv 229), (42, yv 228), (40, yv 226), (39, yv 225), (38, yv 224), (37, yv 223), (35, yv 221), (34, yv 220), (33, yv 219), (32, yv 218), (30, yv 216), (29, yv 215), (28, yv 214), (27, yv 213), (26, yv 212), (25, yv 211), (24, yv 210), (23, yv 209), (22, yv 208), (21, yv 207), (20, yv 206), (19, yv 205), (18, yv 204), (16, yv 202), (15, yv 201), (14, yv 200), (13, yv 199), (11, yv 197), (10, yv 196), (9, yv 195), (8, yv 194), (7, yv 193), (6, yv 192), (5, yv 191), (4, yv 190), (88, .lit 0), (87, .lit 0), (86, .lit 0), (85, .lit 0), (83, .lit 0), (82, .lit 0), (81, .lit 0), (80, .lit 0), (78, .lit 0), (77, .lit 0), (76, .lit 1), (75, yv 179), (74, .lit 0), (73, .lit 0), (72, .lit 0), (71, .lit 10)], bv := [(67, yw 259), (66, yw 258), (58, yw 249), (55, yw 246), (51, yw 238), (48, yw 234), (46, yw 232), (41, yw 227), (36, yw 222), (31, yw 217), (17, yw 203), (12, yw 198), (84, .lit false), (79, .lit false)], ct := [(70, yu 252 250 7 yN 0), (69, yu 241 238 7 yN 0), (68, yu 237 235 5 yW 0), (54, yl 260 9 5 50 yW 0)], bk := [(3, yc 40 7), (2, yc 39 7), (1, yc 38 5), (0, yb 29)] } 278 <|
   .br (.not (.ieq (.var 296) (.lit 0)))
   (.fin { lo := 5, lob := 13, bv := [(5, .lit false)] })
   (.ob (.inr .i64 (.add (.var 179) (.lit 1))) <|
    .back 0 { lo := 179, lob := 36, iv := [(238, yv 344), (257, yv 339), (256, yv 338), (255, yv 337), (254, yv 336), (253, yv 335), (251, yv 334), (250, yv 333), (248, yv 331), (247, yv 330), (245, yv 245), (244, yv 244), (243, yv 243), (242, yv 242), (240, yv 327), (239, yv 326), (241, yv 343), (236, yv 324), (235, yv 323), (233, yv 321), (231, yv 319), (230, yv 318), (229, yv 317), (228, yv 316), (226, yv 314), (225, yv 313), (224, yv 312), (223, yv 311), (221, yv 309), (220, yv 308), (219, yv 307), (218, yv 306), (216, yv 304), (215, yv 303), (214, yv 302), (213, yv 301), (212, yv 300), (211, yv 299), (210, yv 298), (209, yv 297), (208, yv 296), (207, yv 295), (206, yv 294), (205, yv 293), (204, yv 292), (202, yv 290), (201, yv 289), (200, yv 288), (199, yv 287), (197, yv 285), (196, yv 284), (195, yv 283), (194, yv 282), (193, yv 281), (192, yv 280), (191, yv 279), (190, yv 278), (188, yv 272), (187, yv 271), (185, yv 270), (184, yv 269), (179, .add (.var 179) (.lit 1))], bv := [(259, yw 341), (258, yw 340), (249, yw 332), (246, yw 329), (238, yw 325), (234, yw 322), (232, yw 320), (227, yw 315), (222, yw 310), (217, yw 305), (203, yw 291), (198, yw 286), (189, yw 273), (183, yw 268)], ct := [(252, yu 344 333 7 yN 0), (241, yu 343 344 7 yN 0), (237, yu 342 323 5 yW 0), (186, yu 277 269 1 yI 0), (260, yl 328 9 5 50 yW 0), (182, .up { r := 276, n1 := .add (.lit 1) (.mod (.wrap .u64 (.var 0)) (.lit 12)), s1 := 52, n2 := 10, s2 := 5, lo := 2, ks := yW } 1 [] (.lit 0)), (181, .up { r := 275, n1 := .add (.lit 1) (.mod (.wrap .u64 (.var 0)) (.lit 12)), s1 := 52, ks := yB } 0 [] (.lit 0)), (180, .up { r := 274, n1 := .lit 85, s1 := 5, ks := yW } 0 [] (.lit 0))], bk := [(40, yc 45 7), (39, yc 44 7), (38, yc 43 5), (37, yb 42), (36, yc 41 1)] }))
  (.call 4 { lo := 0, lob := 0, iv := [(70, yv 238), (65, yv 257), (64, yv 256), (63, yv 255), (62, yv 254), (61, yv 253), (60, yv 251), (59, yv 250), (57, yv 248), (56, yv 247), (3, yv 245), (2, yv 244), (1, yv 243), (0, yv 242), (53, yv 240), (52, yv 239), (69, yv 241), (50, yv 236), (49, yv 235), (47, yv 233), (45, yv 231), (44, yv 230), (43, yv 229), (42, yv 228), (40, yv 226), (39, yv 225), (38, yv 224), (37, yv 223), (35, yv 221), (34, yv 220), (33, yv 219), (32, yv 218), (30, yv 216), (29, yv 215), (28, yv 214), (27, yv 213), (26, yv 212), (25, yv 211), (24, yv 210), (23, yv 209), (22, yv 208), (21, yv 207), (20, yv 206), (19, yv 205), (18, yv 204), (16, yv 202), (15, yv 201), (14, yv 200), (13, yv 199), (11, yv 197), (10, yv 196), (9, yv 195), (8, yv 194), (7, yv 193), (6, yv 192), (5, yv 191), (4, yv 190), (88, .lit 0), (87, .lit 0), (86, .lit 0), (85, .lit 0), (83, .lit 0), (82, .lit 0), (81, .lit 0), (80, .lit 0), (78, .lit 0), (77, .lit 0), (76, .lit 0), (75, .lit 0), (74, .lit 0), (73, .lit 0), (72, .lit 0), (71, .lit 11)], bv := [(67, yw 259), (66, yw 258), (58, yw 249), (55, yw 246), (51, yw 238), (48, yw 234), (46, yw 232), (41, yw 227), (36, yw 222), (31, yw 217), (17, yw 203), (12, yw 198), (84, .lit false), (79, .lit false)], ct := [(70, yu 252 250 7 yN 0), (69, yu 241 238 7 yN 0), (68, yu 237 235 5 yW 0), (54, yl 260 9 5 50 yW 0)], bk := [(3, yc 40 7), (2, yc 39 7), (1, yc 38 5), (0, yb 29)] } 261 <|
   .loop 328 { lo := 328, lob := 44, iv := [(387, yv 327), (406, yv 322), (405, yv 321), (404, yv 320), (403, yv 319), (402, yv 318), (400, yv 317), (399, yv 316), (397, yv 314), (396, yv 313), (394, yv 245), (393, yv 244), (392, yv 243), (391, yv 242), (389, yv 310), (388, yv 309), (390, yv 326), (385, yv 307), (384, yv 306), (382, yv 304), (380, yv 302), (379, yv 301), (378, yv 300), (377, yv 299), (375, yv 297), (374, yv 296), (373, yv 295), (372, yv 294), (370, yv 292), (369, yv 291), (368, yv 290), (367, yv 289), (365, yv 287), (364, yv 286), (363, yv 285), (362, yv 284), (361, yv 283), (360, yv 282), (359, yv 281), (358, yv 280), (357, yv 279), (356, yv 278), (355, yv 277), (354, yv 276), (353, yv 275), (351, yv 273), (350, yv 272), (349, yv 271), (348, yv 270), (346, yv 268), (345, yv 267), (344, yv 266), (343, yv 265), (342, yv 264), (341, yv 263), (340, yv 262), (339, yv 261), (337, yv 188), (336, yv 187), (334, yv 185), (333, yv 184), (328, .lit 0)], bv := [(408, yw 324), (407, yw 323), (398, yw 315), (395, yw 312), (387, yw 308), (383, yw 305), (381, yw 303), (376, yw 298), (371, yw 293), (366, yw 288), (352, yw 274), (347, yw 269), (338, yw 189), (332, yw 183)], ct := [(401, yu 327 316 7 yN 0), (390, yu 326 327 7 yN 0), (386, yu 325 306 5 yW 0), (335, yu 186 184 1 yI 0), (409, yl 311 9 5 50 yW 0), (331, .up { r := 182, n1 := .add (.lit 1) (.mod (.wrap .u64 (.var 0)) (.lit 12)), s1 := 52, n2 := 10, s2 := 5, lo := 2, ks := yW } 1 [] (.lit 0)), (330, .up { r := 181, n1 := .add (.lit 1) (.mod (.wrap .u64 (.var 0)) (.lit 12)), s1 := 52, ks := yB } 0 [] (.lit 0)), (329, .up { r := 180, n1 := .lit 85, s1 := 5, ks := yW } 0 [] (.lit 0))], bk := [(48, yc 43 7), (47, yc 42 7), (46, yc 41 5), (45, yb 37), (44, yc 36 1)] } <|
   .br (.ilt (.var 328) (.lit 500))
   (.br (.not (.ieq (.var 357) (.lit 0)))
    (.call 2 { lo := 0, lob := 0, iv := [(20, yv 337), (19, yv 336), (18, yv 334), (17, yv 333), (15, .add (.lit 1) (.mod (.wrap .u64 (.var 0)) (.lit 12))), (14, .lit 85), (12, yv 370), (11, yv 369), (10, yv 368), (9, yv 367), (7, yv 365), (6, yv 364), (5, yv 363), (4, yv 362), (3, yv 361), (2, yv 360), (1, yv 359), (0, yv 358)], bv := [(21, yw 338), (16, yw 332), (13, yw 371), (8, yw 366)], ct := [(25, yu 335 333 1 yI 0), (24, .up { r := 331, n1 := .add (.lit 1) (.mod (.wrap .u64 (.var 0)) (.lit 12)), s1 := 52, n2 := 10, s2 := 5, lo := 2, ks := yW } 1 [] (.lit 0)), (23, .up { r := 330, n1 := .add (.lit 1) (.mod (.wrap .u64 (.var 0)) (.lit 12)), s1 := 52, ks := yB } 0 [] (.lit 0)), (22, .up { r := 329, n1 := .lit 85, s1 := 5, ks := yW } 0 [] (.lit 0))], bk := [(12, yb 45), (11, yc 44 1), (10, yc 15 52), (9, yc 14 5), (7, yb 11), (6, yb 10), (5, yb 9), (4, yb 8), (3, yb 7), (2, yb 6), (1, yb 1), (0, yb 0), (8, yb 13)] } 410 <|
     .br (.var 416)
     (.call 5 { lo := 0, lob := 0, iv := [(70, yv 387), (65, yv 406), (64, yv 405), (63, yv 404), (62, yv 403), (61, yv 402), (60, yv 400), (59, yv 399), (57, yv 397), (56, yv 396), (3, yv 394), (2, yv 393), (1, yv 392), (0, yv 391), (53, yv 389), (52, yv 388), (69, yv 390), (50, yv 385), (49, yv 384), (47, yv 382), (45, yv 380), (44, yv 379), (43, yv 378), (42, yv 377), (40, yv 375), (39, yv 374), (38, yv 373), (37, yv 372), (35, yv 370), (34, yv 369), (33, yv 368), (32, yv 367), (30, yv 365), (29, yv 364), (28, yv 363), (27, yv 362), (26, yv 361), (25, yv 360), (24, yv 359), (23, yv 358), (22, yv 357), (21, yv 356), (20, yv 355), (19, yv 354), (18, yv 353), (16, yv 351), (15, yv 350), (14, yv 349), (13, yv 348), (11, yv 346), (10, yv 345), (9, yv 344), (8, yv 343), (7, yv 342), (6, yv 341), (5, yv 340), (4, yv 339), (74, yv 413), (73, yv 412), (72, yv 411), (71, yv 410)], bv := [(67, yw 408), (66, yw 407), (58, yw 398), (55, yw 395), (51, yw 387), (48, yw 383), (46, yw 381), (41, yw 376), (36, yw 371), (31, yw 366), (17, yw 352), (12, yw 347), (76, yw 415), (75, yw 414)], ct := [(70, yu 401 399 7 yN 0), (69, yu 390 387 7 yN 0), (68, yu 386 384 5 yW 0), (54, yl 409 9 5 50 yW 0)], bk := [(3, yc 48 7), (2, yc 47 7), (1, yc 46 5), (0, yb 29)] } 427 <|
      .ob (.inr .i64 (.add (.var 328) (.lit 1))) <|
      .back 0 { lo := 328, lob := 44, iv := [(387, yv 493), (406, yv 488), (405, yv 487), (404, yv 486), (403, yv 485), (402, yv 484), (400, yv 483), (399, yv 482), (397, yv 480), (396, yv 479), (394, yv 394), (393, yv 393), (392, yv 392), (391, yv 391), (389, yv 476), (388, yv 475), (390, yv 492), (385, yv 473), (384, yv 472), (382, yv 470), (380, yv 468), (379, yv 467), (378, yv 466), (377, yv 465), (375, yv 463), (374, yv 462), (373, yv 461), (372, yv 460), (370, yv 458), (369, yv 457), (368, yv 456), (367, yv 455), (365, yv 453), (364, yv 452), (363, yv 451), (362, yv 450), (361, yv 449), (360, yv 448), (359, yv 447), (358, yv 446), (357, yv 445), (356, yv 444), (355, yv 443), (354, yv 442), (353, yv 441), (351, yv 439), (350, yv 438), (349, yv 437), (348, yv 436), (346, yv 434), (345, yv 433), (344, yv 432), (343, yv 431), (342, yv 430), (341, yv 429), (340, yv 428), (339, yv 427), (337, yv 421), (336, yv 420), (334, yv 419), (333, yv 418), (328, .add (.var 328) (.lit 1))], bv := [(408, yw 490), (407, yw 489), (398, yw 481), (395, yw 478), (387, yw 474), (383, yw 471), (381, yw 469), (376, yw 464), (371, yw 459), (366, yw 454), (352, yw 440), (347, yw 435), (338, yw 422), (332, yw 417)], ct := [(401, yu 493 482 7 yN 0), (390, yu 492 493 7 yN 0), (386, yu 491 472 5 yW 0), (335, yu 426 418 1 yI 0), (409, yl 477 9 5 50 yW 0), (331, .up { r := 425, n1 := .add (.lit 1) (.mod (.wrap .u64 (.var 0)) (.lit 12)), s1 := 52, n2 := 10, s2 := 5, lo := 2, ks := yW } 1 [] (.lit 0)), (330, .up { r := 424, n1 := .add (.lit 1) (.mod (.wrap .u64 (.var 0)) (.lit 12)), s1 := 52, ks := yB } 0 [] (.lit 0)), (329, .up { r := 423, n1 := .lit 85, s1 := 5, ks := yW } 0 [] (.lit 0))], bk := [(48, yc 56 7), (47, yc 55 7), (46, yc 54 5), (45, yb 52), (44, yc 51 1)] })
     (.fin { lo := 5, lob := 13, bv := [(5, .lit false)] }))
    (.call 8 { lo := 0, lob := 0, iv := [(70, yv 387), (65, yv 406), (64, yv 405), (63, yv 404), (62, yv 403), (61, yv 402), (60, yv 400), (59, yv 399), (57, yv 397), (56, yv 396), (3, yv 394), (2, yv 393), (1, yv 392), (0, yv 391), (53, yv 389), (52, yv 388), (69, yv 390), (50, yv 385), (49, yv 384), (47, yv 382), (45, yv 380), (44, yv 379), (43, yv 378), (42, yv 377), (40, yv 375), (39, yv 374), (38, yv 373), (37, yv 372), (35, yv 370), (34, yv 369), (33, yv 368), (32, yv 367), (30, yv 365), (29, yv 364), (28, yv 363), (27, yv 362), (26, yv 361), (25, yv 360), (24, yv 359), (23, yv 358), (22, yv 357), (21, yv 356), (20, yv 355), (19, yv 354), (18, yv 353), (16, yv 351), (15, yv 350), (14, yv 349), (13, yv 348), (11, yv 346), (10, yv 345), (9, yv 344), (8, yv 343), (7, yv 342), (6, yv 341), (5, yv 340), (4, yv 339)], bv := [(67, yw 408), (66, yw 407), (58, yw 398), (55, yw 395), (51, yw 387), (48, yw 383), (46, yw 381), (41, yw 376), (36, yw 371), (31, yw 366), (17, yw 352), (12, yw 347)], ct := [(70, yu 401 399 7 yN 0), (69, yu 390 387 7 yN 0), (68, yu 386 384 5 yW 0), (54, yl 409 9 5 50 yW 0)], bk := [(3, yc 48 7), (2, yc 47 7), (1, yc 46 5), (0, yb 29)] } 410 <|
     .call 9 { lo := 0, lob := 0, iv := [(6, yv 337), (5, yv 336), (4, yv 334), (3, yv 333), (1, .add (.lit 1) (.mod (.wrap .u64 (.var 0)) (.lit 12))), (0, .lit 85)], bv := [(7, yw 338), (2, yw 332)], ct := [(11, yu 335 333 1 yI 0), (10, .up { r := 331, n1 := .add (.lit 1) (.mod (.wrap .u64 (.var 0)) (.lit 12)), s1 := 52, n2 := 10, s2 := 5, lo := 2, ks := yW } 1 [] (.lit 0)), (9, .up { r := 330, n1 := .add (.lit 1) (.mod (.wrap .u64 (.var 0)) (.lit 12)), s1 := 52, ks := yB } 0 [] (.lit 0)), (8, .up { r := 329, n1 := .lit 85, s1 := 5, ks := yW } 0 [] (.lit 0))], bk := [(4, yb 45), (3, yc 44 1), (2, yc 15 52), (1, yc 14 5), (0, yb 13)] } 481 <|
     .loop 495 { lo := 495, lob := 56, iv := [(496, .lit 1), (495, .lit 0)] } <|
     .br (.ile (.var 496) (.add (.lit 1) (.mod (.wrap .u64 (.var 0)) (.lit 12))))
     (.ob (.ile (.lit 0) (.var 496)) <|
      .ob (.ilt (.var 496) (.lit 13)) <|
      .br (.not (.cell 168 (.var 496) (.lit 0) 0))
      (.ob (.inr .i64 (.add (.var 496) (.lit 1))) <|
       .back 0 { lo := 495, lob := 56, iv := [(496, .add (.var 496) (.lit 1)), (495, yv 495)] })
      (.ob (.or (.not (.var 477)) (.ieq (.var 478) (.lit 0))) <|
       .ob (.ile (.lit 0) (.var 478)) <|
       .ob (.or (.ile (.var 478) (.var 495)) (.or (.not (.var 491)) (.ieq (.var 492) (.lit 0)))) <|
       .ob (.or (.ile (.var 478) (.var 495)) (.ile (.lit 0) (.var 492))) <|
       .ob (.or (.or (.ile (.var 478) (.var 495)) (.ile (.var 492) (.var 495))) (.not (.var 477))) <|
       .ob (.or (.or (.ile (.var 478) (.var 495)) (.ile (.var 492) (.var 495))) (.ile (.lit 0) (.var 495))) <|
       .ob (.or (.or (.ile (.var 478) (.var 495)) (.ile (.var 492) (.var 495))) (.ilt (.var 495) (.var 478))) <|
       .ob (.or (.or (.or (.ile (.var 478) (.var 495)) (.ile (.var 492) (.var 495))) (.not (.ieq (.cell 480 (.var 495) (.lit 0) 0) (.var 496)))) (.not (.var 491))) <|
       .ob (.or (.or (.or (.ile (.var 478) (.var 495)) (.ile (.var 492) (.var 495))) (.not (.ieq (.cell 480 (.var 495) (.lit 0) 0) (.var 496)))) (.ile (.lit 0) (.var 495))) <|
       .ob (.or (.or (.or (.ile (.var 478) (.var 495)) (.ile (.var 492) (.var 495))) (.not (.ieq (.cell 480 (.var 495) (.lit 0) 0) (.var 496)))) (.ilt (.var 495) (.var 492))) <|
       .br (.or (.or (.or (.ile (.var 478) (.var 495)) (.ile (.var 492) (.var 495))) (.not (.ieq (.cell 480 (.var 495) (.lit 0) 0) (.var 496)))) (.not (.ieq (.cell 494 (.var 495) (.lit 0) 0) (.var 496))))
       (.fin { lo := 5, lob := 13, bv := [(5, .lit false)] })
       (.ob (.inr .i64 (.add (.var 495) (.lit 1))) <|
        .ob (.inr .i64 (.add (.var 496) (.lit 1))) <|
        .back 0 { lo := 495, lob := 56, iv := [(496, .add (.var 496) (.lit 1)), (495, .add (.var 495) (.lit 1))] })))
     (.ob (.or (.not (.ieq (.var 428) (.lit 0))) (.or (.not (.var 477)) (.ieq (.var 478) (.lit 0)))) <|
      .ob (.or (.not (.ieq (.var 428) (.lit 0))) (.ile (.lit 0) (.var 478))) <|
      .ob (.or (.not (.and (.ieq (.var 428) (.lit 0)) (.ieq (.var 495) (.var 478)))) (.or (.not (.var 491)) (.ieq (.var 492) (.lit 0)))) <|
      .ob (.or (.not (.and (.ieq (.var 428) (.lit 0)) (.ieq (.var 495) (.var 478)))) (.ile (.lit 0) (.var 492))) <|
      .br (.and (.and (.ieq (.var 428) (.lit 0)) (.ieq (.var 495) (.var 478))) (.ieq (.var 495) (.var 492)))
      (.ob (.inr .i64 (.sub (.add (.lit 1) (.mod (.wrap .u64 (.var 0)) (.lit 12))) (.var 495))) <|
       .br (.ieq (.var 467) (.sub (.add (.lit 1) (.mod (.wrap .u64 (.var 0)) (.lit 12))) (.var 495)))
       (.fin { lo := 5, lob := 13, bv := [(5, yw 486)] })
       (.fin { lo := 5, lob := 13, bv := [(5, .lit false)] }))
      (.fin { lo := 5, lob := 13, bv := [(5, .lit false)] }))))
   (.call 8 { lo := 0, lob := 0, iv := [(70, yv 387), (65, yv 406), (64, yv 405), (63, yv 404), (62, yv 403), (61, yv 402), (60, yv 400), (59, yv 399), (57, yv 397), (56, yv 396), (3, yv 394), (2, yv 393), (1, yv 392), (0, yv 391), (53, yv 389), (52, yv 388), (69, yv 390), (50, yv 385), (49, yv 384), (47, yv 382), (45, yv 380), (44, yv 379), (43, yv 378), (42, yv 377), (40, yv 375), (39, yv 374), (38, yv 373), (37, yv 372), (35, yv 370), (34, yv 369), (33, yv 368), (32, yv 367), (30, yv 365), (29, yv 364), (28, yv 363), (27, yv 362), (26, yv 361), (25, yv 360), (24, yv 359), (23, yv 358), (22, yv 357), (21, yv 356), (20, yv 355), (19, yv 354), (18, yv 353), (16, yv 351), (15, yv 350), (14, yv 349), (13, yv 348), (11, yv 346), (10, yv 345), (9, yv 344), (8, yv 343), (7, yv 342), (6, yv 341), (5, yv 340), (4, yv 339)], bv := [(67, yw 408), (66, yw 407), (58, yw 398), (55, yw 395), (51, yw 387), (48, yw 383), (46, yw 381), (41, yw 376), (36, yw 371), (31, yw 366), (17, yw 352), (12, yw 347)], ct := [(70, yu 401 399 7 yN 0), (69, yu 390 387 7 yN 0), (68, yu 386 384 5 yW 0), (54, yl 409 9 5 50 yW 0)], bk := [(3, yc 48 7), (2, yc 47 7), (1, yc 46 5), (0, yb 29)] } 410 <|
    .call 9 { lo := 0, lob := 0, iv := [(6, yv 337), (5, yv 336), (4, yv 334), (3, yv 333), (1, .add (.lit 1) (.mod (.wrap .u64 (.var 0)) (.lit 12))), (0, .lit 85)], bv := [(7, yw 338), (2, yw 332)], ct := [(11, yu 335 333 1 yI 0), (10, .up { r := 331, n1 := .add (.lit 1) (.mod (.wrap .u64 (.var 0)) (.lit 12)), s1 := 52, n2 := 10, s2 := 5, lo := 2, ks := yW } 1 [] (.lit 0)), (9, .up { r := 330, n1 := .add (.lit 1) (.mod (.wrap .u64 (.var 0)) (.lit 12)), s1 := 52, ks := yB } 0 [] (.lit 0)), (8, .up { r := 329, n1 := .lit 85, s1 := 5, ks := yW } 0 [] (.lit 0))], bk := [(4, yb 45), (3, yc 44 1), (2, yc 15 52), (1, yc 14 5), (0, yb 13)] } 481 <|
    .loop 495 { lo := 495, lob := 56, iv := [(496, .lit 1), (495, .lit 0)] } <|
    .br (.ile (.var 496) (.add (.lit 1) (.mod (.wrap .u64 (.var 0)) (.lit 12))))
    (.ob (.ile (.lit 0) (.var 496)) <|
     .ob (.ilt (.var 496) (.lit 13)) <|
     .br (.not (.cell 168 (.var 496) (.lit 0) 0))
     (.ob (.inr .i64 (.add (.var 496) (.lit 1))) <|
      .back 0 { lo := 495, lob := 56, iv := [(496, .add (.var 496) (.lit 1)), (495, yv 495)] })
     (.ob (.or (.not (.var 477)) (.ieq (.var 478) (.lit 0))) <|
      .ob (.ile (.lit 0) (.var 478)) <|
      .ob (.or (.ile (.var 478) (.var 495)) (.or (.not (.var 491)) (.ieq (.var 492) (.lit 0)))) <|
      .ob (.or (.ile (.var 478) (.var 495)) (.ile (.lit 0) (.var 492))) <|
      .ob (.or (.or (.ile (.var 478) (.var 495)) (.ile (.var 492) (.var 495))) (.not (.var 477))) <|
      .ob (.or (.or (.ile (.var 478) (.var 495)) (.ile (.var 492) (.var 495))) (.ile (.lit 0) (.var 495))) <|
      .ob (.or (.or (.ile (.var 478) (.var 495)) (.ile (.var 492) (.var 495))) (.ilt (.var 495) (.var 478))) <|
      .ob (.or (.or (.or (.ile (.var 478) (.var 495)) (.ile (.var 492) (.var 495))) (.not (.ieq (.cell 480 (.var 495) (.lit 0) 0) (.var 496)))) (.not (.var 491))) <|
      .ob (.or (.or (.or (.ile (.var 478) (.var 495)) (.ile (.var 492) (.var 495))) (.not (.ieq (.cell 480 (.var 495) (.lit 0) 0) (.var 496)))) (.ile (.lit 0) (.var 495))) <|
      .ob (.or (.or (.or (.ile (.var 478) (.var 495)) (.ile (.var 492) (.var 495))) (.not (.ieq (.cell 480 (.var 495) (.lit 0) 0) (.var 496)))) (.ilt (.var 495) (.var 492))) <|
      .br (.or (.or (.or (.ile (.var 478) (.var 495)) (.ile (.var 492) (.var 495))) (.not (.ieq (.cell 480 (.var 495) (.lit 0) 0) (.var 496)))) (.not (.ieq (.cell 494 (.var 495) (.lit 0) 0) (.var 496))))
      (.fin { lo := 5, lob := 13, bv := [(5, .lit false)] })
      (.ob (.inr .i64 (.add (.var 495) (.lit 1))) <|
       .ob (.inr .i64 (.add (.var 496) (.lit 1))) <|
       .back 0 { lo := 495, lob := 56, iv := [(496, .add (.var 496) (.lit 1)), (495, .add (.var 495) (.lit 1))] })))
    (.ob (.or (.not (.ieq (.var 428) (.lit 0))) (.or (.not (.var 477)) (.ieq (.var 478) (.lit 0)))) <|
     .ob (.or (.not (.ieq (.var 428) (.lit 0))) (.ile (.lit 0) (.var 478))) <|
     .ob (.or (.not (.and (.ieq (.var 428) (.lit 0)) (.ieq (.var 495) (.var 478)))) (.or (.not (.var 491)) (.ieq (.var 492) (.lit 0)))) <|
     .ob (.or (.not (.and (.ieq (.var 428) (.lit 0)) (.ieq (.var 495) (.var 478)))) (.ile (.lit 0) (.var 492))) <|
     .br (.and (.and (.ieq (.var 428) (.lit 0)) (.ieq (.var 495) (.var 478))) (.ieq (.var 495) (.var 492)))
     (.ob (.inr .i64 (.sub (.add (.lit 1) (.mod (.wrap .u64 (.var 0)) (.lit 12))) (.var 495))) <|
      .br (.ieq (.var 467) (.sub (.add (.lit 1) (.mod (.wrap .u64 (.var 0)) (.lit 12))) (.var 495)))
      (.fin { lo := 5, lob := 13, bv := [(5, yw 486)] })
      (.fin { lo := 5, lob := 13, bv := [(5, .lit false)] }))
     (.fin { lo := 5, lob := 13, bv := [(5, .lit false)] })))))
theorem sc_run : exec tab scE 8000 [] (cfg0 11 5 [] (lawConG 27 ssR 11 [shI, shInts]).gl (lawConG 27 ssR 11 [shI, shInts]).hp (lawConG 27 ssR 11 [shI, shInts]).args) = scOut := by kernel_rfl
def Cq (q : Env) : Int := 1 + (IntKind.u64.wrap (q.iv 0)).tmod 12
theorem cq_rng (q : Env) : 1 ≤ Cq q ∧ Cq q ≤ 12 := by
 have := tmP (IntKind.u64.wrap (q.iv 0)) 12 (by decide) (wrP _)
 unfold Cq
 omega
def Kq (q : Env) (i : Nat) : Int := (IntKind.u64.wrap (q.ic 4 i 0 0)).tmod 14
theorem kq_rng (q : Env) (i : Nat) : 0 ≤ Kq q i ∧ Kq q i < 14 := tmP _ 14 (by decide) (wrP _)
def mq (q : Env) : Nat := (min (q.iv 2) 18).toNat
theorem mq_le (q : Env) : mq q ≤ 18 := by unfold mq; omega
def Stays (q : Env) (n : Nat) : Prop := ∀ s : Nat, 1 ≤ s → (s : Int) ≤ Cq q → q.bc 168 s 0 0 = stay (Kq q) n s
def RNew (q : Env) : Prop := OkR q 100 ∧ (rsRd q 0 100).at 2 0 3 64 = RS.new 2 0 3 64
def sK1 (q : Env) : Prop := OkSl q 1 ∧ RNew q
def sI1 (q : Env) : Prop := (0 ≤ q.iv 167 ∧ q.iv 167 ≤ 18 ∧ q.iv 167 ≤ q.iv 2) ∧ OkSl q 172 ∧ S1 (psLp q 85 (Cq q) 169) (Cq q) (Kq q) (q.iv 167).toNat ∧ Stays q (q.iv 167).toNat
def sK2 (q : Env) : Prop := Stays q (mq q)
def sI2 (q : Env) : Prop := (1 ≤ q.iv 179 ∧ q.iv 179 ≤ Cq q + 1) ∧ OkSl q 183 ∧ OkLp q 190 ∧ S2 (psLp q 85 (Cq q) 180) (Cq q) (Bq (Kq q) (mq q)) (q.iv 179 - 1).toNat ∧ ∃ x, Rep (lo1 (nts (q.iv 179 - 1).toNat) 0) (.idle x) (rsLp q 190)
def sI3 (q : Env) : Prop := (0 ≤ q.iv 328 ∧ q.iv 328 ≤ 500) ∧ OkSl q 332 ∧ OkLp q 339 ∧ Sc (Cq q).toNat (Bq (Kq q) (mq q)) (q.iv 328).toNat (psLp q 85 (Cq q) 329) (rsLp q 339)
def Lq (q : Env) : List Nat := left (Kq q) (mq q) (Cq q).toNat
def sK4 (q : Env) : Prop := Stays q (mq q) ∧ (OkSl q 477 ∧ q.iv 478 = (Lq q).length ∧ ∀ k : Nat, k < (Lq q).length → q.ic 480 k 0 0 = ((Lq q).getD k 0 : Int) + 1) ∧ (OkSl q 491 ∧ q.iv 492 = (Lq q).length ∧ ∀ k : Nat, k < (Lq q).length → q.ic 494 k 0 0 = ((Lq q).getD k 0 : Int) + 1) ∧ q.iv 428 = 0 ∧ q.iv 467 = Cq q - (Lq q).length ∧ q.bv 486 = true
def sI4 (q : Env) : Prop := (1 ≤ q.iv 496 ∧ q.iv 496 ≤ Cq q + 1) ∧ q.iv 495 = (left (Kq q) (mq q) (q.iv 496 - 1).toNat).length
theorem S1.to {p p' : PS} {n : Int} {K : Nat → Int} {i j : Nat} (h : S1 p n K i) (hp : p' = p) (hj : j = i) : S1 p' n K j := by subst hp hj; exact h
theorem S2.to {p p' : PS} {n : Int} {B : Nat → Wd} {i j : Nat} (h : S2 p n B i) (hp : p' = p) (hj : j = i) : S2 p' n B j := by subst hp hj; exact h
theorem Sc.to {p p' : PS} {n : Nat} {B : Nat → Wd} {i j : Nat} {r r' : RS} (h : Sc n B i p r) (hp : p' = p) (hr : r' = r) (hj : j = i) : Sc n B j p' r' := by subst hp hj hr; exact h
theorem Rep.to {l l' : Lo} {t : RT} {r r' : RS} (h : Rep l t r) (hr : r' = r) (hl : l' = l) : Rep l' t r' := by subst hr hl; exact h
theorem left_le (K : Nat → Int) (m n : Nat) : (left K m n).length ≤ n := by
 have := List.length_filter_le (fun i : Nat => stay K m ((i : Int) + 1)) (List.range n)
 rw [List.length_range] at this
 exact this
theorem orR {ρ : Env} {a b : BE} (h : b.den ρ = true) : (BE.or a b).den ρ = true := by
 show (a.den ρ || b.den ρ) = true
 rw [h, Bool.or_true]
def scTail : Out := match scOut with
 | .call _ _ _ (.ob _ (.ob _ (.call _ _ _ (.call _ _ _ (.call _ _ _ (.new _ _ (.call _ _ _ (.loop _ _ (.ob _ (.ob _ (.br _ _ (.loop _ _ (.br _ _ (.call _ _ _ (.loop _ _ (.br _ _ (.call _ _ _ (.call _ _ _ k)))))))))))))))))) => k
 | k => k
set_option maxHeartbeats 4000000 in
theorem sc_tail (ρ : Env) (hk : sK4 ρ) : Sat (lawPostG ssR [shI, shInts]) slSem [] ρ scTail := by
 unfold scTail scOut
 have hC := cq_rng ρ
 refine Sat.loopK sI4 (fun s => (13 - s.iv 496).toNat) sK4 ⟨⟨Int.le_refl 1, by show 1 ≤ Cq ρ + 1; omega⟩, rfl⟩ (fun _ => hk) fun q hk hI => ?_
 replace hI : sI4 q := hI
 rw [show (13 - q.num.iv 496).toNat = (13 - q.iv 496).toNat from rfl]
 obtain ⟨⟨i1, i2⟩, i3⟩ := hI
 obtain ⟨hst, ⟨o1, n1, r1⟩, ⟨o2, n2, r2⟩, h428, h467, h486⟩ := hk
 have hC := cq_rng q
 have hL := left_le (Kq q) (mq q) (q.iv 496 - 1).toNat
 refine Sat.br (fun c => ?_) (fun c => ?_)
 ·replace c : q.iv 496 ≤ Cq q := of_decide_eq_true c
  have hs := hst (q.iv 496).toNat (by omega) (by omega)
  have e1 : (((q.iv 496).toNat : Nat) : Int) = (((q.iv 496 - 1).toNat : Nat) : Int) + 1 := by omega
  have e2 : (q.iv 496 + 1 - 1).toNat = (q.iv 496 - 1).toNat + 1 := by omega
  refine Sat.ob (decide_eq_true (show 0 ≤ q.iv 496 by omega)) (Sat.ob (decide_eq_true (show q.iv 496 < 13 by omega)) (Sat.br (fun c2 => ?_) (fun c2 => ?_)))
  ·have c3 : q.bc 168 (q.iv 496).toNat 0 0 = false := by
    have : (!q.bc 168 (q.iv 496).toNat 0 0) = true := c2
    simpa using this
   refine Sat.ob (by simp only [Da]; omega) (Sat.back rfl ⟨⟨⟨by show 1 ≤ q.iv 496 + 1; omega, by show q.iv 496 + 1 ≤ Cq q + 1; omega⟩, ?_⟩, ?_⟩)
   ·show q.iv 495 = (left (Kq q) (mq q) (q.iv 496 + 1 - 1).toNat).length
    rw [e2, left_succ, ← e1, ← hs, c3, i3]
    simp
   ·show (13 - (q.iv 496 + 1)).toNat < _
    omega
  ·have c3 : q.bc 168 (q.iv 496).toNat 0 0 = true := by
    have : (!q.bc 168 (q.iv 496).toNat 0 0) = false := c2
    simpa using this
   rw [c3, e1] at hs
   obtain ⟨l1, l2⟩ := left_at (n := (Cq q).toNat) (show (q.iv 496 - 1).toNat < (Cq q).toNat by omega) hs.symm
   have l3 : q.iv 495 < (Lq q).length := by rw [i3]; exact Int.ofNat_lt.2 l1
   have l4 : (q.iv 495).toNat = (left (Kq q) (mq q) (q.iv 496 - 1).toNat).length := by rw [i3]; exact Int.toNat_natCast _
   have l5 : ((Lq q).getD (q.iv 495).toNat 0 : Int) + 1 = q.iv 496 := by
    rw [l4]
    have : (Lq q).getD (left (Kq q) (mq q) (q.iv 496 - 1).toNat).length 0 = (q.iv 496 - 1).toNat := l2
    rw [this]
    omega
   have b1 := r1 (q.iv 495).toNat (by omega)
   have b2 := r2 (q.iv 495).toNat (by omega)
   rw [l5] at b1 b2
   have w1 : q.bv 477 = false := by
    cases hb : q.bv 477 with
    | false => rfl
    | true => have := o1.1 hb; simp only [Nat.reduceAdd] at this; omega
   have w2 : q.bv 491 = false := by
    cases hb : q.bv 491 with
    | false => rfl
    | true => have := o2.1 hb; simp only [Nat.reduceAdd] at this; omega
   have l0 : 0 ≤ q.iv 495 := by omega
   refine Sat.ob ?_ (Sat.ob ?_ (Sat.ob ?_ (Sat.ob ?_ (Sat.ob ?_ (Sat.ob ?_ (Sat.ob ?_ (Sat.ob ?_ (Sat.ob ?_ (Sat.ob ?_ (Sat.br (fun c4 => ?_) (fun _ => Sat.ob ?_ (Sat.ob ?_ (Sat.back rfl ⟨⟨⟨by show 1 ≤ q.iv 496 + 1; omega, by show q.iv 496 + 1 ≤ Cq q + 1; omega⟩, ?_⟩, ?_⟩)))))))))))))
   ·exact nilOb o1
   ·exact decide_eq_true (show 0 ≤ q.iv 478 by omega)
   ·exact orR (nilOb o2)
   ·exact orR (decide_eq_true (show 0 ≤ q.iv 492 by omega))
   ·exact orR (show (!q.bv 477) = true by rw [w1]; rfl)
   ·exact orR (decide_eq_true l0)
   ·exact orR (decide_eq_true (show q.iv 495 < q.iv 478 by omega))
   ·exact orR (show (!q.bv 491) = true by rw [w2]; rfl)
   ·exact orR (decide_eq_true l0)
   ·exact orR (decide_eq_true (show q.iv 495 < q.iv 492 by omega))
   ·exfalso
    replace c4 : (((decide (q.iv 478 ≤ q.iv 495) || decide (q.iv 492 ≤ q.iv 495)) || !(q.ic 480 (q.iv 495).toNat 0 0 == q.iv 496)) || !(q.ic 494 (q.iv 495).toNat 0 0 == q.iv 496)) = true := c4
    rw [b1, b2, decide_eq_false (show ¬ q.iv 478 ≤ q.iv 495 by omega), decide_eq_false (show ¬ q.iv 492 ≤ q.iv 495 by omega)] at c4
    simp at c4
   ·simp only [Da]; omega
   ·simp only [Da]; omega
   ·show q.iv 495 + 1 = (left (Kq q) (mq q) (q.iv 496 + 1 - 1).toNat).length
    rw [e2, left_succ, ← hs, i3]
    simp
   ·show (13 - (q.iv 496 + 1)).toNat < _
    omega
 ·replace c : ¬ q.iv 496 ≤ Cq q := of_decide_eq_false c
  have e1 : (q.iv 496 - 1).toNat = (Cq q).toNat := by omega
  have i4 : q.iv 495 = (Lq q).length := by rw [i3, e1]; rfl
  rw [e1] at hL
  have hL' : (Lq q).length ≤ (Cq q).toNat := hL
  refine Sat.ob ?_ (Sat.ob ?_ (Sat.ob ?_ (Sat.ob ?_ (Sat.br (fun _ => Sat.ob ?_ (Sat.br (fun _ => Sat.fin h486) (fun c3 => ?_))) (fun c2 => ?_)))))
  ·exact orR (nilOb o1)
  ·exact orR (decide_eq_true (show 0 ≤ q.iv 478 by omega))
  ·exact orR (nilOb o2)
  ·exact orR (decide_eq_true (show 0 ≤ q.iv 492 by omega))
  ·show (decide (_ ≤ Cq q - q.iv 495) && decide (Cq q - q.iv 495 ≤ _)) = true
   simp only [D.i64min, D.i64max, Bool.and_eq_true, decide_eq_true_eq]
   omega
  ·exfalso
   replace c3 : (q.iv 467 == Cq q - q.iv 495) = false := c3
   rw [h467, i4] at c3
   simp at c3
  ·exfalso
   simp [BE.den, IE.den, h428, i4, n1, n2] at c2
end Go.Proofs.YthomdlajobnmnaaDoor

set_option linter.unusedSimpArgs false
set_option linter.unusedVariables false
set_option linter.unusedSimpArgs false
set_option linter.unusedVariables false
set_option maxRecDepth 4000
namespace Go.Proofs.YthomdlajobnmnaaDoor
open Go.Rex
theorem psI {ρ : Env} {c : Prop} (h : c) : c := h
def scTail3 : Out := match scOut with
 | .call _ _ _ (.ob _ (.ob _ (.call _ _ _ (.call _ _ _ (.call _ _ _ (.new _ _ (.call _ _ _ (.loop _ _ (.ob _ (.ob _ (.br _ _ (.loop a b (.br c d (.call e f g k)))))))))))))) => k
 | k => k
def scTail2 : Out := match scOut with
 | .call _ _ _ (.ob _ (.ob _ (.call _ _ _ (.call _ _ _ (.call _ _ _ (.new _ _ (.call _ _ _ (.loop _ _ (.ob _ (.ob _ (.br _ _ k))))))))))) => k
 | k => k
def sJ3 (q : Env) : Prop := Stays q (mq q) ∧ OkSl q 183 ∧ OkR q 261 ∧ Hp (psLp q 85 (Cq q) 180) (Cq q).toNat (Bq (Kq q) (mq q)) (fun _ => true) (fun _ => 1) 100 ∧ Rep (lo1 (nts (Cq q).toNat) 0) (.sLoad Wd.zero []) ((rsRd q 0 261).at (q.iv 242) (q.iv 243) (q.iv 244) (q.iv 245))
theorem nt_row {q : Env} {l : List Nat} {r : Nat} {n : Int} (h : ntRow q r n = ntl l) (hn : n = l.length) (k : Nat) (hk : k < l.length) : q.ic r k 0 0 = ((l.getD k 0 : Nat) : Int) + 1 := by
 have h1 := congrArg (fun x : List Nt => (x.getD k ⟨Wd.zero, 0, 0⟩).ref.slot) h
 simp only [ntRow, ntl] at h1
 rw [List.getD_eq_getElem?_getD, List.getD_eq_getElem?_getD, List.getElem?_map, List.getElem?_map, List.getElem?_range (by omega), List.getElem?_eq_getElem hk] at h1
 rw [List.getD_eq_getElem?_getD, List.getElem?_eq_getElem hk]
 exact h1
theorem wd_row {q : Env} {l : List Nat} {r : Nat} {n : Int} (h : wdRow q r n = l.map fun i => ⟨(i : Int) + 1, 1, 0, 0, false⟩) (hn : n = l.length) (k : Nat) (hk : k < l.length) : q.ic r k 0 0 = ((l.getD k 0 : Nat) : Int) + 1 := by
 have h1 := congrArg (fun x : List Wd => (x.getD k Wd.zero).slot) h
 simp only [wdRow] at h1
 rw [List.getD_eq_getElem?_getD, List.getD_eq_getElem?_getD, List.getElem?_map, List.getElem?_map, List.getElem?_range (by omega), List.getElem?_eq_getElem hk] at h1
 rw [List.getD_eq_getElem?_getD, List.getElem?_eq_getElem hk]
 exact h1
set_option maxHeartbeats 8000000 in
theorem sc_tail3 (ρ : Env) (hk : sJ3 ρ) : Sat (lawPostG ssR [shI, shInts]) slSem [] ρ scTail3 := by
 unfold scTail3 scOut
 have hC := cq_rng ρ
 obtain ⟨hst, ho, hr, hp, hx⟩ := hk
 refine Sat.loopK sI3 (fun s => (500 - s.iv 328).toNat) (fun s => Stays s (mq s)) ⟨⟨Int.le_refl 0, by show (0 : Int) ≤ 500; decide⟩, ho, ⟨hr.1, hr.2.1, hr.2.2⟩, (Sc.start hp hx).to ?_ ?_ rfl⟩ (fun _ => hst) fun q hst hI => ?_
 ·exact pX
 ·exact (RS.ext' rfl rfl rfl rfl rfl rfl rW1 rD1 rfl rfl rfl rfl (fun i => by simp [RS.at, rsRd, rsLp, mkW, -Int.pred_toNat, Sub.nenv, assoc, CV.I, CV.B, upsI, upsB, Seg.I, Seg.B, SC.I, SC.B, IE.den, BE.den]) rfl rN1 rfl rfl)
 replace hI : sI3 q := hI
 rw [show (500 - q.num.iv 328).toNat = (500 - q.iv 328).toNat from rfl]
 obtain ⟨⟨i1, i2⟩, ho, hl, hS⟩ := hI
 have hC := cq_rng q
 have hb := hS.bounds
 have o1 := hl.1
 have o2 := hl.2.1
 have o3 := hl.2.2
 refine Sat.br (fun c => ?_) (fun c => ?_)
 ·refine Sat.br (fun c2 => ?_) (fun c2 => ?_)
  ·have h0 : (rsLp q 339).step ≠ 0 := by
    intro h
    replace c2 : (!(q.iv 357 == 0)) = true := c2
    replace h : q.iv 357 = 0 := h
    rw [h] at c2
    cases c2
   obtain ⟨p', x, ha, hpo, hps, htk, hS'⟩ := hS.step (by omega) (Bq_clean _ _) h0
   refine do_call rfl (psLp q 85 (Cq q) 329) (rsLp q 339).acc (n := 85) (m := Cq q) rfl rfl pX rfl ho hpo (by omega)
    (fun u => (0 ≤ u.iv 328 ∧ u.iv 328 < 500 ∧ (500 - (u.iv 328 + 1)).toNat < (500 - q.iv 328).toNat) ∧ Stays u (mq u) ∧ OkLp u 339 ∧ OkSl u 417 ∧ u.bv 416 = true ∧ (rsLp u 339).Tk (rpRd u 410) ∧ Sc (Cq u).toNat (Bq (Kq u) (mq u)) ((u.iv 328).toNat + 1) (psRd u 85 (Cq u) 417) ((rsLp u 339).took (rpRd u 410)).1)
    (fun e h1 h2 h3 h4 => ⟨⟨i1, by show q.iv 328 < 500; omega, ?_⟩, hst, hl, h1, ?_, ?_, ?_⟩) fun u hu => ?_
   ·show (500 - (q.iv 328 + 1)).toNat < (500 - q.iv 328).toNat
    omega
   ·rw [show (q.join 410 e).bv 416 = _ from h3, ha]; rfl
   ·rw [show rpRd (q.join 410 e) 410 = x by rw [h4, ha]; rfl]; exact htk
   ·rw [show rpRd (q.join 410 e) 410 = x by rw [h4, ha]; rfl, show psRd (q.join 410 e) 85 (Cq (q.join 410 e)) 417 = p' by rw [show psRd (q.join 410 e) 85 (Cq (q.join 410 e)) 417 = _ from h2, ha]]
    exact hS'
   obtain ⟨⟨i1, i2, i3⟩, hst, hl, ho, h416, htk, hS⟩ := hu
   have o1 := hl.1
   have o2 := hl.2.1
   have o3 := hl.2.2
   refine Sat.br (fun _ => ?_) (fun c3 => ?_)
   ·refine took_call rfl (rsLp u 339) (rpRd u 410) (RS.ext' rfl rfl rfl rfl rfl rfl rW1 rD1 rfl rfl rfl rfl (fun i => by simp [rsRd, rsLp, mkW, -Int.pred_toNat, Sub.nenv, assoc, CV.I, CV.B, upsI, upsB, Seg.I, Seg.B, SC.I, SC.B, IE.den, BE.den]) rfl rN1 rfl rfl) rfl ⟨o1, o2, o3⟩ htk
     (fun v => (0 ≤ v.iv 328 ∧ v.iv 328 < 500 ∧ (500 - (v.iv 328 + 1)).toNat < (500 - q.iv 328).toNat) ∧ Stays v (mq v) ∧ OkR v 427 ∧ OkSl v 417 ∧ Sc (Cq v).toNat (Bq (Kq v) (mq v)) ((v.iv 328).toNat + 1) (psRd v 85 (Cq v) 417) ((rsRd v 0 427).at (v.iv 391) (v.iv 392) (v.iv 393) (v.iv 394)))
     (fun e h1 h2 => ⟨⟨i1, i2, i3⟩, hst, h1, ho, ?_⟩) fun v hv => ?_
    ·exact hS.to rfl h2 rfl
    obtain ⟨⟨i1, i2, i3⟩, hst, hr, ho, hS⟩ := hv
    have o1 := hr.1
    have o2 := hr.2.1
    have o3 := hr.2.2
    refine Sat.ob (by simp only [Da]; omega) (Sat.back rfl ⟨⟨⟨by show 0 ≤ v.iv 328 + 1; omega, by show v.iv 328 + 1 ≤ 500; omega⟩, ho, ⟨o1, o2, o3⟩, hS.to ?_ ?_ ?_⟩, i3⟩)
    ·exact pX
    ·exact (RS.ext' rfl rfl rfl rfl rfl rfl rW1 rD1 rfl rfl rfl rfl (fun i => by simp [RS.at, rsRd, rsLp, mkW, -Int.pred_toNat, Sub.nenv, assoc, CV.I, CV.B, upsI, upsB, Seg.I, Seg.B, SC.I, SC.B, IE.den, BE.den]) rfl rN1 rfl rfl)
    ·show (v.iv 328 + 1).toNat = (v.iv 328).toNat + 1
     omega
   ·replace c3 : u.bv 416 = false := c3
    rw [h416] at c3
    cases c3
  ·have h0 : (rsLp q 339).step = 0 := by
    replace c2 : (!(q.iv 357 == 0)) = false := c2
    show q.iv 357 = 0
    simpa using c2
   obtain ⟨⟨f, x, hR, hf⟩, hu, hg, hpo⟩ := hS.done (mq_le q) h0
   have hL := left_le (Kq q) (mq q) (Cq q).toNat
   refine notes_call rfl (rsLp q 339) (RS.ext' rfl rfl rfl rfl rfl rfl rW1 rD1 rfl rfl rfl rfl (fun i => by simp [rsRd, rsLp, mkW, -Int.pred_toNat, Sub.nenv, assoc, CV.I, CV.B, upsI, upsB, Seg.I, Seg.B, SC.I, SC.B, IE.den, BE.den]) rfl rN1 rfl rfl) ⟨o1, o2, o3⟩ (by rw [hR.notes]; show (ntl (left (Kq q) (mq q) (Cq q).toNat)).length ≤ 1000000; unfold ntl; rw [List.length_map]; omega)
    (fun u => Stays u (mq u) ∧ OkSl u 332 ∧ (OkSl u 477 ∧ u.iv 478 = (Lq u).length ∧ ∀ k : Nat, k < (Lq u).length → u.ic 480 k 0 0 = ((Lq u).getD k 0 : Int) + 1) ∧ (psLp u 85 (Cq u) 329).usedL (Cq u).toNat = ((Lq u).map fun i => ⟨(i : Int) + 1, 1, 0, 0, false⟩) ∧ u.bv 338 = true ∧ u.iv 428 = 0 ∧ u.iv 467 = Cq u - (Lq u).length)
    (fun e h1 h2 h3 h4 => ⟨hst, ho, ⟨h3, ?_, ?_⟩, hu, hg, ?_, ?_⟩) fun u hu => ?_
   ·have h5 := congrArg List.length (h4.trans hR.notes)
    rw [ntRow_len] at h5
    replace h5 : ((q.join 410 e).iv 478).toNat = (ntl (Lq q)).length := h5
    unfold ntl at h5
    rw [List.length_map] at h5
    have := h3.2.1
    show (q.join 410 e).iv 478 = (Lq q).length
    simp only [Nat.reduceAdd] at this
    omega
   ·intro k hk
    refine nt_row (n := (q.join 410 e).iv 478) (h4.trans hR.notes) ?_ k hk
    have h5 := congrArg List.length (h4.trans hR.notes)
    rw [ntRow_len] at h5
    replace h5 : ((q.join 410 e).iv 478).toNat = (ntl (Lq q)).length := h5
    unfold ntl at h5
    rw [List.length_map] at h5
    have := h3.2.1
    show (q.join 410 e).iv 478 = (Lq q).length
    simp only [Nat.reduceAdd] at this
    omega
   ·exact (congrArg RS.step h2).trans hR.step
   ·refine (congrArg RS.freed h2).trans (hR.freed.trans ?_)
    show f = Cq q - (Lq q).length
    rw [hf]
    show ((Cq q).toNat : Int) - (Lq q).length = _
    omega
   obtain ⟨hst, ho, hn, hu, hg, g1, g2⟩ := hu
   have hC := cq_rng u
   refine used_call rfl (psLp u 85 (Cq u) 329) (n := 85) (m := Cq u) rfl rfl pX ho ⟨by omega, by omega⟩ sK4 (fun e h1 h2 h3 => ⟨hst, hn, ⟨h2, ?_, ?_⟩, g1, g2, h1.trans hg⟩) fun v hv => sc_tail v hv
   ·have h5 := congrArg List.length (h3.trans hu)
    rw [wdRow_len, List.length_map] at h5
    replace h5 : ((u.join 481 e).iv 492).toNat = (Lq u).length := h5
    have := h2.2.1
    show (u.join 481 e).iv 492 = (Lq u).length
    simp only [Nat.reduceAdd] at this
    omega
   ·intro k hk
    refine wd_row (n := (u.join 481 e).iv 492) (h3.trans hu) ?_ k hk
    have h5 := congrArg List.length (h3.trans hu)
    rw [wdRow_len, List.length_map] at h5
    replace h5 : ((u.join 481 e).iv 492).toNat = (Lq u).length := h5
    have := h2.2.1
    show (u.join 481 e).iv 492 = (Lq u).length
    simp only [Nat.reduceAdd] at this
    omega
 ·exfalso
  replace c : ¬ q.iv 328 < 500 := of_decide_eq_false c
  omega
end Go.Proofs.YthomdlajobnmnaaDoor

set_option linter.unusedSimpArgs false
set_option linter.unusedVariables false
set_option linter.unusedSimpArgs false
set_option linter.unusedVariables false
set_option maxRecDepth 4000
namespace Go.Proofs.YthomdlajobnmnaaDoor
open Go.Rex
def sJ2 (q : Env) : Prop := OkSl q 172 ∧ S1 (psLp q 85 (Cq q) 169) (Cq q) (Kq q) (mq q) ∧ Stays q (mq q) ∧ RNew q
set_option maxHeartbeats 8000000 in
theorem sc_tail2 (ρ : Env) (hk : sJ2 ρ) : Sat (lawPostG ssR [shI, shInts]) slSem [] ρ scTail2 := by
 unfold scTail2 scOut
 have hC := cq_rng ρ
 obtain ⟨ho, hp, hst, hr, hn⟩ := hk
 have o1 := hr.1
 have o2 := hr.2.1
 have o3 := hr.2.2
 refine Sat.loopK sI2 (fun s => (13 - s.iv 179).toNat) (fun s => Stays s (mq s)) ⟨⟨Int.le_refl 1, by show 1 ≤ Cq ρ + 1; omega⟩, ho, ⟨o1, o2, o3⟩, (hp.s2 (mq_le ρ)).to ?_ rfl, ⟨_, (Rep.new (e := 2) (me := 0) (th := 3) (mo := 64)).to ?_ rfl⟩⟩ (fun _ => hst) fun q hst hI => ?_
 ·exact pX
 ·refine Eq.trans ?_ hn
  exact (RS.ext' rfl rfl rfl rfl rfl rfl rW1 rD1 rfl rfl rfl rfl (fun i => by simp [RS.at, rsRd, rsLp, mkW, -Int.pred_toNat, Sub.nenv, assoc, CV.I, CV.B, upsI, upsB, Seg.I, Seg.B, SC.I, SC.B, IE.den, BE.den]) rfl rN1 rfl rfl)
 replace hI : sI2 q := hI
 rw [show (13 - q.num.iv 179).toNat = (13 - q.iv 179).toNat from rfl]
 obtain ⟨⟨i1, i2⟩, ho, hl, hS, x, hx⟩ := hI
 have hC := cq_rng q
 have hs := hS.steps
 have o1 := hl.1
 have o2 := hl.2.1
 have o3 := hl.2.2
 have hn1 : (nts (q.iv 179 - 1).toNat).length = (q.iv 179 - 1).toNat := by simp [nts]
 refine Sat.br (fun c => ?_) (fun c => ?_)
 ·replace c : q.iv 179 ≤ Cq q := of_decide_eq_true c
  refine do_call rfl (psLp q 85 (Cq q) 180) aNew0 (n := 85) (m := Cq q) rfl rfl pX rfl ho hS.ok (by omega)
   (fun u => (1 ≤ u.iv 179 ∧ u.iv 179 ≤ Cq u ∧ (13 - (u.iv 179 + 1)).toNat < (13 - q.iv 179).toNat) ∧ Stays u (mq u) ∧ OkLp u 190 ∧ OkSl u 268 ∧ S2 (psRd u 85 (Cq u) 268) (Cq u) (Bq (Kq u) (mq u)) ((u.iv 179 - 1).toNat + 1) ∧ ∃ x, Rep (lo1 (nts (u.iv 179 - 1).toNat) 0) (.idle x) (rsLp u 190))
   (fun e h1 h2 h3 h4 => ⟨⟨i1, c, ?_⟩, hst, hl, h1, ?_, x, hx⟩) fun u hu => ?_
  ·show (13 - (q.iv 179 + 1)).toNat < (13 - q.iv 179).toNat
   omega
  ·have := hS.step (by omega)
   exact this.to h2 rfl
  obtain ⟨⟨i1, i2, i3⟩, hst, hl, ho, hS, x, hx⟩ := hu
  have o1 := hl.1
  have o2 := hl.2.1
  have o3 := hl.2.2
  have hC := cq_rng u
  have hm1 := hx.me
  have hm2 := hx.threads
  have hn1 : (nts (u.iv 179 - 1).toNat).length = (u.iv 179 - 1).toNat := by simp [nts]
  have hb := note_begin (n := (u.iv 179 - 1).toNat) (by omega) hx
  refine begin_call rfl (rsLp u 190) (cRet (u.iv 179 - 1).toNat) (RS.ext' rfl rfl rfl rfl rfl rfl rW1 rD1 rfl rfl rfl rfl (fun i => by simp [rsRd, rsLp, mkW, -Int.pred_toNat, Sub.nenv, assoc, CV.I, CV.B, upsI, upsB, Seg.I, Seg.B, SC.I, SC.B, IE.den, BE.den]) rfl rN1 rfl rfl) ?_ ⟨o1, o2, o3⟩ ?_ (by rw [hx.notes]; show (nts (u.iv 179 - 1).toNat).length ≤ 1000000; omega) hx.step (by unfold Ca.OK cRet; simp)
   (fun v => (1 ≤ v.iv 179 ∧ v.iv 179 ≤ Cq v ∧ (13 - (v.iv 179 + 1)).toNat < (13 - q.iv 179).toNat) ∧ Stays v (mq v) ∧ OkR v 278 ∧ OkSl v 268 ∧ S2 (psRd v 85 (Cq v) 268) (Cq v) (Bq (Kq v) (mq v)) ((v.iv 179 - 1).toNat + 1) ∧ Rep (lo1 (nts ((v.iv 179 - 1).toNat + 1)) 0) (.idle Rp.yes) ((rsRd v 0 278).at (v.iv 242) (v.iv 243) (v.iv 244) (v.iv 245)))
   (fun e h1 h2 => ⟨⟨i1, i2, i3⟩, hst, h1, ho, hS, hb.to h2 rfl⟩) fun v hv => ?_
  ·show (⟨10, 0, 0, 0, ⟨u.iv 179, 1, 0, 0, false⟩, ⟨0, 0, 0, 0, false⟩, 0, 0, 0, 0⟩ : Ca) = cRet (u.iv 179 - 1).toNat
   unfold cRet
   rw [show (((u.iv 179 - 1).toNat : Nat) : Int) + 1 = u.iv 179 by omega]
  ·rw [hm1, hm2]
   show (0 ≤ (0 : Int) ∧ (0 : Int) < 6) ∧ 1 ≤ (3 : Int) ∧ (3 : Int) ≤ 6
   decide
  obtain ⟨⟨i1, i2, i3⟩, hst, hr, ho, hS, hx⟩ := hv
  have o1 := hr.1
  have o2 := hr.2.1
  have o3 := hr.2.2
  have hC := cq_rng v
  have e1 : (v.iv 179 + 1 - 1).toNat = (v.iv 179 - 1).toNat + 1 := by omega
  refine Sat.br (fun c2 => ?_) (fun _ => ?_)
  ·exfalso
   replace c2 : (!(v.iv 296 == 0)) = true := c2
   have : v.iv 296 = 0 := hx.step
   rw [this] at c2
   cases c2
  ·refine Sat.ob (by simp only [Da]; omega) (Sat.back rfl ⟨⟨⟨by show 1 ≤ v.iv 179 + 1; omega, by show v.iv 179 + 1 ≤ Cq v + 1; omega⟩, ho, ⟨o1, o2, o3⟩, hS.to ?_ e1, ⟨_, hx.to ?_ ?_⟩⟩, i3⟩)
   ·exact pX
   ·exact (RS.ext' rfl rfl rfl rfl rfl rfl rW1 rD1 rfl rfl rfl rfl (fun i => by simp [RS.at, rsRd, rsLp, mkW, -Int.pred_toNat, Sub.nenv, assoc, CV.I, CV.B, upsI, upsB, Seg.I, Seg.B, SC.I, SC.B, IE.den, BE.den]) rfl rN1 rfl rfl)
   ·show lo1 (nts (v.iv 179 + 1 - 1).toNat) 0 = _
    rw [e1]
 ·replace c : ¬ q.iv 179 ≤ Cq q := of_decide_eq_false c
  have e1 : (q.iv 179 - 1).toNat = (Cq q).toNat := by omega
  rw [e1] at hS hx hn1
  have hm1 := hx.me
  have hm2 := hx.threads
  have hb := scan_begin hx
  have hS' : S2 (psLp q 85 (Cq q) 180) ((Cq q).toNat : Int) (Bq (Kq q) (mq q)) (Cq q).toNat := by rw [Int.toNat_of_nonneg (by omega)]; exact hS
  refine begin_call rfl (rsLp q 190) cScan (RS.ext' rfl rfl rfl rfl rfl rfl rW1 rD1 rfl rfl rfl rfl (fun i => by simp [rsRd, rsLp, mkW, -Int.pred_toNat, Sub.nenv, assoc, CV.I, CV.B, upsI, upsB, Seg.I, Seg.B, SC.I, SC.B, IE.den, BE.den]) rfl rN1 rfl rfl) rfl ⟨o1, o2, o3⟩ ?_ (by rw [hx.notes]; show (nts (Cq q).toNat).length ≤ 1000000; omega) hx.step (by unfold Ca.OK cScan; simp)
   sJ3 (fun e h1 h2 => ⟨hst, ho, h1, hS'.hp (by omega), hb.to h2 rfl⟩) fun v hv => sc_tail3 v hv
  rw [hm1, hm2]
  show (0 ≤ (0 : Int) ∧ (0 : Int) < 6) ∧ 1 ≤ (3 : Int) ∧ (3 : Int) ≤ 6
  decide
set_option maxHeartbeats 8000000 in
theorem sc_sat (ρ : Env) (hpre : lawPre [shI, shInts] ρ.num) : Sat (lawPostG ssR [shI, shInts]) slSem [] ρ scOut := by
 replace hpre : _ ∧ ((ρ.bv 1 = true → ρ.iv 2 = 0 ∧ ρ.iv 3 = 0) ∧ 0 ≤ ρ.iv 2 ∧ ρ.iv 2 ≤ ρ.iv 3 ∧ ρ.iv 3 ≤ 9223372036854775807 ∧ _) ∧ _ := hpre
 have hk : OkSl ρ 1 := ⟨fun h => (hpre.2.1.1 h).1, hpre.2.1.2.1, hpre.2.1.2.2.1, hpre.2.1.2.2.2.1⟩
 clear hpre
 unfold scOut
 refine Sat.callK (c := awakeR) rfl trivial (fun q => OkSl q 1) (fun _ _ => hk) fun q hk => ?_
 have hC := cq_rng q
 refine Sat.ob ?_ (Sat.ob ?_ (new_call rfl (n := 85) (m := Cq q) rfl rfl ⟨by omega, by omega⟩ ⟨by decide, by decide⟩ (fun u => OkSl u 1 ∧ OkSl u 5 ∧ Fresh (psRd u 85 (Cq u) 5) 85 (Cq u)) (fun e ho hf => ⟨hk, ho, hf⟩) fun u hu => ?_))
 ·show (decide (_ ≤ (IntKind.u64.wrap (q.iv 0)).tmod 12) && decide ((IntKind.u64.wrap (q.iv 0)).tmod 12 ≤ _)) = true
  unfold Cq at hC
  simp only [D.i64min, D.i64max, Bool.and_eq_true, decide_eq_true_eq]
  omega
 ·show (decide (_ ≤ Cq q) && decide (Cq q ≤ _)) = true
  simp only [D.i64min, D.i64max, Bool.and_eq_true, decide_eq_true_eq]
  omega
 obtain ⟨hk, ho, hf⟩ := hu
 have hC := cq_rng u
 have hst := hf.steps
 have h1 := hf.s1 (Kq u) ⟨by omega, by omega⟩
 refine do_call rfl (psRd u 85 (Cq u) 5) aClk0 (n := 85) (m := Cq u) rfl rfl pX rfl ho (hf.ok ⟨by omega, by omega⟩ ⟨by decide, by decide⟩) (by omega)
  (fun v => OkSl v 1 ∧ OkSl v 22 ∧ S1 (psRd v 85 (Cq v) 22) (Cq v) (Kq v) 0) (fun e g1 g2 _ _ => ⟨hk, g1, h1.to g2 rfl⟩) fun v hv => ?_
 obtain ⟨hk, ho, hS⟩ := hv
 refine newR_call (E := 2) (M := 0) (T := 1) (N := 1) rfl rfl rfl rfl rfl (by decide) (by decide) (by decide) (by decide) (fun v => OkSl v 1 ∧ OkSl v 22 ∧ S1 (psRd v 85 (Cq v) 22) (Cq v) (Kq v) 0) (fun e _ _ => ⟨hk, ho, hS⟩) fun v hv => ?_
 obtain ⟨hk, ho, hS⟩ := hv
 refine Sat.newB (fun v => OkSl v 1 ∧ OkSl v 22 ∧ S1 (psRd v 85 (Cq v) 22) (Cq v) (Kq v) 0) (fun _ => ⟨hk, ho, hS⟩) fun v hv _ => ?_
 obtain ⟨hk, ho, hS⟩ := hv
 refine newR_call (E := 2) (M := 0) (T := 3) (N := 64) rfl rfl rfl rfl rfl (by decide) (by decide) (by decide) (by decide) (fun v => OkSl v 1 ∧ OkSl v 22 ∧ S1 (psRd v 85 (Cq v) 22) (Cq v) (Kq v) 0 ∧ RNew v) (fun e h1 h2 => ⟨hk, ho, hS, h1, h2⟩) fun v hv => ?_
 obtain ⟨hk, ho, hS, hN⟩ := hv
 refine Sat.loopK sI1 (fun s => (18 - s.iv 167).toNat) sK1 ⟨⟨Int.le_refl 0, by show (0 : Int) ≤ 18; decide, hk.2.1⟩, ho, hS.to ?_ rfl, fun s _ _ => ?_⟩ (fun _ => ⟨hk, hN⟩) fun r hk hI => ?_
 ·exact pX
 ·show ((_ : List SC).getD (s * 1 + 0 * 0 + 0 + 0) .hole).B _ = false
  exact (ex_zero (lo := 0) (by rfl) (by omega)).2
 replace hI : sI1 r := hI
 rw [show (18 - r.num.iv 167).toNat = (18 - r.iv 167).toNat from rfl]
 obtain ⟨⟨i1, i2, i3⟩, ho, hS, hst⟩ := hI
 have hC := cq_rng r
 obtain ⟨hk, hN⟩ := hk
 have hs := hS.steps
 refine Sat.ob (nilOb hk) (Sat.ob (decide_eq_true hk.2.1) (Sat.br (fun c => ?_) (fun c => ?_)))
 ·replace c : r.iv 167 < r.iv 2 ∧ r.iv 167 < 18 := by
   have h : (decide (r.iv 167 < r.iv 2) && decide (r.iv 167 < 18)) = true := c
   simpa using h
  obtain ⟨c1, c2⟩ := c
  have hK := kq_rng r (r.iv 167).toNat
  have d1 : (r.iv 167).tdiv 9 = r.iv 167 / 9 := Int.tdiv_eq_ediv_of_nonneg i1
  have d2 : (r.iv 167).tmod 9 = r.iv 167 % 9 := Int.tmod_eq_emod_of_nonneg i1
  refine Sat.ob (nilLt hk (by simp only [Nat.reduceAdd]; omega)) (Sat.ob (decide_eq_true i1) (Sat.ob ?_ (Sat.ob ?_ (Sat.ob ?_ (Sat.callK (c := keepCon) rfl ?_ (fun u => (OkSl u 1 ∧ RNew u) ∧ (0 ≤ u.iv 167 ∧ u.iv 167 < 18 ∧ u.iv 167 < u.iv 2 ∧ (18 - (u.iv 167 + 1)).toNat < (18 - r.iv 167).toNat) ∧ OkSl u 172 ∧ S1 (psLp u 85 (Cq u) 169) (Cq u) (Kq u) (u.iv 167).toNat ∧ Stays u (u.iv 167).toNat) (fun _ _ => ⟨⟨hk, hN⟩, ⟨i1, c2, c1, ?_⟩, ho, hS, hst⟩) fun u hu => ?_)))))
  ·show (decide (_ ≤ Kq r (r.iv 167).toNat) && decide (Kq r (r.iv 167).toNat ≤ _)) = true
   simp only [D.i64min, D.i64max, Bool.and_eq_true, decide_eq_true_eq]
   omega
  ·show (decide (_ ≤ (r.iv 167).tdiv 9) && decide ((r.iv 167).tdiv 9 ≤ _)) = true
   simp only [D.i64min, D.i64max, Bool.and_eq_true, decide_eq_true_eq]
   omega
  ·show (decide (_ ≤ 1 + (r.iv 167).tdiv 9) && decide (1 + (r.iv 167).tdiv 9 ≤ _)) = true
   simp only [D.i64min, D.i64max, Bool.and_eq_true, decide_eq_true_eq]
   omega
  ·show (0 ≤ 1 + (r.iv 167).tdiv 9 ∧ 1 + (r.iv 167).tdiv 9 < 6) ∧ 0 ≤ (r.iv 167).tmod 9 ∧ (r.iv 167).tmod 9 < 9
   omega
  ·show (18 - (r.iv 167 + 1)).toNat < (18 - r.iv 167).toNat
   omega
  obtain ⟨⟨hk, hN⟩, ⟨i1, i2, i3, i4⟩, ho, hS, hst⟩ := hu
  have hC := cq_rng u
  have hs := hS.steps
  have d1 : (u.iv 167).tdiv 9 = u.iv 167 / 9 := Int.tdiv_eq_ediv_of_nonneg i1
  have d2 : (u.iv 167).tmod 9 = u.iv 167 % 9 := Int.tmod_eq_emod_of_nonneg i1
  refine do_call rfl (psLp u 85 (Cq u) 169) (aSay (u.iv 167).toNat (Kq u (u.iv 167).toNat)) (n := 85) (m := Cq u) rfl rfl pX ?_ ho hS.ok (by omega)
   (fun u => (OkSl u 1 ∧ RNew u) ∧ (0 ≤ u.iv 167 ∧ u.iv 167 < 18 ∧ u.iv 167 < u.iv 2 ∧ (18 - (u.iv 167 + 1)).toNat < (18 - r.iv 167).toNat) ∧ OkSl u 186 ∧ S1 (psRd u 85 (Cq u) 186) (Cq u) (Kq u) ((u.iv 167).toNat + 1) ∧ Stays u (u.iv 167).toNat)
   (fun e h1 h2 _ _ => ⟨⟨hk, hN⟩, ⟨i1, i2, i3, i4⟩, h1, (hS.step (by omega)).to h2 rfl, hst⟩) fun v hv => ?_
  ·show (⟨2, 0, 0, 25 + (1 + (u.iv 167).tdiv 9) * 9 + (u.iv 167).tmod 9, ⟨0, 0, 0, 0, false⟩, ⟨Kq u (u.iv 167).toNat, 1, 0, 0, false⟩⟩ : Ac) = aSay _ _
   unfold aSay
   rw [show 25 + (1 + (u.iv 167).tdiv 9) * 9 + (u.iv 167).tmod 9 = 34 + (((u.iv 167).toNat : Nat) : Int) by omega]
  obtain ⟨⟨hk, hN⟩, ⟨i1, i2, i3, i4⟩, ho, hS, hst⟩ := hv
  have hC := cq_rng v
  have hK := kq_rng v (v.iv 167).toNat
  have e1 : (v.iv 167 + 1).toNat = (v.iv 167).toNat + 1 := by omega
  refine Sat.br (fun c => ?_) (fun c => ?_)
  ·replace c : 1 ≤ Kq v (v.iv 167).toNat ∧ Kq v (v.iv 167).toNat ≤ Cq v := by
    have h : (decide (1 ≤ Kq v (v.iv 167).toNat) && decide (Kq v (v.iv 167).toNat ≤ Cq v)) = true := c
    simpa using h
   refine Sat.ob (decide_eq_true (show 0 ≤ Kq v (v.iv 167).toNat from hK.1)) (Sat.ob (decide_eq_true (show Kq v (v.iv 167).toNat < 13 by omega)) (Sat.ob (by simp only [Da]; omega) (Sat.back rfl ⟨⟨⟨by show 0 ≤ v.iv 167 + 1; omega, by show v.iv 167 + 1 ≤ 18; omega, by show v.iv 167 + 1 ≤ v.iv 2; omega⟩, ho, hS.to ?_ e1, fun s s1 s2 => ?_⟩, i4⟩)))
   ·exact pX
   ·have h := hst s s1 s2
    refine Eq.trans ?_ (congrArg (fun n => stay (Kq v) n s) e1).symm
    show _ = stay (Kq v) ((v.iv 167).toNat + 1) s
    rw [stay_succ, ← h]
    by_cases d : Kq v (v.iv 167).toNat = s
    ·rw [show (Kq v (v.iv 167).toNat == (s : Int)) = true by simpa using d, Bool.or_true]
     have d3 : (Kq v (v.iv 167).toNat).toNat = s := by omega
     simp [-Int.pred_toNat, Sub.nenv, assoc, CV.I, CV.B, upsI, upsB, Seg.I, Seg.B, SC.I, SC.B, IE.den, BE.den]
     exact .inl d3
    ·rw [show (Kq v (v.iv 167).toNat == (s : Int)) = false by simpa using d, Bool.or_false]
     have d3 : ¬ (Kq v (v.iv 167).toNat).toNat = s := by omega
     unfold Kq at d3
     simp [-Int.pred_toNat, Sub.nenv, assoc, CV.I, CV.B, upsI, upsB, Seg.I, Seg.B, SC.I, SC.B, IE.den, BE.den, D.mod]
     intro hne
     exact absurd hne d3
  ·have c : ¬ (1 ≤ Kq v (v.iv 167).toNat ∧ Kq v (v.iv 167).toNat ≤ Cq v) := by
    have h : (decide (1 ≤ Kq v (v.iv 167).toNat) && decide (Kq v (v.iv 167).toNat ≤ Cq v)) = false := c
    simpa using h
   refine Sat.ob (by simp only [Da]; omega) (Sat.back rfl ⟨⟨⟨by show 0 ≤ v.iv 167 + 1; omega, by show v.iv 167 + 1 ≤ 18; omega, by show v.iv 167 + 1 ≤ v.iv 2; omega⟩, ho, hS.to ?_ e1, fun s s1 s2 => ?_⟩, i4⟩)
   ·exact pX
   ·have h := hst s s1 s2
    refine Eq.trans ?_ (congrArg (fun n => stay (Kq v) n s) e1).symm
    show _ = stay (Kq v) ((v.iv 167).toNat + 1) s
    replace s2 : (s : Int) ≤ Cq v := s2
    rw [stay_succ, ← h, show (Kq v (v.iv 167).toNat == (s : Int)) = false by simp; omega, Bool.or_false]
    simp [-Int.pred_toNat, Sub.nenv, assoc, CV.I, CV.B, upsI, upsB, Seg.I, Seg.B, SC.I, SC.B, IE.den, BE.den]
 ·replace c : ¬ (r.iv 167 < r.iv 2 ∧ r.iv 167 < 18) := by
   have h : (decide (r.iv 167 < r.iv 2) && decide (r.iv 167 < 18)) = false := c
   simpa using h
  have e1 : (r.iv 167).toNat = mq r := by unfold mq; omega
  rw [e1] at hS hst
  exact sc_tail2 r ⟨ho, hS, hst, hN⟩
theorem sc_con : ConOK Tryd.prog (lawConG 27 ssR 11 [shI, shInts]) (lawPre [shI, shInts]) (lawPostG ssR [shI, shInts]) :=
 con_ok tabOK (E := scE) (cs := slSem) rfl slSem_ok schedOK rfl sc_run (by kernel_rfl) (fun ρ _ p hp => by cases hp) sc_sat
end Go.Proofs.YthomdlajobnmnaaDoor
