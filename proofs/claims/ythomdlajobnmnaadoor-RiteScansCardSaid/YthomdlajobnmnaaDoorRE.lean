/- 'scan', 'retire', 'open', 'Begin' -/
import Derived.Test.YthomdlajobnmnaaDoorRD
set_option linter.unusedSimpArgs false
set_option linter.unusedVariables false
namespace Go.Proofs.YthomdlajobnmnaaDoor
open Go.Rex
def sPre (ρ : Env) : Prop := OkR ρ 4 ∧ StR ρ
def sSem : CSem := [(lookCon, lookPre, lookPost)]
theorem sSem_ok : ∀ k pre post, (k, pre, post) ∈ sSem → conWf k = true ∧ ConOK Tryd.prog k pre post := by
 intro k pre post h
 simp only [sSem, List.mem_cons, List.not_mem_nil, or_false, Prod.mk.injEq] at h
 obtain ⟨rfl, rfl, rfl⟩ := h
 exact ⟨by kernel_rfl, look_con⟩
noncomputable def scanE : Ex := { sched := sched, loops := [], cons := [lookCon], fin := scanCon }
def scanOut : Out :=
 .br (.ieq (.var 0) (.lit 1))
 (.fin { lo := 71, lob := 4, iv := [(132, .lit 0), (131, .lit 0), (130, .lit 0), (129, .lit 0), (128, yv 61), (127, yv 60), (126, yv 59), (124, yv 57), (123, yv 56), (120, .lit 0), (119, .lit 0), (117, .lit 0), (116, .lit 0), (114, .lit 0), (112, .lit 0), (111, .lit 0), (110, .lit 0), (109, .lit 0), (107, .lit 0), (106, .lit 0), (105, .lit 0), (104, .lit 0), (102, .lit 0), (101, .lit 0), (100, .lit 0), (99, .lit 0), (97, .lit 0), (96, .lit 0), (95, .lit 0), (94, .lit 0), (93, .lit 0), (92, .lit 0), (91, .lit 0), (90, .lit 0), (89, .lit 0), (88, .lit 0), (87, .lit 0), (86, .lit 0), (85, .lit 0), (83, .lit 0), (82, .lit 0), (81, .lit 0), (80, .lit 0), (78, .lit 0), (77, .lit 0), (76, .lit 0), (75, .lit 0), (74, .lit 0), (73, .lit 0), (72, .lit 0), (71, .lit 0)], bv := [(134, .lit true), (133, .lit false), (125, yw 58), (122, yw 55), (118, .lit true), (115, .lit true), (113, .lit false), (108, .lit false), (103, .lit false), (98, .lit false), (84, .lit false), (79, .lit false)], ct := [(137, yu 70 59 7 yN 0), (121, yl 54 9 5 50 yW 0)], bk := [(6, yc 3 7)], nb := [5, 4, 5, 4] })
 (.br (.ieq (.var 0) (.lit 4))
  (.fin { lo := 71, lob := 4, iv := [(137, yv 70), (132, yv 65), (131, yv 64), (130, yv 63), (129, yv 62), (128, yv 61), (127, yv 60), (126, yv 59), (124, yv 57), (123, yv 56), (120, yv 53), (119, yv 52), (136, yv 69), (117, yv 50), (116, yv 49), (114, yv 47), (112, yv 45), (111, yv 44), (110, yv 43), (109, yv 42), (107, yv 40), (106, yv 39), (105, yv 38), (104, yv 37), (102, .lit 0), (101, .lit 0), (100, .lit 0), (99, .lit 0), (97, .lit 0), (96, .lit 0), (95, .lit 0), (94, .lit 0), (93, .lit 24), (92, .lit 0), (91, .lit 0), (90, .lit 1), (89, .lit 12), (88, yv 21), (87, yv 20), (86, yv 19), (85, yv 18), (83, yv 16), (82, yv 15), (81, yv 14), (80, yv 13), (78, yv 11), (77, yv 10), (76, yv 9), (75, yv 8), (74, yv 7), (73, yv 6), (72, yv 5), (71, yv 4)], bv := [(134, yw 67), (133, yw 66), (125, yw 58), (122, yw 55), (118, yw 51), (115, yw 48), (113, yw 46), (108, yw 41), (103, .lit false), (98, .lit false), (84, yw 17), (79, yw 12)], ct := [(137, yu 70 59 7 yN 0), (136, yu 69 70 7 yN 0), (135, yu 68 49 5 yW 0), (121, yl 54 9 5 50 yW 0)], bk := [(6, yc 3 7), (5, yc 2 7), (4, yc 1 5)] })
  (.call 0 { lo := 0, lob := 0, iv := [(70, yv 70), (65, yv 65), (64, yv 64), (63, yv 63), (62, yv 62), (61, yv 61), (60, yv 60), (59, yv 59), (57, yv 57), (56, yv 56), (3, yv 3), (2, yv 2), (1, yv 1), (0, yv 0), (53, yv 53), (52, yv 52), (69, yv 69), (50, yv 50), (49, yv 49), (47, yv 47), (45, yv 45), (44, yv 44), (43, yv 43), (42, yv 42), (40, yv 40), (39, yv 39), (38, yv 38), (37, yv 37), (35, yv 35), (34, yv 34), (33, yv 33), (32, yv 32), (30, yv 30), (29, yv 29), (28, yv 28), (27, yv 27), (26, yv 26), (25, yv 25), (24, yv 24), (23, yv 23), (22, yv 22), (21, yv 21), (20, yv 20), (19, yv 19), (18, yv 18), (16, yv 16), (15, yv 15), (14, yv 14), (13, yv 13), (11, yv 11), (10, yv 10), (9, yv 9), (8, yv 8), (7, yv 7), (6, yv 6), (5, yv 5), (4, yv 4), (71, .lit 0)], bv := [(67, yw 67), (66, yw 66), (58, yw 58), (55, yw 55), (51, yw 51), (48, yw 48), (46, yw 46), (41, yw 41), (36, yw 36), (31, yw 31), (17, yw 17), (12, yw 12)], ct := [(70, yu 70 59 7 yN 0), (69, yu 69 70 7 yN 0), (68, yu 68 49 5 yW 0), (54, yl 54 9 5 50 yW 0)], bk := [(3, yc 3 7), (2, yc 2 7), (1, yc 1 5), (0, yb 0)] } 71 <|
   .fin { lo := 71, lob := 4, iv := [(137, yv 137), (132, yv 132), (131, yv 131), (130, yv 130), (129, yv 129), (128, yv 128), (127, yv 127), (126, yv 126), (124, yv 124), (123, yv 123), (120, yv 120), (119, yv 119), (136, yv 136), (117, yv 117), (116, yv 116), (114, yv 114), (112, yv 112), (111, yv 111), (110, yv 110), (109, yv 109), (107, yv 107), (106, yv 106), (105, yv 105), (104, yv 104), (102, yv 102), (101, yv 101), (100, yv 100), (99, yv 99), (97, yv 97), (96, yv 96), (95, yv 95), (94, yv 94), (93, yv 93), (92, yv 92), (91, yv 91), (90, yv 90), (89, yv 89), (88, yv 88), (87, yv 87), (86, yv 86), (85, yv 85), (83, yv 83), (82, yv 82), (81, yv 81), (80, yv 80), (78, yv 78), (77, yv 77), (76, yv 76), (75, yv 75), (74, yv 74), (73, yv 73), (72, yv 72), (71, yv 71)], bv := [(134, yw 134), (133, yw 133), (125, yw 125), (122, yw 122), (118, yw 118), (115, yw 115), (113, yw 113), (108, yw 108), (103, yw 103), (98, yw 98), (84, yw 84), (79, yw 79)], ct := [(137, yu 137 126 7 yN 0), (136, yu 136 137 7 yN 0), (135, yu 135 116 5 yW 0), (121, yl 121 9 5 50 yW 0)], bk := [(6, yc 6 7), (5, yc 5 7), (4, yc 4 5)] }))
theorem scan_run : exec tab scanE 8000 [] (cfg0 scanCon.f scanCon.nv [] scanCon.gl scanCon.hp scanCon.args) = scanOut := by kernel_rfl
def scanPost (ρ : Env) : Prop := OkR ρ 71 ∧ rsRd ρ 0 71 = (rsRd ρ 0 4).scan
theorem scan_sat (ρ : Env) (hpre : sPre ρ.num) : Sat scanPost sSem [] ρ scanOut := by
 replace hpre : sPre ρ := hpre
 obtain ⟨⟨o1, o2, o3⟩, hs⟩ := hpre
 unfold scanOut
 refine Sat.br (fun c => ?_) (fun c => ?_)
 ·simp only [Da] at c
  have hm : (rsRd ρ 0 4).scan = (rsRd ρ 0 4).done := if_pos c
  exact Sat.fin ⟨⟨(by first | exact o1 | exact o2 | exact o3 | exact okNil rfl rfl | assumption), (by first | exact o2 | exact ⟨okNil rfl rfl, Int.le_refl 0, .inl rfl⟩ | assumption), (by first | exact o1 | exact o2 | exact o3 | exact okNil rfl rfl | assumption)⟩, Eq.trans (b := (rsRd ρ 0 4).done) (RS.ext' rfl rfl rfl rfl rfl rfl rW1 rD1 rfl rfl rfl rfl rH1 rfl rN1 rfl rfl) (Eq.symm (hm))⟩
 ·simp only [Da] at c
  refine Sat.br (fun c2 => ?_) (fun c2 => ?_)
  ·simp only [Da] at c2
   have hm : (rsRd ρ 0 4).scan = (rsRd ρ 0 4).era 12 := (if_neg c).trans (if_pos c2)
   exact Sat.fin ⟨⟨(by first | exact o1 | exact o2 | exact o3 | exact okNil rfl rfl | assumption), (by first | exact o2 | exact ⟨okNil rfl rfl, Int.le_refl 0, .inl rfl⟩ | assumption), (by first | exact o1 | exact o2 | exact o3 | exact okNil rfl rfl | assumption)⟩, Eq.trans (b := (rsRd ρ 0 4).era 12) (RS.ext' rfl rfl rfl rfl rfl rfl rW1 rD1 rfl rfl rfl rfl rH1 rfl rN1 rfl rfl) (Eq.symm (hm))⟩
  ·simp only [Da] at c2
   have hm : (rsRd ρ 0 4).scan = ((rsRd ρ 0 4).look 0).getD (rsRd ρ 0 4) := (if_neg c).trans (if_neg c2)
   refine r_call (c := lookCon) rfl (rsRd ρ 0 4) (((rsRd ρ 0 4).look 0).getD (rsRd ρ 0 4)) (by decide) (by decide) (st4 rfl rfl rfl rfl) ⟨⟨o1, o2, o3⟩, hs, Int.le_refl 0, (show (0 : Int) ≤ 1000000 by decide)⟩ (RS.ext' rfl rfl rfl rfl rfl rfl rW1 rD1 rfl rfl rfl rfl rH1 rfl rN1 rfl rfl) (fun e hq hr => ⟨hq.1, by
     have h2 := hq.2.2
     rw [hr] at h2
     exact h2⟩) (fun q => (OkR q 71) ∧ rsRd q 0 71 = (rsRd q 0 4).scan) (fun e h1 h2 => ⟨h1, h2.trans hm.symm⟩) fun q hq => ?_
   obtain ⟨⟨o1, o2, o3⟩, hm⟩ := hq
   exact Sat.fin ⟨⟨(by first | exact o1 | exact o2 | exact o3 | exact okNil rfl rfl | assumption), (by first | exact o2 | exact ⟨okNil rfl rfl, Int.le_refl 0, .inl rfl⟩ | assumption), (by first | exact o1 | exact o2 | exact o3 | exact okNil rfl rfl | assumption)⟩, Eq.trans (b := (rsRd q 0 71)) (RS.ext' rfl rfl rfl rfl rfl rfl rW1 rD1 rfl rfl rfl rfl rH1 rfl rN1 rfl rfl) (Eq.symm (hm.symm))⟩
theorem scan_con : ConOK Tryd.prog scanCon sPre scanPost :=
 con_ok tabOK (E := scanE) (cs := sSem) rfl sSem_ok schedOK rfl scan_run (by kernel_rfl) (fun ρ _ p hp => by cases hp) scan_sat
end Go.Proofs.YthomdlajobnmnaaDoor

set_option linter.unusedSimpArgs false
set_option linter.unusedVariables false
namespace Go.Proofs.YthomdlajobnmnaaDoor
open Go.Rex
def bigN : Int := 1000000
def FewN (ρ : Env) (v : Nat) : Prop := ρ.iv (v + 55) ≤ 1000000
noncomputable def noteE : Ex := { sched := sched, loops := [], fin := noteCon }
def noteOut : Out :=
 .ob (.ile (.mul (.add (.var 59) (.lit 1)) (.lit 56)) (.lit 140737488355328)) <|
 .ob (.ile (.lit 0) (.var 59)) <|
 .ob (.ile (.var 59) (.var 60)) <|
 .ob (.ile (.var 60) (.lit 9223372036854775807)) <|
 .ob (.or (.not (.var 58)) (.ieq (.var 59) (.lit 0))) <|
 .new 73 [.be (.and (.ile (.add (.var 59) (.lit 1)) (.var 73)) (.ile (.var 73) (.lit 9223372036854775807)))] <|
 .fin { lo := 73, lob := 4, iv := [(139, yv 70), (134, yv 65), (133, yv 64), (132, yv 63), (131, yv 62), (130, yv 61), (129, yv 73), (128, .add (.var 59) (.lit 1)), (126, yv 57), (125, yv 56), (122, yv 53), (121, yv 52), (138, yv 69), (119, yv 50), (118, yv 49), (116, yv 47), (114, yv 45), (113, yv 44), (112, yv 43), (111, yv 42), (109, yv 40), (108, yv 39), (107, yv 38), (106, yv 37), (104, yv 35), (103, yv 34), (102, yv 33), (101, yv 32), (99, yv 30), (98, yv 29), (97, yv 28), (96, yv 27), (95, yv 26), (94, yv 25), (93, yv 24), (92, yv 23), (91, yv 22), (90, yv 21), (89, yv 20), (88, yv 19), (87, yv 18), (85, yv 16), (84, yv 15), (83, yv 14), (82, yv 13), (80, yv 11), (79, yv 10), (78, yv 9), (77, yv 8), (76, yv 7), (75, yv 6), (74, yv 5), (73, yv 4)], bv := [(136, yw 67), (135, yw 66), (127, .lit false), (124, yw 55), (120, yw 51), (117, yw 48), (115, yw 46), (110, yw 41), (105, yw 36), (100, yw 31), (86, yw 17), (81, yw 12)], ct := [(139, .up { r := 70, n1 := .add (.var 59) (.lit 1), s1 := 7, ks := yN } 0 [⟨0, (.var 59), (.lit 0), 0, .int .i64 (.var 8)⟩, ⟨0, (.var 59), (.lit 0), 1, .int .i64 (.var 9)⟩, ⟨0, (.var 59), (.lit 0), 2, .int .i64 (.lit 0)⟩, ⟨0, (.var 59), (.lit 0), 3, .int .i64 (.lit 0)⟩, ⟨0, (.var 59), (.lit 0), 4, .bool (.lit false)⟩, ⟨0, (.var 59), (.lit 0), 5, .int .i64 (.var 71)⟩, ⟨0, (.var 59), (.lit 0), 6, .int .i64 (.var 72)⟩] (.lit 0)), (138, yu 69 70 7 yN 0), (137, yu 68 49 5 yW 0), (123, yl 54 9 5 50 yW 0)], bk := [(6, yc 7 7), (5, yc 2 7), (4, yc 1 5)] }
theorem note_run : exec tab noteE 8000 [] (cfg0 noteCon.f noteCon.nv [] noteCon.gl noteCon.hp noteCon.args) = noteOut := by kernel_rfl
def notePre (ρ : Env) : Prop := OkR ρ 4 ∧ FewN ρ 4
def notePost (ρ : Env) : Prop := OkR ρ 73 ∧ rsRd ρ 0 73 = (rsRd ρ 0 4).note (ρ.iv 71) (ρ.iv 72)
theorem note_sat (ρ : Env) (hpre : notePre ρ.num) : Sat notePost [] [] ρ noteOut := by
 replace hpre : notePre ρ := hpre
 obtain ⟨⟨o1, o2, o3⟩, hf⟩ := hpre
 have o3' := o3
 obtain ⟨p1, p2, p3, p4⟩ := o3
 replace hf : ρ.iv 59 ≤ 1000000 := hf
 unfold noteOut
 refine Sat.ob (by simp only [Da]; omega) (Sat.ob (decide_eq_true p2) (Sat.ob (decide_eq_true p3) (Sat.ob (decide_eq_true p4) (Sat.ob (nilOb o3') (Sat.newB (fun q => OkR q 4 ∧ 0 ≤ q.iv 59) (fun e => ⟨⟨o1, o2, o3'⟩, p2⟩) fun q hq hb => ?_)))))
 obtain ⟨⟨o1, o2, o3⟩, p2⟩ := hq
 simp only [Da] at hb
 have hn : ∀ i : Nat, (i : Int) < q.iv 59 → ¬ (q.iv 59).toNat = i := fun i hi h => by omega
 refine Sat.fin ⟨⟨(by first | exact o1 | exact o2 | exact o3 | exact okNil rfl rfl | assumption), (by first | exact o2 | exact ⟨okNil rfl rfl, Int.le_refl 0, .inl rfl⟩ | assumption), ?_⟩, Eq.trans (b := (rsRd q 0 4).note (q.iv 71) (q.iv 72)) (RS.ext' rfl rfl rfl rfl rfl rfl rW1 rD1 rfl rfl rfl rfl rH1 rfl ?_ rfl rfl) (Eq.symm (rfl))⟩
 ·refine ⟨fun h => (by cases h), ?_, ?_, ?_⟩
  ·show 0 ≤ q.iv 59 + 1; omega
  ·exact hb.1
  ·exact hb.2
 ·refine (ntRow_push (ρ := q) (r := 70) (n := q.iv 59) (w := ⟨Wd.ref' (wdRd q 8), q.iv 71, q.iv 72⟩) p2 rfl (fun i hi => ?_) ?_)
  ·simp [ntAt, mkW, -Int.pred_toNat, Sub.nenv, assoc, CV.I, CV.B, upsI, upsB, Seg.I, Seg.B, SC.I, SC.B, IE.den, BE.den, hn i hi]
  ·simp [ntAt, mkW, wdRd, Wd.ref', -Int.pred_toNat, Sub.nenv, assoc, CV.I, CV.B, upsI, upsB, Seg.I, Seg.B, SC.I, SC.B, IE.den, BE.den]
theorem note_con : ConOK Tryd.prog noteCon notePre notePost :=
 con_ok tabOK (E := noteE) (cs := []) rfl (fun k pre post h => by cases h) schedOK rfl note_run (by kernel_rfl) (fun ρ _ p hp => by cases hp) note_sat
/-! ### noted -/
def sSem2 : CSem := [(scanCon, sPre, scanPost)]
theorem sSem2_ok : ∀ k pre post, (k, pre, post) ∈ sSem2 → conWf k = true ∧ ConOK Tryd.prog k pre post := by
 intro k pre post h
 simp only [sSem2, List.mem_cons, List.not_mem_nil, or_false, Prod.mk.injEq] at h
 obtain ⟨rfl, rfl, rfl⟩ := h
 exact ⟨by kernel_rfl, scan_con⟩
noncomputable def notedE : Ex := { sched := sched, loops := [], cons := [scanCon], fin := notedCon }
def notedOut : Out :=
 .ob (.or (.not (.var 58)) (.ieq (.var 59) (.lit 0))) <|
 .ob (.ile (.lit 0) (.var 59)) <|
 .br (.ile (.var 3) (.var 59))
 (.call 0 { lo := 0, lob := 0, iv := [(70, yv 70), (65, yv 65), (64, yv 64), (63, yv 63), (62, yv 62), (61, yv 61), (60, yv 60), (59, yv 59), (57, yv 57), (56, yv 56), (3, yv 3), (2, yv 2), (1, yv 1), (0, yv 0), (53, yv 53), (52, yv 52), (69, yv 69), (50, yv 50), (49, yv 49), (47, yv 47), (45, yv 45), (44, yv 44), (43, yv 43), (42, yv 42), (40, yv 40), (39, yv 39), (38, yv 38), (37, yv 37), (35, yv 35), (34, yv 34), (33, yv 33), (32, yv 32), (30, yv 30), (29, yv 29), (28, yv 28), (27, yv 27), (26, yv 26), (25, yv 25), (24, yv 24), (23, yv 23), (22, yv 22), (21, yv 21), (20, yv 20), (19, yv 19), (18, yv 18), (16, yv 16), (15, yv 15), (14, yv 14), (13, yv 13), (11, yv 11), (10, yv 10), (9, yv 9), (8, yv 8), (7, yv 7), (6, yv 6), (5, yv 5), (4, yv 4)], bv := [(67, yw 67), (66, yw 66), (58, yw 58), (55, yw 55), (51, yw 51), (48, yw 48), (46, yw 46), (41, yw 41), (36, yw 36), (31, yw 31), (17, yw 17), (12, yw 12)], ct := [(70, yu 70 59 7 yN 0), (69, yu 69 70 7 yN 0), (68, yu 68 49 5 yW 0), (54, yl 54 9 5 50 yW 0)], bk := [(3, yc 3 7), (2, yc 2 7), (1, yc 1 5), (0, yb 0)] } 71 <|
  .fin { lo := 71, lob := 4, iv := [(137, yv 137), (132, yv 132), (131, yv 131), (130, yv 130), (129, yv 129), (128, yv 128), (127, yv 127), (126, yv 126), (124, yv 124), (123, yv 123), (120, yv 120), (119, yv 119), (136, yv 136), (117, yv 117), (116, yv 116), (114, yv 114), (112, yv 112), (111, yv 111), (110, yv 110), (109, yv 109), (107, yv 107), (106, yv 106), (105, yv 105), (104, yv 104), (102, yv 102), (101, yv 101), (100, yv 100), (99, yv 99), (97, yv 97), (96, yv 96), (95, yv 95), (94, yv 94), (93, yv 93), (92, yv 92), (91, yv 91), (90, yv 90), (89, yv 89), (88, yv 88), (87, yv 87), (86, yv 86), (85, yv 85), (83, yv 83), (82, yv 82), (81, yv 81), (80, yv 80), (78, yv 78), (77, yv 77), (76, yv 76), (75, yv 75), (74, yv 74), (73, yv 73), (72, yv 72), (71, yv 71)], bv := [(134, yw 134), (133, yw 133), (125, yw 125), (122, yw 122), (118, yw 118), (115, yw 115), (113, yw 113), (108, yw 108), (103, yw 103), (98, yw 98), (84, yw 84), (79, yw 79)], ct := [(137, yu 137 126 7 yN 0), (136, yu 136 137 7 yN 0), (135, yu 135 116 5 yW 0), (121, yl 121 9 5 50 yW 0)], bk := [(6, yc 6 7), (5, yc 5 7), (4, yc 4 5)] })
 (.fin { lo := 71, lob := 4, iv := [(132, .lit 0), (131, .lit 0), (130, .lit 0), (129, .lit 0), (128, yv 61), (127, yv 60), (126, yv 59), (124, yv 57), (123, yv 56), (120, .lit 0), (119, .lit 0), (117, .lit 0), (116, .lit 0), (114, .lit 0), (112, .lit 0), (111, .lit 0), (110, .lit 0), (109, .lit 0), (107, .lit 0), (106, .lit 0), (105, .lit 0), (104, .lit 0), (102, .lit 0), (101, .lit 0), (100, .lit 0), (99, .lit 0), (97, .lit 0), (96, .lit 0), (95, .lit 0), (94, .lit 0), (93, .lit 0), (92, .lit 0), (91, .lit 0), (90, .lit 0), (89, .lit 0), (88, .lit 0), (87, .lit 0), (86, .lit 0), (85, .lit 0), (83, .lit 0), (82, .lit 0), (81, .lit 0), (80, .lit 0), (78, .lit 0), (77, .lit 0), (76, .lit 0), (75, .lit 0), (74, .lit 0), (73, .lit 0), (72, .lit 0), (71, .lit 0)], bv := [(134, .lit true), (133, .lit false), (125, yw 58), (122, yw 55), (118, .lit true), (115, .lit true), (113, .lit false), (108, .lit false), (103, .lit false), (98, .lit false), (84, .lit false), (79, .lit false)], ct := [(137, yu 70 59 7 yN 0), (121, yl 54 9 5 50 yW 0)], bk := [(6, yc 3 7)], nb := [5, 4, 5, 4] })
theorem noted_run : exec tab notedE 8000 [] (cfg0 notedCon.f notedCon.nv [] notedCon.gl notedCon.hp notedCon.args) = notedOut := by kernel_rfl
def notedPost (ρ : Env) : Prop := OkR ρ 71 ∧ rsRd ρ 0 71 = (rsRd ρ 0 4).noted
theorem noted_sat (ρ : Env) (hpre : sPre ρ.num) : Sat notedPost sSem2 [] ρ notedOut := by
 replace hpre : sPre ρ := hpre
 obtain ⟨⟨o1, o2, o3⟩, hs⟩ := hpre
 unfold notedOut
 have hl : ((rsRd ρ 0 4).notes.length : Int) = ρ.iv 59 := by
  have := o3.2.1
  show ((ntRow ρ 70 (ρ.iv 59)).length : Int) = _
  rw [ntRow_len]
  exact Int.toNat_of_nonneg this
 refine Sat.ob (nilOb o3) (Sat.ob (decide_eq_true o3.2.1) (Sat.br (fun c => ?_) (fun c => ?_)))
 ·simp only [Da] at c
  have hm : (rsRd ρ 0 4).noted = (rsRd ρ 0 4).scan := if_pos (by rw [hl]; exact c)
  refine r_call (c := scanCon) rfl (rsRd ρ 0 4) (rsRd ρ 0 4).scan (by decide) (by decide) (st4 rfl rfl rfl rfl) ⟨⟨o1, o2, o3⟩, hs⟩ (RS.ext' rfl rfl rfl rfl rfl rfl rW1 rD1 rfl rfl rfl rfl rH1 rfl rN1 rfl rfl) (fun e hq hr => ⟨hq.1, by rw [← hr]; exact hq.2⟩) (fun q => (OkR q 71) ∧ rsRd q 0 71 = (rsRd q 0 4).noted) (fun e h1 h2 => ⟨h1, h2.trans hm.symm⟩) fun q hq => ?_
  obtain ⟨⟨o1, o2, o3⟩, hm⟩ := hq
  exact Sat.fin ⟨⟨(by first | exact o1 | exact o2 | exact o3 | exact okNil rfl rfl | assumption), (by first | exact o2 | exact ⟨okNil rfl rfl, Int.le_refl 0, .inl rfl⟩ | assumption), (by first | exact o1 | exact o2 | exact o3 | exact okNil rfl rfl | assumption)⟩, Eq.trans (b := (rsRd q 0 71)) (RS.ext' rfl rfl rfl rfl rfl rfl rW1 rD1 rfl rfl rfl rfl rH1 rfl rN1 rfl rfl) (Eq.symm (hm.symm))⟩
 ·simp only [Da] at c
  have hm : (rsRd ρ 0 4).noted = (rsRd ρ 0 4).done := if_neg (by rw [hl]; show ¬ ρ.iv 59 ≥ ρ.iv 3; omega)
  exact Sat.fin ⟨⟨(by first | exact o1 | exact o2 | exact o3 | exact okNil rfl rfl | assumption), (by first | exact o2 | exact ⟨okNil rfl rfl, Int.le_refl 0, .inl rfl⟩ | assumption), (by first | exact o1 | exact o2 | exact o3 | exact okNil rfl rfl | assumption)⟩, Eq.trans (b := (rsRd ρ 0 4).done) (RS.ext' rfl rfl rfl rfl rfl rfl rW1 rD1 rfl rfl rfl rfl rH1 rfl rN1 rfl rfl) (Eq.symm (hm))⟩
theorem noted_con : ConOK Tryd.prog notedCon sPre notedPost :=
 con_ok tabOK (E := notedE) (cs := sSem2) rfl sSem2_ok schedOK rfl noted_run (by kernel_rfl) (fun ρ _ p hp => by cases hp) noted_sat
def nSem : CSem := [(noteCon, notePre, notePost), (notedCon, sPre, notedPost)]
theorem nSem_ok : ∀ k pre post, (k, pre, post) ∈ nSem → conWf k = true ∧ ConOK Tryd.prog k pre post := by
 intro k pre post h
 simp only [nSem, List.mem_cons, List.not_mem_nil, or_false, Prod.mk.injEq] at h
 rcases h with ⟨rfl, rfl, rfl⟩ | ⟨rfl, rfl, rfl⟩
 ·exact ⟨by kernel_rfl, note_con⟩
 ·exact ⟨by kernel_rfl, noted_con⟩
/-! ### retire -/
noncomputable def retireE : Ex := { sched := sched, loops := [], cons := [noteCon, notedCon], fin := retireCon }
def retireOut : Out :=
 .br (.ieq (.var 0) (.lit 2))
 (.call 0 { lo := 0, lob := 0, iv := [(70, yv 70), (65, yv 65), (64, yv 64), (63, yv 63), (62, yv 62), (61, yv 61), (60, yv 60), (59, yv 59), (57, yv 57), (56, yv 56), (3, yv 3), (2, yv 2), (1, yv 1), (0, yv 0), (53, yv 53), (52, yv 52), (69, yv 69), (50, yv 50), (49, yv 49), (47, yv 47), (45, yv 45), (44, yv 44), (43, yv 43), (42, yv 42), (40, yv 40), (39, yv 39), (38, yv 38), (37, yv 37), (35, yv 35), (34, yv 34), (33, yv 33), (32, yv 32), (30, yv 30), (29, yv 29), (28, yv 28), (27, yv 27), (26, yv 26), (25, yv 25), (24, yv 24), (23, yv 23), (22, yv 22), (21, yv 21), (20, yv 20), (19, yv 19), (18, yv 18), (16, yv 16), (15, yv 15), (14, yv 14), (13, yv 13), (11, yv 11), (10, yv 10), (9, yv 9), (8, yv 8), (7, yv 7), (6, yv 6), (5, yv 5), (4, yv 4), (72, .lit 0), (71, .lit 0)], bv := [(67, yw 67), (66, yw 66), (58, yw 58), (55, yw 55), (51, yw 51), (48, yw 48), (46, yw 46), (41, yw 41), (36, yw 36), (31, yw 31), (17, yw 17), (12, yw 12)], ct := [(70, yu 70 59 7 yN 0), (69, yu 69 70 7 yN 0), (68, yu 68 49 5 yW 0), (54, yl 54 9 5 50 yW 0)], bk := [(3, yc 3 7), (2, yc 2 7), (1, yc 1 5), (0, yb 0)] } 71 <|
  .call 1 { lo := 0, lob := 0, iv := [(70, yv 137), (65, yv 132), (64, yv 131), (63, yv 130), (62, yv 129), (61, yv 128), (60, yv 127), (59, yv 126), (57, yv 124), (56, yv 123), (3, yv 3), (2, yv 2), (1, yv 1), (0, yv 0), (53, yv 120), (52, yv 119), (69, yv 136), (50, yv 117), (49, yv 116), (47, yv 114), (45, yv 112), (44, yv 111), (43, yv 110), (42, yv 109), (40, yv 107), (39, yv 106), (38, yv 105), (37, yv 104), (35, yv 102), (34, yv 101), (33, yv 100), (32, yv 99), (30, yv 97), (29, yv 96), (28, yv 95), (27, yv 94), (26, yv 93), (25, yv 92), (24, yv 91), (23, yv 90), (22, yv 89), (21, yv 88), (20, yv 87), (19, yv 86), (18, yv 85), (16, yv 83), (15, yv 82), (14, yv 81), (13, yv 80), (11, yv 78), (10, yv 77), (9, yv 76), (8, yv 75), (7, yv 74), (6, yv 73), (5, yv 72), (4, yv 71)], bv := [(67, yw 134), (66, yw 133), (58, yw 125), (55, yw 122), (51, yw 118), (48, yw 115), (46, yw 113), (41, yw 108), (36, yw 103), (31, yw 98), (17, yw 84), (12, yw 79)], ct := [(70, yu 137 126 7 yN 0), (69, yu 136 137 7 yN 0), (68, yu 135 116 5 yW 0), (54, yl 121 9 5 50 yW 0)], bk := [(3, yc 6 7), (2, yc 5 7), (1, yc 4 5), (0, yb 0)] } 138 <|
  .fin { lo := 71, lob := 4, iv := [(137, yv 204), (132, yv 199), (131, yv 198), (130, yv 197), (129, yv 196), (128, yv 195), (127, yv 194), (126, yv 193), (124, yv 191), (123, yv 190), (120, yv 187), (119, yv 186), (136, yv 203), (117, yv 184), (116, yv 183), (114, yv 181), (112, yv 179), (111, yv 178), (110, yv 177), (109, yv 176), (107, yv 174), (106, yv 173), (105, yv 172), (104, yv 171), (102, yv 169), (101, yv 168), (100, yv 167), (99, yv 166), (97, yv 164), (96, yv 163), (95, yv 162), (94, yv 161), (93, yv 160), (92, yv 159), (91, yv 158), (90, yv 157), (89, yv 156), (88, yv 155), (87, yv 154), (86, yv 153), (85, yv 152), (83, yv 150), (82, yv 149), (81, yv 148), (80, yv 147), (78, yv 145), (77, yv 144), (76, yv 143), (75, yv 142), (74, yv 141), (73, yv 140), (72, yv 139), (71, yv 138)], bv := [(134, yw 201), (133, yw 200), (125, yw 192), (122, yw 189), (118, yw 185), (115, yw 182), (113, yw 180), (108, yw 175), (103, yw 170), (98, yw 165), (84, yw 151), (79, yw 146)], ct := [(137, yu 204 193 7 yN 0), (136, yu 203 204 7 yN 0), (135, yu 202 183 5 yW 0), (121, yl 188 9 5 50 yW 0)], bk := [(6, yc 9 7), (5, yc 8 7), (4, yc 7 5)] })
 (.br (.ieq (.var 0) (.lit 4))
  (.fin { lo := 71, lob := 4, iv := [(137, yv 70), (132, yv 65), (131, yv 64), (130, yv 63), (129, yv 62), (128, yv 61), (127, yv 60), (126, yv 59), (124, yv 57), (123, yv 56), (120, yv 53), (119, yv 52), (136, yv 69), (117, yv 50), (116, yv 49), (114, yv 47), (112, yv 45), (111, yv 44), (110, yv 43), (109, yv 42), (107, yv 40), (106, yv 39), (105, yv 38), (104, yv 37), (102, .lit 0), (101, .lit 0), (100, .lit 0), (99, .lit 0), (97, .lit 0), (96, .lit 0), (95, .lit 0), (94, .lit 0), (93, .lit 24), (92, .lit 0), (91, .lit 0), (90, .lit 1), (89, .lit 10), (88, yv 21), (87, yv 20), (86, yv 19), (85, yv 18), (83, yv 16), (82, yv 15), (81, yv 14), (80, yv 13), (78, yv 11), (77, yv 10), (76, yv 9), (75, yv 8), (74, yv 7), (73, yv 6), (72, yv 5), (71, yv 4)], bv := [(134, yw 67), (133, yw 66), (125, yw 58), (122, yw 55), (118, yw 51), (115, yw 48), (113, yw 46), (108, yw 41), (103, .lit false), (98, .lit false), (84, yw 17), (79, yw 12)], ct := [(137, yu 70 59 7 yN 0), (136, yu 69 70 7 yN 0), (135, yu 68 49 5 yW 0), (121, yl 54 9 5 50 yW 0)], bk := [(6, yc 3 7), (5, yc 2 7), (4, yc 1 5)] })
  (.br (.ieq (.var 0) (.lit 3))
   (.fin { lo := 71, lob := 4, iv := [(137, yv 70), (132, yv 65), (131, yv 64), (130, yv 63), (129, yv 62), (128, yv 61), (127, yv 60), (126, yv 59), (124, yv 57), (123, yv 56), (120, yv 53), (119, yv 52), (136, yv 69), (117, yv 50), (116, yv 49), (114, yv 47), (112, yv 45), (111, yv 44), (110, yv 43), (109, yv 42), (107, yv 40), (106, yv 39), (105, yv 38), (104, yv 37), (102, .lit 0), (101, .lit 0), (100, .lit 0), (99, .lit 0), (97, .lit 0), (96, .lit 0), (95, .lit 0), (94, .lit 0), (93, .lit 9), (92, yv 9), (91, yv 8), (90, .lit 1), (89, .lit 9), (88, yv 21), (87, yv 20), (86, yv 19), (85, yv 18), (83, yv 16), (82, yv 15), (81, yv 14), (80, yv 13), (78, yv 11), (77, yv 10), (76, yv 9), (75, yv 8), (74, yv 7), (73, yv 6), (72, yv 5), (71, yv 4)], bv := [(134, yw 67), (133, yw 66), (125, yw 58), (122, yw 55), (118, yw 51), (115, yw 48), (113, yw 46), (108, yw 41), (103, .lit false), (98, .lit false), (84, yw 17), (79, yw 12)], ct := [(137, yu 70 59 7 yN 0), (136, yu 69 70 7 yN 0), (135, yu 68 49 5 yW 0), (121, yl 54 9 5 50 yW 0)], bk := [(6, yc 3 7), (5, yc 2 7), (4, yc 1 5)] })
   (.br (.ieq (.var 0) (.lit 5))
    (.fin { lo := 71, lob := 4, iv := [(137, yv 70), (132, yv 65), (131, yv 64), (130, yv 63), (129, yv 62), (128, yv 61), (127, yv 60), (126, yv 59), (124, yv 57), (123, yv 56), (120, yv 53), (119, yv 52), (136, yv 69), (117, yv 50), (116, yv 49), (114, yv 47), (112, yv 45), (111, yv 44), (110, yv 43), (109, yv 42), (107, yv 40), (106, yv 39), (105, yv 38), (104, yv 37), (102, .lit 0), (101, .lit 0), (100, .lit 0), (99, .lit 0), (97, .lit 0), (96, .lit 0), (95, .lit 0), (94, .lit 0), (93, .lit 9), (92, yv 9), (91, yv 8), (90, .lit 1), (89, .lit 9), (88, yv 21), (87, yv 20), (86, yv 19), (85, yv 18), (83, yv 16), (82, yv 15), (81, yv 14), (80, yv 13), (78, yv 11), (77, yv 10), (76, yv 9), (75, yv 8), (74, yv 7), (73, yv 6), (72, yv 5), (71, yv 4)], bv := [(134, yw 67), (133, yw 66), (125, yw 58), (122, yw 55), (118, yw 51), (115, yw 48), (113, yw 46), (108, yw 41), (103, .lit false), (98, .lit false), (84, yw 17), (79, yw 12)], ct := [(137, yu 70 59 7 yN 0), (136, yu 69 70 7 yN 0), (135, yu 68 49 5 yW 0), (121, yl 54 9 5 50 yW 0)], bk := [(6, yc 3 7), (5, yc 2 7), (4, yc 1 5)] })
    (.fin { lo := 71, lob := 4, iv := [(132, .lit 0), (131, .lit 0), (130, .lit 0), (129, .lit 0), (128, yv 61), (127, yv 60), (126, yv 59), (124, yv 57), (123, yv 56), (120, .lit 0), (119, .lit 0), (117, .lit 0), (116, .lit 0), (114, .lit 0), (112, .lit 0), (111, .lit 0), (110, .lit 0), (109, .lit 0), (107, .lit 0), (106, .lit 0), (105, .lit 0), (104, .lit 0), (102, .lit 0), (101, .lit 0), (100, .lit 0), (99, .lit 0), (97, .lit 0), (96, .lit 0), (95, .lit 0), (94, .lit 0), (93, .lit 0), (92, .lit 0), (91, .lit 0), (90, .lit 0), (89, .lit 0), (88, .lit 0), (87, .lit 0), (86, .lit 0), (85, .lit 0), (83, .lit 0), (82, .lit 0), (81, .lit 0), (80, .lit 0), (78, .lit 0), (77, .lit 0), (76, .lit 0), (75, .lit 0), (74, .lit 0), (73, .lit 0), (72, .lit 0), (71, .lit 0)], bv := [(134, .lit true), (133, .lit false), (125, yw 58), (122, yw 55), (118, .lit true), (115, .lit true), (113, .lit false), (108, .lit false), (103, .lit false), (98, .lit false), (84, .lit false), (79, .lit false)], ct := [(137, yu 70 59 7 yN 0), (121, yl 54 9 5 50 yW 0)], bk := [(6, yc 3 7)], nb := [5, 4, 5, 4] }))))
theorem retire_run : exec tab retireE 8000 [] (cfg0 retireCon.f retireCon.nv [] retireCon.gl retireCon.hp retireCon.args) = retireOut := by kernel_rfl
def retirePre (ρ : Env) : Prop := OkR ρ 4 ∧ StR ρ ∧ FewN ρ 4
def retirePost (ρ : Env) : Prop := OkR ρ 71 ∧ rsRd ρ 0 71 = (rsRd ρ 0 4).retire
theorem retire_sat (ρ : Env) (hpre : retirePre ρ.num) : Sat retirePost nSem [] ρ retireOut := by
 replace hpre : retirePre ρ := hpre
 obtain ⟨⟨o1, o2, o3⟩, hs, hf⟩ := hpre
 unfold retireOut
 refine Sat.br (fun c => ?_) (fun c => ?_)
 ·simp only [Da] at c
  have hm : (rsRd ρ 0 4).retire = ((rsRd ρ 0 4).note 0 0).noted := if_pos c
  refine r_call (c := noteCon) rfl (rsRd ρ 0 4) ((rsRd ρ 0 4).note 0 0) (by decide) (by decide) (st4 rfl rfl rfl rfl) ⟨⟨o1, o2, o3⟩, hf⟩ (RS.ext' rfl rfl rfl rfl rfl rfl rW1 rD1 rfl rfl rfl rfl rH1 rfl rN1 rfl rfl) (fun e hq hr => ⟨hq.1, by rw [← hr]; exact hq.2⟩) (fun q => (OkR q 71) ∧ StR q ∧ rsRd q 0 71 = (rsRd q 0 4).note 0 0 ∧ (rsRd q 0 4).retire = ((rsRd q 0 4).note 0 0).noted) (fun e h1 h2 => ⟨h1, hs, h2, hm⟩) fun q hq => ?_
  obtain ⟨⟨o1, o2, o3⟩, hs, hn, hm⟩ := hq
  refine r_call (c := notedCon) rfl (rsRd q 0 71) (rsRd q 0 71).noted (by decide) (by decide) (st4 rfl rfl rfl rfl) ⟨⟨o1, o2, o3⟩, hs⟩ (RS.ext' rfl rfl rfl rfl rfl rfl rW1 rD1 rfl rfl rfl rfl rH1 rfl rN1 rfl rfl) (fun e hq hr => ⟨hq.1, by rw [← hr]; exact hq.2⟩) (fun u => (OkR u 138) ∧ rsRd u 0 138 = (rsRd u 0 4).retire) (fun e h1 h2 => ⟨h1, h2.trans ((congrArg RS.noted hn).trans hm.symm)⟩) fun u hu => ?_
  obtain ⟨⟨o1, o2, o3⟩, hm⟩ := hu
  exact Sat.fin ⟨⟨(by first | exact o1 | exact o2 | exact o3 | exact okNil rfl rfl | assumption), (by first | exact o2 | exact ⟨okNil rfl rfl, Int.le_refl 0, .inl rfl⟩ | assumption), (by first | exact o1 | exact o2 | exact o3 | exact okNil rfl rfl | assumption)⟩, Eq.trans (b := (rsRd u 0 138)) (RS.ext' rfl rfl rfl rfl rfl rfl rW1 rD1 rfl rfl rfl rfl rH1 rfl rN1 rfl rfl) (Eq.symm (hm.symm))⟩
 ·simp only [Da] at c
  refine Sat.br (fun c2 => ?_) (fun c2 => ?_)
  ·simp only [Da] at c2
   have hm : (rsRd ρ 0 4).retire = (rsRd ρ 0 4).era 10 := (if_neg c).trans (if_pos c2)
   exact Sat.fin ⟨⟨(by first | exact o1 | exact o2 | exact o3 | exact okNil rfl rfl | assumption), (by first | exact o2 | exact ⟨okNil rfl rfl, Int.le_refl 0, .inl rfl⟩ | assumption), (by first | exact o1 | exact o2 | exact o3 | exact okNil rfl rfl | assumption)⟩, Eq.trans (b := (rsRd ρ 0 4).era 10) (RS.ext' rfl rfl rfl rfl rfl rfl rW1 rD1 rfl rfl rfl rfl rH1 rfl rN1 rfl rfl) (Eq.symm (hm))⟩
  ·simp only [Da] at c2
   refine Sat.br (fun c3 => ?_) (fun c3 => ?_)
   ·simp only [Da] at c3
    have hm : (rsRd ρ 0 4).retire = (rsRd ρ 0 4).load 9 (ρ.iv 8) (ρ.iv 9) 9 := (if_neg c).trans ((if_neg c2).trans (if_pos (.inl c3)))
    exact Sat.fin ⟨⟨(by first | exact o1 | exact o2 | exact o3 | exact okNil rfl rfl | assumption), (by first | exact o2 | exact ⟨okNil rfl rfl, Int.le_refl 0, .inl rfl⟩ | assumption), (by first | exact o1 | exact o2 | exact o3 | exact okNil rfl rfl | assumption)⟩, Eq.trans (b := (rsRd ρ 0 4).load 9 (ρ.iv 8) (ρ.iv 9) 9) (RS.ext' rfl rfl rfl rfl rfl rfl rW1 rD1 rfl rfl rfl rfl rH1 rfl rN1 rfl rfl) (Eq.symm (hm))⟩
   ·simp only [Da] at c3
    refine Sat.br (fun c4 => ?_) (fun c4 => ?_)
    ·simp only [Da] at c4
     have hm : (rsRd ρ 0 4).retire = (rsRd ρ 0 4).load 9 (ρ.iv 8) (ρ.iv 9) 9 := (if_neg c).trans ((if_neg c2).trans (if_pos (.inr c4)))
     exact Sat.fin ⟨⟨(by first | exact o1 | exact o2 | exact o3 | exact okNil rfl rfl | assumption), (by first | exact o2 | exact ⟨okNil rfl rfl, Int.le_refl 0, .inl rfl⟩ | assumption), (by first | exact o1 | exact o2 | exact o3 | exact okNil rfl rfl | assumption)⟩, Eq.trans (b := (rsRd ρ 0 4).load 9 (ρ.iv 8) (ρ.iv 9) 9) (RS.ext' rfl rfl rfl rfl rfl rfl rW1 rD1 rfl rfl rfl rfl rH1 rfl rN1 rfl rfl) (Eq.symm (hm))⟩
    ·simp only [Da] at c4
     have hm : (rsRd ρ 0 4).retire = (rsRd ρ 0 4).done := (if_neg c).trans ((if_neg c2).trans (if_neg (fun h => h.elim c3 c4)))
     exact Sat.fin ⟨⟨(by first | exact o1 | exact o2 | exact o3 | exact okNil rfl rfl | assumption), (by first | exact o2 | exact ⟨okNil rfl rfl, Int.le_refl 0, .inl rfl⟩ | assumption), (by first | exact o1 | exact o2 | exact o3 | exact okNil rfl rfl | assumption)⟩, Eq.trans (b := (rsRd ρ 0 4).done) (RS.ext' rfl rfl rfl rfl rfl rfl rW1 rD1 rfl rfl rfl rfl rH1 rfl rN1 rfl rfl) (Eq.symm (hm))⟩
theorem retire_con : ConOK Tryd.prog retireCon retirePre retirePost :=
 con_ok tabOK (E := retireE) (cs := nSem) rfl nSem_ok schedOK rfl retire_run (by kernel_rfl) (fun ρ _ p hp => by cases hp) retire_sat
end Go.Proofs.YthomdlajobnmnaaDoor

set_option linter.unusedSimpArgs false
set_option linter.unusedVariables false
namespace Go.Proofs.YthomdlajobnmnaaDoor
open Go.Rex
def SmW (ρ : Env) (v : Nat) : Prop := (-1000000000000 ≤ ρ.iv (v + 2) ∧ ρ.iv (v + 2) ≤ 1000000000000) ∧ -1000000000000 ≤ ρ.iv (v + 3) ∧ ρ.iv (v + 3) ≤ 1000000000000
noncomputable def tRetE : Ex := { sched := sched, loops := [], cons := [noteCon, notedCon], fin := tRetCon }
def tRetOut : Out :=
 .br (.ieq (.var 22) (.lit 9))
 (.fin { lo := 77, lob := 4, iv := [(143, yv 70), (138, yv 65), (137, yv 64), (136, yv 63), (135, yv 62), (134, yv 61), (133, yv 60), (132, yv 59), (130, yv 57), (129, yv 56), (126, yv 53), (125, yv 52), (142, yv 69), (123, yv 50), (122, yv 49), (120, yv 47), (118, yv 45), (117, yv 44), (116, yv 43), (115, yv 42), (113, yv 74), (112, yv 73), (111, yv 72), (110, yv 71), (108, .lit 0), (107, .lit 0), (106, .lit 0), (105, .lit 0), (103, .lit 0), (102, .lit 0), (101, .lit 0), (100, .lit 0), (99, .lit 24), (98, .lit 0), (97, .lit 0), (96, .lit 1), (95, .lit 10), (94, yv 21), (93, yv 20), (92, yv 19), (91, yv 18), (89, yv 16), (88, yv 15), (87, yv 14), (86, yv 13), (84, yv 11), (83, yv 10), (82, yv 9), (81, yv 8), (80, yv 7), (79, yv 6), (78, yv 5), (77, yv 4)], bv := [(140, yw 67), (139, yw 66), (131, yw 58), (128, yw 55), (124, yw 51), (121, yw 48), (119, yw 46), (114, yw 75), (109, .lit false), (104, .lit false), (90, yw 17), (85, yw 12)], ct := [(143, yu 70 59 7 yN 0), (142, yu 69 70 7 yN 0), (141, yu 68 49 5 yW 0), (127, yl 54 9 5 50 yW 0)], bk := [(6, yc 3 7), (5, yc 2 7), (4, yc 1 5)] })
 (.br (.ieq (.var 22) (.lit 10))
  (.call 0 { lo := 0, lob := 0, iv := [(70, yv 70), (65, yv 65), (64, yv 64), (63, yv 63), (62, yv 62), (61, yv 61), (60, yv 60), (59, yv 59), (57, yv 57), (56, yv 56), (3, yv 3), (2, yv 2), (1, yv 1), (0, yv 0), (53, yv 53), (52, yv 52), (69, yv 69), (50, yv 50), (49, yv 49), (47, yv 47), (45, yv 74), (44, yv 73), (43, yv 72), (42, yv 71), (40, yv 40), (39, yv 39), (38, yv 38), (37, yv 37), (35, yv 35), (34, yv 34), (33, yv 33), (32, yv 32), (30, yv 30), (29, yv 29), (28, yv 28), (27, yv 27), (26, yv 26), (25, yv 25), (24, yv 24), (23, yv 23), (22, yv 22), (21, yv 21), (20, yv 20), (19, yv 19), (18, yv 18), (16, yv 16), (15, yv 15), (14, yv 14), (13, yv 13), (11, yv 11), (10, yv 10), (9, yv 9), (8, yv 8), (7, yv 7), (6, yv 6), (5, yv 5), (4, yv 4), (72, yv 74), (71, yv 40)], bv := [(67, yw 67), (66, yw 66), (58, yw 58), (55, yw 55), (51, yw 51), (48, yw 48), (46, yw 75), (41, yw 41), (36, yw 36), (31, yw 31), (17, yw 17), (12, yw 12)], ct := [(70, yu 70 59 7 yN 0), (69, yu 69 70 7 yN 0), (68, yu 68 49 5 yW 0), (54, yl 54 9 5 50 yW 0)], bk := [(3, yc 3 7), (2, yc 2 7), (1, yc 1 5), (0, yb 0)] } 77 <|
   .br (.or (.ieq (.var 0) (.lit 3)) (.ieq (.var 0) (.lit 5)))
   (.ob (.inr .i64 (.add (.var 117) (.lit 1))) <|
    .ob (.inr .i64 (.add (.var 118) (.lit 1))) <|
    .fin { lo := 77, lob := 4, iv := [(143, yv 143), (138, yv 138), (137, yv 137), (136, yv 136), (135, yv 135), (134, yv 134), (133, yv 133), (132, yv 132), (130, yv 130), (129, yv 129), (126, yv 126), (125, yv 125), (142, yv 142), (123, yv 123), (122, yv 122), (120, yv 120), (118, yv 118), (117, yv 117), (116, yv 116), (115, yv 115), (113, yv 113), (112, yv 112), (111, yv 111), (110, yv 110), (108, .add (.var 118) (.lit 1)), (107, .add (.var 117) (.lit 1)), (106, .lit 0), (105, .lit 0), (103, yv 118), (102, yv 117), (101, yv 116), (100, yv 115), (99, .lit 24), (98, .lit 0), (97, .lit 0), (96, .lit 3), (95, .lit 11), (94, yv 94), (93, yv 93), (92, yv 92), (91, yv 91), (89, yv 89), (88, yv 88), (87, yv 87), (86, yv 86), (84, yv 84), (83, yv 83), (82, yv 82), (81, yv 81), (80, yv 80), (79, yv 79), (78, yv 78), (77, yv 77)], bv := [(140, yw 140), (139, yw 139), (131, yw 131), (128, yw 128), (124, yw 124), (121, yw 121), (119, yw 119), (114, yw 114), (109, .lit false), (104, yw 119), (90, yw 90), (85, yw 85)], ct := [(143, yu 143 132 7 yN 0), (142, yu 142 143 7 yN 0), (141, yu 141 122 5 yW 0), (127, yl 127 9 5 50 yW 0)], bk := [(6, yc 7 7), (5, yc 6 7), (4, yc 5 5)] })
   (.call 1 { lo := 0, lob := 0, iv := [(70, yv 143), (65, yv 138), (64, yv 137), (63, yv 136), (62, yv 135), (61, yv 134), (60, yv 133), (59, yv 132), (57, yv 130), (56, yv 129), (3, yv 3), (2, yv 2), (1, yv 1), (0, yv 0), (53, yv 126), (52, yv 125), (69, yv 142), (50, yv 123), (49, yv 122), (47, yv 120), (45, yv 118), (44, yv 117), (43, yv 116), (42, yv 115), (40, yv 113), (39, yv 112), (38, yv 111), (37, yv 110), (35, yv 108), (34, yv 107), (33, yv 106), (32, yv 105), (30, yv 103), (29, yv 102), (28, yv 101), (27, yv 100), (26, yv 99), (25, yv 98), (24, yv 97), (23, yv 96), (22, yv 95), (21, yv 94), (20, yv 93), (19, yv 92), (18, yv 91), (16, yv 89), (15, yv 88), (14, yv 87), (13, yv 86), (11, yv 84), (10, yv 83), (9, yv 82), (8, yv 81), (7, yv 80), (6, yv 79), (5, yv 78), (4, yv 77)], bv := [(67, yw 140), (66, yw 139), (58, yw 131), (55, yw 128), (51, yw 124), (48, yw 121), (46, yw 119), (41, yw 114), (36, yw 109), (31, yw 104), (17, yw 90), (12, yw 85)], ct := [(70, yu 143 132 7 yN 0), (69, yu 142 143 7 yN 0), (68, yu 141 122 5 yW 0), (54, yl 127 9 5 50 yW 0)], bk := [(3, yc 7 7), (2, yc 6 7), (1, yc 5 5), (0, yb 0)] } 144 <|
    .fin { lo := 77, lob := 4, iv := [(143, yv 210), (138, yv 205), (137, yv 204), (136, yv 203), (135, yv 202), (134, yv 201), (133, yv 200), (132, yv 199), (130, yv 197), (129, yv 196), (126, yv 193), (125, yv 192), (142, yv 209), (123, yv 190), (122, yv 189), (120, yv 187), (118, yv 185), (117, yv 184), (116, yv 183), (115, yv 182), (113, yv 180), (112, yv 179), (111, yv 178), (110, yv 177), (108, yv 175), (107, yv 174), (106, yv 173), (105, yv 172), (103, yv 170), (102, yv 169), (101, yv 168), (100, yv 167), (99, yv 166), (98, yv 165), (97, yv 164), (96, yv 163), (95, yv 162), (94, yv 161), (93, yv 160), (92, yv 159), (91, yv 158), (89, yv 156), (88, yv 155), (87, yv 154), (86, yv 153), (84, yv 151), (83, yv 150), (82, yv 149), (81, yv 148), (80, yv 147), (79, yv 146), (78, yv 145), (77, yv 144)], bv := [(140, yw 207), (139, yw 206), (131, yw 198), (128, yw 195), (124, yw 191), (121, yw 188), (119, yw 186), (114, yw 181), (109, yw 176), (104, yw 171), (90, yw 157), (85, yw 152)], ct := [(143, yu 210 199 7 yN 0), (142, yu 209 210 7 yN 0), (141, yu 208 189 5 yW 0), (127, yl 194 9 5 50 yW 0)], bk := [(6, yc 10 7), (5, yc 9 7), (4, yc 8 5)] }))
  (.br (.ieq (.var 22) (.lit 11))
   (.call 1 { lo := 0, lob := 0, iv := [(70, yv 70), (65, yv 65), (64, yv 64), (63, yv 63), (62, yv 62), (61, yv 61), (60, yv 60), (59, yv 59), (57, yv 57), (56, yv 56), (3, yv 3), (2, yv 2), (1, yv 1), (0, yv 0), (53, yv 53), (52, yv 52), (69, yv 69), (50, yv 50), (49, yv 49), (47, yv 47), (45, yv 45), (44, yv 44), (43, yv 43), (42, yv 42), (40, yv 40), (39, yv 39), (38, yv 38), (37, yv 37), (35, yv 35), (34, yv 34), (33, yv 33), (32, yv 32), (30, yv 30), (29, yv 29), (28, yv 28), (27, yv 27), (26, yv 26), (25, yv 25), (24, yv 24), (23, yv 23), (22, yv 22), (21, yv 21), (20, yv 20), (19, yv 19), (18, yv 18), (16, yv 16), (15, yv 15), (14, yv 14), (13, yv 13), (11, yv 11), (10, yv 10), (9, yv 9), (8, yv 8), (7, yv 7), (6, yv 6), (5, yv 5), (4, yv 4)], bv := [(67, yw 67), (66, yw 66), (58, yw 58), (55, yw 55), (51, yw 51), (48, yw 48), (46, yw 46), (41, yw 41), (36, yw 36), (31, yw 31), (17, yw 17), (12, yw 12)], ct := [(70, yu 70 59 7 yN 0), (69, yu 69 70 7 yN 0), (68, yu 68 49 5 yW 0), (54, yl 54 9 5 50 yW 0)], bk := [(3, yc 3 7), (2, yc 2 7), (1, yc 1 5), (0, yb 0)] } 77 <|
    .fin { lo := 77, lob := 4, iv := [(143, yv 143), (138, yv 138), (137, yv 137), (136, yv 136), (135, yv 135), (134, yv 134), (133, yv 133), (132, yv 132), (130, yv 130), (129, yv 129), (126, yv 126), (125, yv 125), (142, yv 142), (123, yv 123), (122, yv 122), (120, yv 120), (118, yv 118), (117, yv 117), (116, yv 116), (115, yv 115), (113, yv 113), (112, yv 112), (111, yv 111), (110, yv 110), (108, yv 108), (107, yv 107), (106, yv 106), (105, yv 105), (103, yv 103), (102, yv 102), (101, yv 101), (100, yv 100), (99, yv 99), (98, yv 98), (97, yv 97), (96, yv 96), (95, yv 95), (94, yv 94), (93, yv 93), (92, yv 92), (91, yv 91), (89, yv 89), (88, yv 88), (87, yv 87), (86, yv 86), (84, yv 84), (83, yv 83), (82, yv 82), (81, yv 81), (80, yv 80), (79, yv 79), (78, yv 78), (77, yv 77)], bv := [(140, yw 140), (139, yw 139), (131, yw 131), (128, yw 128), (124, yw 124), (121, yw 121), (119, yw 119), (114, yw 114), (109, yw 109), (104, yw 104), (90, yw 90), (85, yw 85)], ct := [(143, yu 143 132 7 yN 0), (142, yu 142 143 7 yN 0), (141, yu 141 122 5 yW 0), (127, yl 127 9 5 50 yW 0)], bk := [(6, yc 7 7), (5, yc 6 7), (4, yc 5 5)] })
   (.fin { lo := 77, lob := 4, iv := [(143, yv 70), (138, yv 65), (137, yv 64), (136, yv 63), (135, yv 62), (134, yv 61), (133, yv 60), (132, yv 59), (130, yv 57), (129, yv 56), (126, yv 53), (125, yv 52), (142, yv 69), (123, yv 50), (122, yv 49), (120, yv 47), (118, yv 45), (117, yv 44), (116, yv 43), (115, yv 42), (113, yv 40), (112, yv 39), (111, yv 38), (110, yv 37), (108, yv 35), (107, yv 34), (106, yv 33), (105, yv 32), (103, yv 30), (102, yv 29), (101, yv 28), (100, yv 27), (99, yv 26), (98, yv 25), (97, yv 24), (96, yv 23), (95, yv 22), (94, yv 21), (93, yv 20), (92, yv 19), (91, yv 18), (89, yv 16), (88, yv 15), (87, yv 14), (86, yv 13), (84, yv 11), (83, yv 10), (82, yv 9), (81, yv 8), (80, yv 7), (79, yv 6), (78, yv 5), (77, yv 4)], bv := [(140, yw 67), (139, yw 66), (131, yw 58), (128, yw 55), (124, yw 51), (121, yw 48), (119, yw 46), (114, yw 41), (109, yw 36), (104, yw 31), (90, yw 17), (85, yw 12)], ct := [(143, yu 70 59 7 yN 0), (142, yu 69 70 7 yN 0), (141, yu 68 49 5 yW 0), (127, yl 54 9 5 50 yW 0)], bk := [(6, yc 3 7), (5, yc 2 7), (4, yc 1 5)] })))
theorem tRet_run : exec tab tRetE 8000 [] (cfg0 tRetCon.f tRetCon.nv [] tRetCon.gl tRetCon.hp tRetCon.args) = tRetOut := by kernel_rfl
def tRetPre (ρ : Env) : Prop := OkR ρ 4 ∧ StR ρ ∧ FewN ρ 4 ∧ SmW ρ 71
def tRetPost (ρ : Env) : Prop := OkR ρ 77 ∧ rsRd ρ 0 77 = (rsRd ρ 0 4).tookRetire (rpRd ρ 71)
theorem tRet_sat (ρ : Env) (hpre : tRetPre ρ.num) : Sat tRetPost nSem [] ρ tRetOut := by
 replace hpre : tRetPre ρ := hpre
 obtain ⟨⟨o1, o2, o3⟩, hs, hf, hw⟩ := hpre
 unfold tRetOut
 refine Sat.br (fun c => ?_) (fun c => ?_)
 ·simp only [Da] at c
  have hm : (rsRd ρ 0 4).tookRetire (rpRd ρ 71) = ({ rsRd ρ 0 4 with word := wdRd ρ 71 } : RS).era 10 := if_pos c
  exact Sat.fin ⟨⟨(by first | exact o1 | exact o2 | exact o3 | exact okNil rfl rfl | assumption), (by first | exact o2 | exact ⟨okNil rfl rfl, Int.le_refl 0, .inl rfl⟩ | assumption), (by first | exact o1 | exact o2 | exact o3 | exact okNil rfl rfl | assumption)⟩, Eq.trans (b := ({ rsRd ρ 0 4 with word := wdRd ρ 71 } : RS).era 10) (RS.ext' rfl rfl rfl rfl rfl rfl rW1 rD1 rfl rfl rfl rfl rH1 rfl rN1 rfl rfl) (Eq.symm (hm))⟩
 ·simp only [Da] at c
  refine Sat.br (fun c2 => ?_) (fun c2 => ?_)
  ·simp only [Da] at c2
   have hm : (rsRd ρ 0 4).tookRetire (rpRd ρ 71) = if (rsRd ρ 0 4).dating then ((({ rsRd ρ 0 4 with clock := wdRd ρ 71 } : RS).note (ρ.iv 40) (ρ.iv 74))).advance 11 else (({ rsRd ρ 0 4 with clock := wdRd ρ 71 } : RS).note (ρ.iv 40) (ρ.iv 74)).noted := (if_neg c).trans (if_pos c2)
   refine r_call (c := noteCon) rfl ({ rsRd ρ 0 4 with clock := wdRd ρ 71 } : RS) (({ rsRd ρ 0 4 with clock := wdRd ρ 71 } : RS).note (ρ.iv 40) (ρ.iv 74)) (by decide) (by decide) (st4 rfl rfl rfl rfl) ⟨⟨o1, o2, o3⟩, hf⟩ (RS.ext' rfl rfl rfl rfl rfl rfl rW1 rD1 rfl rfl rfl rfl rH1 rfl rN1 rfl rfl) (fun e hq hr => ⟨hq.1, by rw [← hr]; exact hq.2⟩) (fun q => (OkR q 77) ∧ StR q ∧ SmW q 71 ∧ rsRd q 0 77 = ({ rsRd q 0 4 with clock := wdRd q 71 } : RS).note (q.iv 40) (q.iv 74) ∧ (rsRd q 0 4).tookRetire (rpRd q 71) = if (rsRd q 0 4).dating then ((({ rsRd q 0 4 with clock := wdRd q 71 } : RS).note (q.iv 40) (q.iv 74))).advance 11 else (({ rsRd q 0 4 with clock := wdRd q 71 } : RS).note (q.iv 40) (q.iv 74)).noted) (fun e h1 h2 => ⟨h1, hs, hw, h2, hm⟩) fun q hq => ?_
   obtain ⟨⟨o1, o2, o3⟩, hs, hw, hn, hm⟩ := hq
   rw [← hn] at hm
   have hc : wdRd q 115 = wdRd q 71 := congrArg RS.clock hn
   have h3 : q.iv 117 = q.iv 73 := congrArg Wd.tag hc
   have h4 : q.iv 118 = q.iv 74 := congrArg Wd.num hc
   obtain ⟨⟨w1, w2⟩, w3, w4⟩ := hw
   simp only [Nat.reduceAdd] at w1 w2 w3 w4
   refine Sat.br (fun c3 => ?_) (fun c3 => ?_)
   ·simp only [Da] at c3
    rw [if_pos (show (rsRd q 0 4).dating from c3)] at hm
    refine Sat.ob (by simp only [Da]; omega) (Sat.ob (by simp only [Da]; omega) (Sat.fin ⟨⟨(by first | exact o1 | exact o2 | exact o3 | exact okNil rfl rfl | assumption), (by first | exact o2 | exact ⟨okNil rfl rfl, Int.le_refl 0, .inl rfl⟩ | assumption), (by first | exact o1 | exact o2 | exact o3 | exact okNil rfl rfl | assumption)⟩, Eq.trans (b := (rsRd q 0 77).advance 11) (RS.ext' rfl rfl rfl rfl rfl rfl rW1 rD1 rfl rfl rfl rfl rH1 rfl rN1 rfl rfl) (Eq.symm (hm))⟩))
   ·simp only [Da] at c3
    rw [if_neg (show ¬ (rsRd q 0 4).dating from fun h : q.iv 0 = 3 ∨ q.iv 0 = 5 => by omega)] at hm
    refine r_call (c := notedCon) rfl (rsRd q 0 77) (rsRd q 0 77).noted (by decide) (by decide) (st4 rfl rfl rfl rfl) ⟨⟨o1, o2, o3⟩, hs⟩ (RS.ext' rfl rfl rfl rfl rfl rfl rW1 rD1 rfl rfl rfl rfl rH1 rfl rN1 rfl rfl) (fun e hq hr => ⟨hq.1, by rw [← hr]; exact hq.2⟩) (fun u => (OkR u 144) ∧ rsRd u 0 144 = (rsRd u 0 4).tookRetire (rpRd u 71)) (fun e h1 h2 => ⟨h1, h2.trans hm.symm⟩) fun u hu => ?_
    obtain ⟨⟨o1, o2, o3⟩, hm⟩ := hu
    exact Sat.fin ⟨⟨(by first | exact o1 | exact o2 | exact o3 | exact okNil rfl rfl | assumption), (by first | exact o2 | exact ⟨okNil rfl rfl, Int.le_refl 0, .inl rfl⟩ | assumption), (by first | exact o1 | exact o2 | exact o3 | exact okNil rfl rfl | assumption)⟩, Eq.trans (b := (rsRd u 0 144)) (RS.ext' rfl rfl rfl rfl rfl rfl rW1 rD1 rfl rfl rfl rfl rH1 rfl rN1 rfl rfl) (Eq.symm (hm.symm))⟩
  ·simp only [Da] at c2
   refine Sat.br (fun c3 => ?_) (fun c3 => ?_)
   ·simp only [Da] at c3
    have hm : (rsRd ρ 0 4).tookRetire (rpRd ρ 71) = (rsRd ρ 0 4).noted := (if_neg c).trans ((if_neg c2).trans (if_pos c3))
    refine r_call (c := notedCon) rfl (rsRd ρ 0 4) (rsRd ρ 0 4).noted (by decide) (by decide) (st4 rfl rfl rfl rfl) ⟨⟨o1, o2, o3⟩, hs⟩ (RS.ext' rfl rfl rfl rfl rfl rfl rW1 rD1 rfl rfl rfl rfl rH1 rfl rN1 rfl rfl) (fun e hq hr => ⟨hq.1, by rw [← hr]; exact hq.2⟩) (fun u => (OkR u 77) ∧ rsRd u 0 77 = (rsRd u 0 4).tookRetire (rpRd u 71)) (fun e h1 h2 => ⟨h1, h2.trans hm.symm⟩) fun u hu => ?_
    obtain ⟨⟨o1, o2, o3⟩, hm⟩ := hu
    exact Sat.fin ⟨⟨(by first | exact o1 | exact o2 | exact o3 | exact okNil rfl rfl | assumption), (by first | exact o2 | exact ⟨okNil rfl rfl, Int.le_refl 0, .inl rfl⟩ | assumption), (by first | exact o1 | exact o2 | exact o3 | exact okNil rfl rfl | assumption)⟩, Eq.trans (b := (rsRd u 0 77)) (RS.ext' rfl rfl rfl rfl rfl rfl rW1 rD1 rfl rfl rfl rfl rH1 rfl rN1 rfl rfl) (Eq.symm (hm.symm))⟩
   ·simp only [Da] at c3
    have hm : (rsRd ρ 0 4).tookRetire (rpRd ρ 71) = rsRd ρ 0 4 := (if_neg c).trans ((if_neg c2).trans (if_neg c3))
    exact Sat.fin ⟨⟨(by first | exact o1 | exact o2 | exact o3 | exact okNil rfl rfl | assumption), (by first | exact o2 | exact ⟨okNil rfl rfl, Int.le_refl 0, .inl rfl⟩ | assumption), (by first | exact o1 | exact o2 | exact o3 | exact okNil rfl rfl | assumption)⟩, Eq.trans (b := (rsRd ρ 0 4)) (RS.ext' rfl rfl rfl rfl rfl rfl rW1 rD1 rfl rfl rfl rfl rH1 rfl rN1 rfl rfl) (Eq.symm (hm))⟩
theorem tRet_con : ConOK Tryd.prog tRetCon tRetPre tRetPost :=
 con_ok tabOK (E := tRetE) (cs := nSem) rfl nSem_ok schedOK rfl tRet_run (by kernel_rfl) (fun ρ _ p hp => by cases hp) tRet_sat
end Go.Proofs.YthomdlajobnmnaaDoor
