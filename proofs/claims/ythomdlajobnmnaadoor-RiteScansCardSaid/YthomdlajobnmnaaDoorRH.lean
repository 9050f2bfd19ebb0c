/- 'tookScan' -/
import Derived.Test.YthomdlajobnmnaaDoorRG
set_option linter.unusedSimpArgs false
set_option linter.unusedVariables false
namespace Go.Proofs.YthomdlajobnmnaaDoor
open Go.Rex
theorem con_or {P : Program} {k : Con} {pre pre1 pre2 post : Env → Prop} (h1 : ConOK P k pre1 post) (h2 : ConOK P k pre2 post) (hp : ∀ ρ, pre ρ → pre1 ρ ∨ pre2 ρ) : ConOK P k pre post :=
 ⟨h1.fn, fun ρ ν w a b c => (hp _ c).elim (h1.run ρ ν w a b) (h2.run ρ ν w a b)⟩
def scSem : CSem := [(lookCon, lookPre, lookPost), (reapCon, rPre, reapPost), (siftCon, siftPre, siftPost), (mayCon, mayPre, mayPost), (indexCon, indexPre, indexPost), (deleteCon, deletePre, deletePost)]
theorem scSem_ok : ∀ k pre post, (k, pre, post) ∈ scSem → conWf k = true ∧ ConOK Tryd.prog k pre post := by
 intro k pre post h
 simp only [scSem, List.mem_cons, List.not_mem_nil, or_false, Prod.mk.injEq] at h
 rcases h with ⟨rfl, rfl, rfl⟩ | ⟨rfl, rfl, rfl⟩ | ⟨rfl, rfl, rfl⟩ | ⟨rfl, rfl, rfl⟩ | ⟨rfl, rfl, rfl⟩ | ⟨rfl, rfl, rfl⟩
 ·exact ⟨by kernel_rfl, look_con⟩
 ·exact ⟨by kernel_rfl, reap_con⟩
 ·exact ⟨by kernel_rfl, sift_con⟩
 ·exact ⟨by kernel_rfl, may_con⟩
 ·exact ⟨by kernel_rfl, index_con⟩
 ·exact ⟨by kernel_rfl, delete_con⟩
def tScanPost (ρ : Env) : Prop := OkR ρ 77 ∧ rsRd ρ 0 77 = (rsRd ρ 0 4).tookScan (rpRd ρ 71)
/-! ### a slot that was freed -/
noncomputable def tFreeE : Ex := { sched := sched, loops := [], cons := [lookCon, reapCon, siftCon, mayCon, indexCon, deleteCon], fin := tScanCon }
def tFreeOut : Out :=
 .ob (.not (.var 51)) <|
 .ob (.ilt (.lit 0) (.var 52)) <|
 .ob (.ile (.lit 0) (.var 69)) <|
 .ob (.ilt (.var 69) (.var 70)) <|
 .call 4 { lo := 0, lob := 0, iv := [(10, .cell 69 (.var 69) (.lit 0) 6), (9, .cell 69 (.var 69) (.lit 0) 5), (7, .cell 69 (.var 69) (.lit 0) 3), (6, .cell 69 (.var 69) (.lit 0) 2), (5, .cell 69 (.var 69) (.lit 0) 1), (4, .cell 69 (.var 69) (.lit 0) 0), (2, yv 60), (1, yv 59)], bv := [(8, .cell 69 (.var 69) (.lit 0) 4), (0, yw 58)], ct := [(3, yu 70 59 7 yN 0)], bk := [(0, yc 3 7)] } 77 <|
 .ob (.inr .i64 (.add (.var 77) (.lit 1))) <|
 .call 5 { lo := 0, lob := 0, iv := [(5, .add (.var 77) (.lit 1)), (4, yv 77), (2, yv 60), (1, yv 59)], bv := [(0, yw 58)], ct := [(3, yu 70 59 7 yN 0)], bk := [(0, yc 3 7)] } 78 <|
 .ob (.inr .i64 (.add (.var 61) (.lit 1))) <|
 .br (.ieq (.lit 1) (.var 53))
 (.ob (.ile (.lit 1) (.var 52)) <|
  .ob (.ile (.var 52) (.var 53)) <|
  .ob (.ile (.lit 0) (.var 52)) <|
  .call 1 { lo := 0, lob := 0, iv := [(70, yv 70), (65, yv 65), (64, yv 64), (63, yv 63), (62, yv 62), (61, .add (.var 61) (.lit 1)), (60, yv 60), (59, .sub (.var 59) (.lit 1)), (57, yv 57), (56, yv 56), (3, yv 3), (2, yv 2), (1, yv 1), (0, yv 0), (53, .sub (.var 53) (.lit 1)), (52, .sub (.var 52) (.lit 1)), (69, yv 69), (50, yv 50), (49, yv 49), (47, yv 47), (45, yv 45), (44, yv 44), (43, yv 43), (42, yv 42), (40, yv 40), (39, yv 39), (38, yv 38), (37, yv 37), (35, yv 35), (34, yv 34), (33, yv 33), (32, yv 32), (30, yv 30), (29, yv 29), (28, yv 28), (27, yv 27), (26, yv 26), (25, yv 25), (24, yv 24), (23, yv 23), (22, yv 22), (21, yv 21), (20, yv 20), (19, yv 19), (18, yv 18), (16, yv 16), (15, yv 15), (14, yv 14), (13, yv 13), (11, yv 11), (10, yv 10), (9, yv 9), (8, yv 8), (7, yv 7), (6, yv 6), (5, yv 5), (4, yv 4)], bv := [(67, yw 67), (66, yw 66), (58, yw 58), (55, yw 55), (51, yw 51), (48, yw 48), (46, yw 46), (41, yw 41), (36, yw 36), (31, yw 31), (17, yw 17), (12, yw 12)], ct := [(70, .up { r := 78, n1 := .sub (.var 59) (.lit 1), s1 := 7, ks := yN } 0 [] (.lit 0)), (69, yu 69 70 7 yN 0), (68, yu 68 49 5 yW 0), (54, yl 54 9 5 50 yW 0)], bk := [(3, yc 3 7), (2, yc 2 7), (1, yc 1 5), (0, yb 0)] } 79 <|
  .fin { lo := 77, lob := 4, iv := [(143, yv 145), (138, yv 140), (137, yv 139), (136, yv 138), (135, yv 137), (134, yv 136), (133, yv 135), (132, yv 134), (130, yv 132), (129, yv 131), (126, yv 128), (125, yv 127), (142, yv 144), (123, yv 125), (122, yv 124), (120, yv 122), (118, yv 120), (117, yv 119), (116, yv 118), (115, yv 117), (113, yv 115), (112, yv 114), (111, yv 113), (110, yv 112), (108, yv 110), (107, yv 109), (106, yv 108), (105, yv 107), (103, yv 105), (102, yv 104), (101, yv 103), (100, yv 102), (99, yv 101), (98, yv 100), (97, yv 99), (96, yv 98), (95, yv 97), (94, yv 96), (93, yv 95), (92, yv 94), (91, yv 93), (89, yv 91), (88, yv 90), (87, yv 89), (86, yv 88), (84, yv 86), (83, yv 85), (82, yv 84), (81, yv 83), (80, yv 82), (79, yv 81), (78, yv 80), (77, yv 79)], bv := [(140, yw 142), (139, yw 141), (131, yw 133), (128, yw 130), (124, yw 126), (121, yw 123), (119, yw 121), (114, yw 116), (109, yw 111), (104, yw 106), (90, yw 92), (85, yw 87)], ct := [(143, yu 145 134 7 yN 0), (142, yu 144 145 7 yN 0), (141, yu 143 124 5 yW 0), (127, yl 129 9 5 50 yW 0)], bk := [(6, yc 7 7), (5, yc 6 7), (4, yc 5 5)] })
 (.ob (.ile (.lit 1) (.var 52)) <|
  .ob (.ile (.var 52) (.var 53)) <|
  .ob (.ile (.lit 0) (.var 52)) <|
  .call 1 { lo := 0, lob := 0, iv := [(70, yv 70), (65, yv 65), (64, yv 64), (63, yv 63), (62, yv 62), (61, .add (.var 61) (.lit 1)), (60, yv 60), (59, .sub (.var 59) (.lit 1)), (57, yv 57), (56, yv 56), (3, yv 3), (2, yv 2), (1, yv 1), (0, yv 0), (53, .sub (.var 53) (.lit 1)), (52, .sub (.var 52) (.lit 1)), (69, .add (.var 69) (.lit 1)), (50, yv 50), (49, yv 49), (47, yv 47), (45, yv 45), (44, yv 44), (43, yv 43), (42, yv 42), (40, yv 40), (39, yv 39), (38, yv 38), (37, yv 37), (35, yv 35), (34, yv 34), (33, yv 33), (32, yv 32), (30, yv 30), (29, yv 29), (28, yv 28), (27, yv 27), (26, yv 26), (25, yv 25), (24, yv 24), (23, yv 23), (22, yv 22), (21, yv 21), (20, yv 20), (19, yv 19), (18, yv 18), (16, yv 16), (15, yv 15), (14, yv 14), (13, yv 13), (11, yv 11), (10, yv 10), (9, yv 9), (8, yv 8), (7, yv 7), (6, yv 6), (5, yv 5), (4, yv 4)], bv := [(67, yw 67), (66, yw 66), (58, yw 58), (55, yw 55), (51, yw 51), (48, yw 48), (46, yw 46), (41, yw 41), (36, yw 36), (31, yw 31), (17, yw 17), (12, yw 12)], ct := [(70, .up { r := 78, n1 := .sub (.var 59) (.lit 1), s1 := 7, ks := yN } 0 [] (.lit 0)), (69, yu 69 70 7 yN 0), (68, yu 68 49 5 yW 0), (54, yl 54 9 5 50 yW 0)], bk := [(3, yc 3 7), (2, yc 2 7), (1, yc 1 5), (0, yb 0)] } 79 <|
  .fin { lo := 77, lob := 4, iv := [(143, yv 145), (138, yv 140), (137, yv 139), (136, yv 138), (135, yv 137), (134, yv 136), (133, yv 135), (132, yv 134), (130, yv 132), (129, yv 131), (126, yv 128), (125, yv 127), (142, yv 144), (123, yv 125), (122, yv 124), (120, yv 122), (118, yv 120), (117, yv 119), (116, yv 118), (115, yv 117), (113, yv 115), (112, yv 114), (111, yv 113), (110, yv 112), (108, yv 110), (107, yv 109), (106, yv 108), (105, yv 107), (103, yv 105), (102, yv 104), (101, yv 103), (100, yv 102), (99, yv 101), (98, yv 100), (97, yv 99), (96, yv 98), (95, yv 97), (94, yv 96), (93, yv 95), (92, yv 94), (91, yv 93), (89, yv 91), (88, yv 90), (87, yv 89), (86, yv 88), (84, yv 86), (83, yv 85), (82, yv 84), (81, yv 83), (80, yv 82), (79, yv 81), (78, yv 80), (77, yv 79)], bv := [(140, yw 142), (139, yw 141), (131, yw 133), (128, yw 130), (124, yw 126), (121, yw 123), (119, yw 121), (114, yw 116), (109, yw 111), (104, yw 106), (90, yw 92), (85, yw 87)], ct := [(143, yu 145 134 7 yN 0), (142, yu 144 145 7 yN 0), (141, yu 143 124 5 yW 0), (127, yl 129 9 5 50 yW 0)], bk := [(6, yc 7 7), (5, yc 6 7), (4, yc 5 5)] })
theorem tFree_run : exec tab tFreeE 8000 [] (cfg0 tScanCon.f tScanCon.nv [(.ieq (.var 22) (.lit 16), true)] tScanCon.gl tScanCon.hp tScanCon.args) = tFreeOut := by kernel_rfl
def tFreePre (ρ : Env) : Prop := OkR ρ 4 ∧ (ρ.iv 22 = 16 ∧ ρ.iv 59 ≤ 1000000 ∧ -1000000000000 ≤ ρ.iv 61 ∧ ρ.iv 61 ≤ 1000000000000) ∧ ∃ d l, (rsRd ρ 0 4).doomed = d :: l ∧ d ∈ (rsRd ρ 0 4).notes
set_option maxHeartbeats 4000000 in
theorem tFree_sat (ρ : Env) (hpre : tFreePre ρ.num) : Sat tScanPost scSem [] ρ tFreeOut := by
 replace hpre : tFreePre ρ := hpre
 obtain ⟨⟨o1, o2, o3⟩, ⟨hst, hf, f1, f2⟩, d, l, hd, hmem⟩ := hpre
 have p2 := o2.1.2
 have p3 := o2.2
 have o3' := o3
 obtain ⟨q1, q2, q3, q4⟩ := o3'
 simp only [Nat.reduceAdd] at p2 p3 q2 q3 q4
 have hpos : 0 < ρ.iv 52 := by
  rcases Int.lt_or_eq_of_le p2.1 with h | h
  ·exact h
  ·rw [show (rsRd ρ 0 4).doomed = [] from dmRow_nil h.symm] at hd
   cases hd
 have hd2 : (rsRd ρ 0 4).doomed = ntAt ρ 69 (ρ.iv 69).toNat :: dmRow ρ 69 (ρ.iv 69 + 1) (ρ.iv 52 - 1) := dmRow_cons hpos p3.1
 rw [hd2] at hd
 obtain ⟨rfl, rfl⟩ := List.cons.inj hd
 have hm : (rsRd ρ 0 4).tookScan (rpRd ρ 71) = ({ rsRd ρ 0 4 with notes := (rsRd ρ 0 4).notes.erase (ntAt ρ 69 (ρ.iv 69).toNat), freed := ρ.iv 61 + 1, doomed := dmRow ρ 69 (ρ.iv 69 + 1) (ρ.iv 52 - 1) } : RS).reap := by
  unfold RS.tookScan
  have hs : (rsRd ρ 0 4).step = 16 := hst
  rw [if_neg (by rw [hs]; decide), if_neg (by rw [hs]; decide), if_neg (by rw [hs]; decide), if_neg (by rw [hs]; decide), if_pos hs, hd2]
  rfl
 replace hmem : ntAt ρ 69 (ρ.iv 69).toNat ∈ ntRow ρ 70 (ρ.iv 59) := hmem
 unfold tFreeOut
 refine Sat.ob (nilLt o2.1 (by simp only [Nat.reduceAdd]; omega)) (Sat.ob (by simp only [Da]; omega) (Sat.ob (by simp only [Da]; omega) (Sat.ob (by simp only [Da]; omega) ?_)))
 refine Sat.callK (c := indexCon) rfl ⟨⟨o3, hf⟩, ?_⟩ (fun q => OkR q 4 ∧ ((-1000000000000 ≤ q.iv 61 ∧ q.iv 61 ≤ 1000000000000) ∧ q.iv 59 ≤ 1000000 ∧ 0 < q.iv 52) ∧ (0 ≤ q.iv 77 ∧ q.iv 77 < q.iv 59) ∧
     (ntRow q 70 (q.iv 59)).erase (ntAt q 69 (q.iv 69).toNat) = (ntRow q 70 (q.iv 59)).take (q.iv 77).toNat ++ (ntRow q 70 (q.iv 59)).drop ((q.iv 77).toNat + 1) ∧
     (rsRd q 0 4).tookScan (rpRd q 71) = ({ rsRd q 0 4 with notes := (rsRd q 0 4).notes.erase (ntAt q 69 (q.iv 69).toNat), freed := q.iv 61 + 1, doomed := dmRow q 69 (q.iv 69 + 1) (q.iv 52 - 1) } : RS).reap) (fun e hq => ?_) fun q hq => ?_
 ·refine cast (congr (congrArg (fun (l : List Nt) (d : Nt) => d ∈ l) ?_) ?_) hmem
  ·exact ntRow_same rfl fun i => by simp [ntAt, mkW, -Int.pred_toNat, Sub.nenv, assoc, CV.I, CV.B, upsI, upsB, Seg.I, Seg.B, SC.I, SC.B, IE.den, BE.den]
  ·simp [ntAt, ntRd, wdRd, mkW, -Int.pred_toNat, Sub.nenv, assoc, CV.I, CV.B, upsI, upsB, Seg.I, Seg.B, SC.I, SC.B, IE.den, BE.den]
 ·replace hq : indexPost (conEnv _ 11 77 ρ (ρ.join 77 e)) := hq
  obtain ⟨⟨x1, x2⟩, x3⟩ := hq
  rw [show (conEnv _ 11 77 ρ (ρ.join 77 e)).iv 11 = (ρ.join 77 e).iv 77 from con_iv 11 0] at x1 x2 x3
  refine ⟨⟨o1, o2, o3⟩, ⟨⟨f1, f2⟩, hf, hpos⟩, ⟨x1, x2⟩, ?_, hm⟩
  refine Eq.trans (congr (congrArg List.erase (ntRow_same rfl fun i => ?_)) ?_) (x3.trans (congrArg (fun l : List Nt => l.take ((ρ.join 77 e).iv 77).toNat ++ l.drop (((ρ.join 77 e).iv 77).toNat + 1)) (ntRow_same rfl fun i => ?_)))
  ·simp [ntAt, mkW, conEnv, Env.join, -Int.pred_toNat, Sub.nenv, assoc, CV.I, CV.B, upsI, upsB, Seg.I, Seg.B, SC.I, SC.B, IE.den, BE.den]
  ·rfl
  ·simp [ntAt, mkW, conEnv, Env.join, -Int.pred_toNat, Sub.nenv, assoc, CV.I, CV.B, upsI, upsB, Seg.I, Seg.B, SC.I, SC.B, IE.den, BE.den]
 obtain ⟨⟨o1, o2, o3⟩, ⟨⟨f1, f2⟩, hf, hpos⟩, ⟨x1, x2⟩, hx, hm⟩ := hq
 refine Sat.ob (by simp only [Da]; omega) ?_
 refine Sat.callK (c := deleteCon) rfl ⟨o3, ⟨x1, x2⟩, rfl⟩ (fun u => OkR u 4 ∧ ((-1000000000000 ≤ u.iv 61 ∧ u.iv 61 ≤ 1000000000000) ∧ u.iv 59 ≤ 1000000 ∧ 0 < u.iv 52) ∧ 0 < u.iv 59 ∧ ntRow u 78 (u.iv 59 - 1) = (rsRd u 0 4).notes.erase (ntAt u 69 (u.iv 69).toNat) ∧
     (rsRd u 0 4).tookScan (rpRd u 71) = ({ rsRd u 0 4 with notes := (rsRd u 0 4).notes.erase (ntAt u 69 (u.iv 69).toNat), freed := u.iv 61 + 1, doomed := dmRow u 69 (u.iv 69 + 1) (u.iv 52 - 1) } : RS).reap) (fun e hq => ?_) fun u hu => ?_
 ·replace hq : deletePost (conEnv _ 6 78 q (q.join 78 e)) := hq
  refine ⟨⟨o1, o2, o3⟩, ⟨⟨f1, f2⟩, hf, hpos⟩, by show 0 < q.iv 59; omega, ?_, hm⟩
  refine Eq.trans (ntRow_same rfl fun i => ?_) (Eq.trans hq (Eq.trans (congrArg (fun l : List Nt => l.take (q.iv 77).toNat ++ l.drop ((q.iv 77).toNat + 1)) (ntRow_same rfl fun i => ?_)) hx.symm))
  ·simp [ntAt, mkW, conEnv, Env.join, -Int.pred_toNat, Sub.nenv, assoc, CV.I, CV.B, upsI, upsB, Seg.I, Seg.B, SC.I, SC.B, IE.den, BE.den]
  ·simp [ntAt, mkW, conEnv, Env.join, -Int.pred_toNat, Sub.nenv, assoc, CV.I, CV.B, upsI, upsB, Seg.I, Seg.B, SC.I, SC.B, IE.den, BE.den]
 obtain ⟨⟨o1, o2, o3⟩, ⟨⟨f1, f2⟩, hf, hpos⟩, hn, hx, hm⟩ := hu
 have p2 := o2.1.2
 have p3 := o2.2
 have o3' := o3
 obtain ⟨q1, q2, q3, q4⟩ := o3'
 simp only [Nat.reduceAdd] at p2 p3 q1 q2 q3 q4
 have hnn : u.bv 58 = false := by
  cases h : u.bv 58
  ·rfl
  ·have := q1 h; omega
 have ho3 : ∀ v : Env, v.bv 58 = u.bv 58 → v.iv 59 = u.iv 59 - 1 → v.iv 60 = u.iv 60 → OkSl v 58 := fun v h1 h2 h3 => ⟨fun h => (by rw [h1, hnn] at h; cases h), by simp only [Nat.reduceAdd]; omega, by simp only [Nat.reduceAdd]; omega, by simp only [Nat.reduceAdd]; omega⟩
 have ho2 : ∀ v : Env, v.bv 51 = u.bv 51 → v.iv 52 = u.iv 52 - 1 → v.iv 53 = u.iv 53 - 1 → OkSl v 51 := fun v h1 h2 h3 => by
  have hnn : u.bv 51 = false := by
   cases h : u.bv 51
   ·rfl
   ·have := o2.1.1 h
    simp only [Nat.reduceAdd] at this
    omega
  exact ⟨fun h => (by rw [h1, hnn] at h; cases h), by simp only [Nat.reduceAdd]; omega, by simp only [Nat.reduceAdd]; omega, by simp only [Nat.reduceAdd]; omega⟩
 refine Sat.ob (by simp only [Da]; omega) (Sat.br (fun c => ?_) (fun c => ?_))
 ·simp only [Da] at c
  refine Sat.ob (by simp only [Da]; omega) (Sat.ob (by simp only [Da]; omega) (Sat.ob (by simp only [Da]; omega) ?_))
  refine r_call (c := reapCon) rfl ({ rsRd u 0 4 with notes := (rsRd u 0 4).notes.erase (ntAt u 69 (u.iv 69).toNat), freed := u.iv 61 + 1, doomed := dmRow u 69 (u.iv 69 + 1) (u.iv 52 - 1) } : RS) _ (by decide) (by decide) (st4 rfl rfl rfl rfl) ⟨o1, ⟨ho2 _ rfl rfl rfl, p3.1, .inl (by show u.iv 52 - 1 = 0; omega)⟩, ho3 _ rfl rfl rfl⟩ (RS.ext' rfl rfl rfl rfl rfl rfl rW1 ?_ rfl rfl rfl rfl rH1 rfl ?_ rfl rfl) (fun e hq hr => ⟨hq.1, hq.2.trans (congrArg RS.reap hr)⟩) (fun v => OkR v 79 ∧ rsRd v 0 79 = (rsRd v 0 4).tookScan (rpRd v 71)) (fun e h1 h2 => ⟨h1, h2.trans hm.symm⟩) fun v hv => ?_
  ·exact (dmRow_nil (show u.iv 52 - 1 = 0 by omega)).trans (dmRow_nil (show u.iv 52 - 1 = 0 by omega)).symm
  ·exact Eq.trans (ntRow_same rfl fun i => by simp [ntAt, mkW, -Int.pred_toNat, Sub.nenv, assoc, CV.I, CV.B, upsI, upsB, Seg.I, Seg.B, SC.I, SC.B, IE.den, BE.den]) hx
  obtain ⟨⟨o1, o2, o3⟩, hm⟩ := hv
  exact Sat.fin ⟨⟨(by first | exact o1 | exact o2 | exact o3 | exact okNil rfl rfl | assumption), (by first | exact o2 | exact ⟨okNil rfl rfl, Int.le_refl 0, .inl rfl⟩ | assumption), (by first | exact o1 | exact o2 | exact o3 | exact okNil rfl rfl | assumption)⟩, Eq.trans (b := (rsRd v 0 79)) (RS.ext' rfl rfl rfl rfl rfl rfl rW1 rD1 rfl rfl rfl rfl rH1 rfl rN1 rfl rfl) (Eq.symm (hm.symm))⟩
 ·simp only [Da] at c
  refine Sat.ob (by simp only [Da]; omega) (Sat.ob (by simp only [Da]; omega) (Sat.ob (by simp only [Da]; omega) ?_))
  refine r_call (c := reapCon) rfl ({ rsRd u 0 4 with notes := (rsRd u 0 4).notes.erase (ntAt u 69 (u.iv 69).toNat), freed := u.iv 61 + 1, doomed := dmRow u 69 (u.iv 69 + 1) (u.iv 52 - 1) } : RS) _ (by decide) (by decide) (st4 rfl rfl rfl rfl) ⟨o1, ⟨ho2 _ rfl rfl rfl, by show 0 ≤ u.iv 69 + 1; omega, .inr (by show u.iv 69 + 1 + (u.iv 52 - 1) ≤ u.iv 70; omega)⟩, ho3 _ rfl rfl rfl⟩ (RS.ext' rfl rfl rfl rfl rfl rfl rW1 ?_ rfl rfl rfl rfl rH1 rfl ?_ rfl rfl) (fun e hq hr => ⟨hq.1, hq.2.trans (congrArg RS.reap hr)⟩) (fun v => OkR v 79 ∧ rsRd v 0 79 = (rsRd v 0 4).tookScan (rpRd v 71)) (fun e h1 h2 => ⟨h1, h2.trans hm.symm⟩) fun v hv => ?_
  ·exact dmRow_same rfl rfl fun i => by simp [ntAt, mkW, -Int.pred_toNat, Sub.nenv, assoc, CV.I, CV.B, upsI, upsB, Seg.I, Seg.B, SC.I, SC.B, IE.den, BE.den]
  ·exact Eq.trans (ntRow_same rfl fun i => by simp [ntAt, mkW, -Int.pred_toNat, Sub.nenv, assoc, CV.I, CV.B, upsI, upsB, Seg.I, Seg.B, SC.I, SC.B, IE.den, BE.den]) hx
  obtain ⟨⟨o1, o2, o3⟩, hm⟩ := hv
  exact Sat.fin ⟨⟨(by first | exact o1 | exact o2 | exact o3 | exact okNil rfl rfl | assumption), (by first | exact o2 | exact ⟨okNil rfl rfl, Int.le_refl 0, .inl rfl⟩ | assumption), (by first | exact o1 | exact o2 | exact o3 | exact okNil rfl rfl | assumption)⟩, Eq.trans (b := (rsRd v 0 79)) (RS.ext' rfl rfl rfl rfl rfl rfl rW1 rD1 rfl rfl rfl rfl rH1 rfl rN1 rfl rfl) (Eq.symm (hm.symm))⟩
theorem tFree_con : ConOK Tryd.prog tScanCon tFreePre tScanPost :=
 con_ok tabOK (E := tFreeE) (cs := scSem) rfl scSem_ok schedOK rfl tFree_run (by kernel_rfl) (fun ρ h p hp => by
   obtain ⟨-, ⟨h, -⟩, -⟩ := h
   simp only [List.mem_cons, List.not_mem_nil, or_false] at hp
   subst hp
   exact beq_iff_eq.2 h) tFree_sat
end Go.Proofs.YthomdlajobnmnaaDoor

set_option linter.unusedSimpArgs false
set_option linter.unusedVariables false
namespace Go.Proofs.YthomdlajobnmnaaDoor
open Go.Rex
noncomputable def tScanE : Ex := { sched := sched, loops := [Lspans], cons := [lookCon, reapCon, siftCon, mayCon, indexCon, deleteCon], fin := tScanCon }
def tScanOut : Out :=
 .br (.ieq (.var 22) (.lit 12))
 (.call 0 { lo := 0, lob := 0, iv := [(70, yv 70), (65, yv 65), (64, yv 64), (63, yv 63), (62, yv 62), (61, yv 61), (60, yv 60), (59, yv 59), (57, yv 57), (56, yv 56), (3, yv 3), (2, yv 2), (1, yv 1), (0, yv 0), (53, yv 53), (52, yv 52), (69, yv 69), (50, yv 50), (49, yv 49), (47, yv 47), (45, yv 74), (44, yv 73), (43, yv 72), (42, yv 71), (40, yv 40), (39, yv 39), (38, yv 38), (37, yv 37), (35, yv 35), (34, yv 34), (33, yv 33), (32, yv 32), (30, yv 30), (29, yv 29), (28, yv 28), (27, yv 27), (26, yv 26), (25, yv 25), (24, yv 24), (23, yv 23), (22, yv 22), (21, yv 21), (20, yv 20), (19, yv 19), (18, yv 18), (16, yv 16), (15, yv 15), (14, yv 14), (13, yv 13), (11, yv 11), (10, yv 10), (9, yv 9), (8, yv 8), (7, yv 7), (6, yv 6), (5, yv 5), (4, yv 4), (71, .lit 0)], bv := [(67, yw 67), (66, yw 66), (58, yw 58), (55, yw 55), (51, yw 51), (48, yw 48), (46, yw 75), (41, yw 41), (36, yw 36), (31, yw 31), (17, yw 17), (12, yw 12)], ct := [(70, yu 70 59 7 yN 0), (69, yu 69 70 7 yN 0), (68, yu 68 49 5 yW 0), (54, yl 54 9 5 50 yW 0)], bk := [(3, yc 3 7), (2, yc 2 7), (1, yc 1 5), (0, yb 0)] } 77 <|
  .fin { lo := 77, lob := 4, iv := [(143, yv 143), (138, yv 138), (137, yv 137), (136, yv 136), (135, yv 135), (134, yv 134), (133, yv 133), (132, yv 132), (130, yv 130), (129, yv 129), (126, yv 126), (125, yv 125), (142, yv 142), (123, yv 123), (122, yv 122), (120, yv 120), (118, yv 118), (117, yv 117), (116, yv 116), (115, yv 115), (113, yv 113), (112, yv 112), (111, yv 111), (110, yv 110), (108, yv 108), (107, yv 107), (106, yv 106), (105, yv 105), (103, yv 103), (102, yv 102), (101, yv 101), (100, yv 100), (99, yv 99), (98, yv 98), (97, yv 97), (96, yv 96), (95, yv 95), (94, yv 94), (93, yv 93), (92, yv 92), (91, yv 91), (89, yv 89), (88, yv 88), (87, yv 87), (86, yv 86), (84, yv 84), (83, yv 83), (82, yv 82), (81, yv 81), (80, yv 80), (79, yv 79), (78, yv 78), (77, yv 77)], bv := [(140, yw 140), (139, yw 139), (131, yw 131), (128, yw 128), (124, yw 124), (121, yw 121), (119, yw 119), (114, yw 114), (109, yw 109), (104, yw 104), (90, yw 90), (85, yw 85)], ct := [(143, yu 143 132 7 yN 0), (142, yu 142 143 7 yN 0), (141, yu 141 122 5 yW 0), (127, yl 127 9 5 50 yW 0)], bk := [(6, yc 7 7), (5, yc 6 7), (4, yc 5 5)] })
 (.br (.ieq (.var 22) (.lit 13))
  (.ob (.ile (.mul (.add (.var 49) (.lit 1)) (.lit 40)) (.lit 140737488355328)) <|
   .ob (.ile (.lit 0) (.var 49)) <|
   .ob (.ile (.var 49) (.var 50)) <|
   .ob (.ile (.var 50) (.lit 9223372036854775807)) <|
   .ob (.or (.not (.var 48)) (.ieq (.var 49) (.lit 0))) <|
   .new 77 [.be (.and (.ile (.add (.var 49) (.lit 1)) (.var 77)) (.ile (.var 77) (.lit 9223372036854775807)))] <|
   .ob (.inr .i64 (.add (.var 47) (.lit 1))) <|
   .call 0 { lo := 0, lob := 0, iv := [(70, yv 70), (65, yv 65), (64, yv 64), (63, yv 63), (62, yv 62), (61, yv 61), (60, yv 60), (59, yv 59), (57, yv 57), (56, yv 56), (3, yv 3), (2, yv 2), (1, yv 1), (0, yv 0), (53, yv 53), (52, yv 52), (69, yv 69), (50, yv 77), (49, .add (.var 49) (.lit 1)), (47, yv 47), (45, yv 45), (44, yv 44), (43, yv 43), (42, yv 42), (40, yv 40), (39, yv 39), (38, yv 38), (37, yv 37), (35, yv 35), (34, yv 34), (33, yv 33), (32, yv 32), (30, yv 30), (29, yv 29), (28, yv 28), (27, yv 27), (26, yv 26), (25, yv 25), (24, yv 24), (23, yv 23), (22, yv 22), (21, yv 21), (20, yv 20), (19, yv 19), (18, yv 18), (16, yv 16), (15, yv 15), (14, yv 14), (13, yv 13), (11, yv 11), (10, yv 10), (9, yv 9), (8, yv 8), (7, yv 7), (6, yv 6), (5, yv 5), (4, yv 4), (71, .add (.var 47) (.lit 1))], bv := [(67, yw 67), (66, yw 66), (58, yw 58), (55, yw 55), (51, yw 51), (48, .lit false), (46, yw 46), (41, yw 41), (36, yw 36), (31, yw 31), (17, yw 17), (12, yw 12)], ct := [(70, yu 70 59 7 yN 0), (69, yu 69 70 7 yN 0), (68, .up { r := 68, n1 := .add (.var 49) (.lit 1), s1 := 5, ks := yW } 0 [⟨0, (.var 49), (.lit 0), 0, .int .i64 (.var 71)⟩, ⟨0, (.var 49), (.lit 0), 1, .int .i64 (.var 72)⟩, ⟨0, (.var 49), (.lit 0), 2, .int .i64 (.var 73)⟩, ⟨0, (.var 49), (.lit 0), 3, .int .i64 (.var 74)⟩, ⟨0, (.var 49), (.lit 0), 4, .bool (.var 75)⟩] (.lit 0)), (54, yl 54 9 5 50 yW 0)], bk := [(3, yc 3 7), (2, yc 2 7), (1, yc 6 5), (0, yb 0)] } 78 <|
   .br (.var 145)
   (.fin { lo := 77, lob := 4, iv := [(143, yv 144), (138, yv 139), (137, yv 138), (136, yv 137), (135, yv 136), (134, yv 135), (133, yv 134), (132, yv 133), (130, yv 131), (129, yv 130), (126, yv 127), (125, yv 126), (142, yv 143), (123, yv 124), (122, yv 123), (120, yv 121), (118, yv 119), (117, yv 118), (116, yv 117), (115, yv 116), (113, yv 114), (112, yv 113), (111, yv 112), (110, yv 111), (108, yv 109), (107, yv 108), (106, yv 107), (105, yv 106), (103, yv 104), (102, yv 103), (101, yv 102), (100, yv 101), (99, yv 100), (98, yv 99), (97, yv 98), (96, yv 97), (95, yv 96), (94, yv 95), (93, yv 94), (92, yv 93), (91, yv 92), (89, yv 90), (88, yv 89), (87, yv 88), (86, yv 87), (84, yv 85), (83, yv 84), (82, yv 83), (81, yv 82), (80, yv 81), (79, yv 80), (78, yv 79), (77, yv 78)], bv := [(140, yw 141), (139, yw 140), (131, yw 132), (128, yw 129), (124, yw 125), (121, yw 122), (119, yw 120), (114, yw 115), (109, yw 110), (104, yw 105), (90, yw 91), (85, yw 86)], ct := [(143, yu 144 133 7 yN 0), (142, yu 143 144 7 yN 0), (141, yu 142 123 5 yW 0), (127, yl 128 9 5 50 yW 0)], bk := [(6, yc 9 7), (5, yc 8 7), (4, yc 7 5)] })
   (.br (.not (.ieq (.var 0) (.lit 4)))
    (.call 2 { lo := 0, lob := 0, iv := [(70, yv 144), (65, yv 139), (64, yv 138), (63, yv 137), (62, yv 136), (61, yv 135), (60, yv 134), (59, yv 133), (57, yv 131), (56, yv 130), (3, yv 3), (2, yv 2), (1, yv 1), (0, yv 0), (53, yv 127), (52, yv 126), (69, yv 143), (50, yv 124), (49, yv 123), (47, yv 121), (45, yv 119), (44, yv 118), (43, yv 117), (42, yv 116), (40, yv 114), (39, yv 113), (38, yv 112), (37, yv 111), (35, yv 109), (34, yv 108), (33, yv 107), (32, yv 106), (30, yv 104), (29, yv 103), (28, yv 102), (27, yv 101), (26, yv 100), (25, yv 99), (24, yv 98), (23, yv 97), (22, yv 96), (21, yv 95), (20, yv 94), (19, yv 93), (18, yv 92), (16, yv 90), (15, yv 89), (14, yv 88), (13, yv 87), (11, yv 85), (10, yv 84), (9, yv 83), (8, yv 82), (7, yv 81), (6, yv 80), (5, yv 79), (4, yv 78)], bv := [(67, yw 141), (66, yw 140), (58, yw 132), (55, yw 129), (51, yw 125), (48, yw 122), (46, yw 120), (41, yw 115), (36, yw 110), (31, yw 105), (17, yw 91), (12, yw 86)], ct := [(70, yu 144 133 7 yN 0), (69, yu 143 144 7 yN 0), (68, yu 142 123 5 yW 0), (54, yl 128 9 5 50 yW 0)], bk := [(3, yc 9 7), (2, yc 8 7), (1, yc 7 5), (0, yb 0)] } 146 <|
     .fin { lo := 77, lob := 4, iv := [(143, yv 212), (138, yv 207), (137, yv 206), (136, yv 205), (135, yv 204), (134, yv 203), (133, yv 202), (132, yv 201), (130, yv 199), (129, yv 198), (126, yv 195), (125, yv 194), (142, yv 211), (123, yv 192), (122, yv 191), (120, yv 189), (118, yv 187), (117, yv 186), (116, yv 185), (115, yv 184), (113, yv 182), (112, yv 181), (111, yv 180), (110, yv 179), (108, yv 177), (107, yv 176), (106, yv 175), (105, yv 174), (103, yv 172), (102, yv 171), (101, yv 170), (100, yv 169), (99, yv 168), (98, yv 167), (97, yv 166), (96, yv 165), (95, yv 164), (94, yv 163), (93, yv 162), (92, yv 161), (91, yv 160), (89, yv 158), (88, yv 157), (87, yv 156), (86, yv 155), (84, yv 153), (83, yv 152), (82, yv 151), (81, yv 150), (80, yv 149), (79, yv 148), (78, yv 147), (77, yv 146)], bv := [(140, yw 209), (139, yw 208), (131, yw 200), (128, yw 197), (124, yw 193), (121, yw 190), (119, yw 188), (114, yw 183), (109, yw 178), (104, yw 173), (90, yw 159), (85, yw 154)], ct := [(143, yu 212 201 7 yN 0), (142, yu 211 212 7 yN 0), (141, yu 210 191 5 yW 0), (127, yl 196 9 5 50 yW 0)], bk := [(6, yc 12 7), (5, yc 11 7), (4, yc 10 5)] })
    (.ob (.or (.not (.var 122)) (.ieq (.var 123) (.lit 0))) <|
     .ob (.ile (.lit 0) (.var 123)) <|
     .loop 146 { lo := 146, lob := 10, iv := [(150, .lit 0), (148, .lit 0), (147, .lit 0)], bv := [(146, .lit true)], nb := [10] } <|
     .br (.ilt (.var 150) (.var 123))
     (.ob (.not (.var 122)) <|
      .ob (.ile (.lit 0) (.var 150)) <|
      .br (.not (.cell 142 (.var 150) (.lit 0) 4))
      (.ob (.ile (.mul (.add (.var 147) (.lit 1)) (.lit 24)) (.lit 140737488355328)) <|
       .ob (.ile (.lit 0) (.var 147)) <|
       .ob (.ile (.var 147) (.var 148)) <|
       .ob (.ile (.var 148) (.lit 9223372036854775807)) <|
       .ob (.or (.not (.var 146)) (.ieq (.var 147) (.lit 0))) <|
       .new 151 [.be (.and (.ile (.add (.var 147) (.lit 1)) (.var 151)) (.ile (.var 151) (.lit 9223372036854775807)))] <|
       .ob (.inr .i64 (.add (.var 150) (.lit 1))) <|
       .back 0 { lo := 146, lob := 10, iv := [(150, .add (.var 150) (.lit 1)), (148, yv 151), (147, .add (.var 147) (.lit 1))], bv := [(146, .lit false)], ct := [(149, .up { r := 149, n1 := .add (.var 147) (.lit 1), s1 := 3, ks := [.bool, .int .i64, .int .i64] } 0 [⟨0, (.var 147), (.lit 0), 0, .bool (.lit false)⟩, ⟨0, (.var 147), (.lit 0), 1, .int .i64 (.lit 0)⟩, ⟨0, (.var 147), (.lit 0), 2, .int .i64 (.lit 0)⟩] (.lit 0))], bk := [(10, yc 15 3)] })
      (.ob (.ile (.mul (.add (.var 147) (.lit 1)) (.lit 24)) (.lit 140737488355328)) <|
       .ob (.ile (.lit 0) (.var 147)) <|
       .ob (.ile (.var 147) (.var 148)) <|
       .ob (.ile (.var 148) (.lit 9223372036854775807)) <|
       .ob (.or (.not (.var 146)) (.ieq (.var 147) (.lit 0))) <|
       .new 151 [.be (.and (.ile (.add (.var 147) (.lit 1)) (.var 151)) (.ile (.var 151) (.lit 9223372036854775807)))] <|
       .ob (.inr .i64 (.add (.var 150) (.lit 1))) <|
       .back 0 { lo := 146, lob := 10, iv := [(150, .add (.var 150) (.lit 1)), (148, yv 151), (147, .add (.var 147) (.lit 1))], bv := [(146, .lit false)], ct := [(149, .up { r := 149, n1 := .add (.var 147) (.lit 1), s1 := 3, ks := [.bool, .int .i64, .int .i64] } 0 [⟨0, (.var 147), (.lit 0), 0, .bool (.lit true)⟩, ⟨0, (.var 147), (.lit 0), 1, .int .i64 (.cell 142 (.var 150) (.lit 0) 3)⟩, ⟨0, (.var 147), (.lit 0), 2, .int .i64 (.cell 142 (.var 150) (.lit 0) 2)⟩] (.lit 0))], bk := [(10, yc 15 3)] }))
     (.call 3 { lo := 0, lob := 0, iv := [(3, yv 148), (2, yv 147), (0, yv 119)], bv := [(1, yw 146)], ct := [(4, .up { r := 149, n1 := .var 147, s1 := 3, ks := [.bool, .int .i64, .int .i64] } 0 [] (.lit 0))], bk := [(0, yc 10 3)] } 151 <|
      .br (.var 151)
      (.ob (.inr .i64 (.add (.var 118) (.lit 1))) <|
       .ob (.inr .i64 (.add (.var 119) (.lit 1))) <|
       .fin { lo := 77, lob := 4, iv := [(143, yv 144), (138, yv 139), (137, yv 138), (136, yv 137), (135, yv 136), (134, yv 135), (133, yv 134), (132, yv 133), (130, yv 131), (129, yv 130), (126, yv 127), (125, yv 126), (142, yv 143), (123, yv 124), (122, yv 123), (120, yv 121), (118, yv 119), (117, yv 118), (116, yv 117), (115, yv 116), (113, yv 114), (112, yv 113), (111, yv 112), (110, yv 111), (108, .add (.var 119) (.lit 1)), (107, .add (.var 118) (.lit 1)), (106, .lit 0), (105, .lit 0), (103, yv 119), (102, yv 118), (101, yv 117), (100, yv 116), (99, .lit 24), (98, .lit 0), (97, .lit 0), (96, .lit 3), (95, .lit 14), (94, yv 95), (93, yv 94), (92, yv 93), (91, yv 92), (89, yv 90), (88, yv 89), (87, yv 88), (86, yv 87), (84, yv 85), (83, yv 84), (82, yv 83), (81, yv 82), (80, yv 81), (79, yv 80), (78, yv 79), (77, yv 78)], bv := [(140, yw 141), (139, yw 140), (131, yw 132), (128, yw 129), (124, yw 125), (121, yw 122), (119, yw 120), (114, yw 115), (109, .lit false), (104, yw 120), (90, yw 91), (85, yw 86)], ct := [(143, yu 144 133 7 yN 0), (142, yu 143 144 7 yN 0), (141, yu 142 123 5 yW 0), (127, yl 128 9 5 50 yW 0)], bk := [(6, yc 9 7), (5, yc 8 7), (4, yc 7 5)] })
      (.fin { lo := 77, lob := 4, iv := [(143, yv 144), (138, yv 139), (137, yv 138), (136, yv 137), (135, yv 136), (134, yv 135), (133, yv 134), (132, yv 133), (130, yv 131), (129, yv 130), (126, yv 127), (125, yv 126), (142, yv 143), (123, yv 124), (122, yv 123), (120, yv 121), (118, yv 119), (117, yv 118), (116, yv 117), (115, yv 116), (113, yv 114), (112, yv 113), (111, yv 112), (110, yv 111), (108, .lit 0), (107, .lit 0), (106, .lit 0), (105, .lit 0), (103, .lit 0), (102, .lit 0), (101, .lit 0), (100, .lit 0), (99, .lit 24), (98, .lit 0), (97, .lit 0), (96, .lit 1), (95, .lit 15), (94, yv 95), (93, yv 94), (92, yv 93), (91, yv 92), (89, yv 90), (88, yv 89), (87, yv 88), (86, yv 87), (84, yv 85), (83, yv 84), (82, yv 83), (81, yv 82), (80, yv 81), (79, yv 80), (78, yv 79), (77, yv 78)], bv := [(140, yw 141), (139, yw 140), (131, yw 132), (128, yw 129), (124, yw 125), (121, yw 122), (119, yw 120), (114, yw 115), (109, .lit false), (104, .lit false), (90, yw 91), (85, yw 86)], ct := [(143, yu 144 133 7 yN 0), (142, yu 143 144 7 yN 0), (141, yu 142 123 5 yW 0), (127, yl 128 9 5 50 yW 0)], bk := [(6, yc 9 7), (5, yc 8 7), (4, yc 7 5)] })))))
  (.br (.ieq (.var 22) (.lit 14))
   (.fin { lo := 77, lob := 4, iv := [(143, yv 70), (138, yv 65), (137, yv 64), (136, yv 63), (135, yv 62), (134, yv 61), (133, yv 60), (132, yv 59), (130, yv 57), (129, yv 56), (126, yv 53), (125, yv 52), (142, yv 69), (123, yv 50), (122, yv 49), (120, yv 47), (118, yv 45), (117, yv 44), (116, yv 43), (115, yv 42), (113, yv 40), (112, yv 39), (111, yv 38), (110, yv 37), (108, .lit 0), (107, .lit 0), (106, .lit 0), (105, .lit 0), (103, .lit 0), (102, .lit 0), (101, .lit 0), (100, .lit 0), (99, .lit 24), (98, .lit 0), (97, .lit 0), (96, .lit 1), (95, .lit 15), (94, yv 21), (93, yv 20), (92, yv 19), (91, yv 18), (89, yv 16), (88, yv 15), (87, yv 14), (86, yv 13), (84, yv 11), (83, yv 10), (82, yv 9), (81, yv 8), (80, yv 7), (79, yv 6), (78, yv 5), (77, yv 4)], bv := [(140, yw 67), (139, yw 66), (131, yw 58), (128, yw 55), (124, yw 51), (121, yw 48), (119, yw 46), (114, yw 41), (109, .lit false), (104, .lit false), (90, yw 17), (85, yw 12)], ct := [(143, yu 70 59 7 yN 0), (142, yu 69 70 7 yN 0), (141, yu 68 49 5 yW 0), (127, yl 54 9 5 50 yW 0)], bk := [(6, yc 3 7), (5, yc 2 7), (4, yc 1 5)] })
   (.br (.ieq (.var 22) (.lit 15))
    (.call 2 { lo := 0, lob := 0, iv := [(70, yv 70), (65, yv 65), (64, yv 64), (63, yv 63), (62, yv 62), (61, yv 61), (60, yv 60), (59, yv 59), (57, yv 57), (56, yv 56), (3, yv 3), (2, yv 2), (1, yv 1), (0, yv 0), (53, yv 53), (52, yv 52), (69, yv 69), (50, yv 50), (49, yv 49), (47, yv 47), (45, yv 74), (44, yv 73), (43, yv 72), (42, yv 71), (40, yv 40), (39, yv 39), (38, yv 38), (37, yv 37), (35, yv 35), (34, yv 34), (33, yv 33), (32, yv 32), (30, yv 30), (29, yv 29), (28, yv 28), (27, yv 27), (26, yv 26), (25, yv 25), (24, yv 24), (23, yv 23), (22, yv 22), (21, yv 21), (20, yv 20), (19, yv 19), (18, yv 18), (16, yv 16), (15, yv 15), (14, yv 14), (13, yv 13), (11, yv 11), (10, yv 10), (9, yv 9), (8, yv 8), (7, yv 7), (6, yv 6), (5, yv 5), (4, yv 4)], bv := [(67, yw 67), (66, yw 66), (58, yw 58), (55, yw 55), (51, yw 51), (48, yw 48), (46, yw 75), (41, yw 41), (36, yw 36), (31, yw 31), (17, yw 17), (12, yw 12)], ct := [(70, yu 70 59 7 yN 0), (69, yu 69 70 7 yN 0), (68, yu 68 49 5 yW 0), (54, yl 54 9 5 50 yW 0)], bk := [(3, yc 3 7), (2, yc 2 7), (1, yc 1 5), (0, yb 0)] } 77 <|
     .fin { lo := 77, lob := 4, iv := [(143, yv 143), (138, yv 138), (137, yv 137), (136, yv 136), (135, yv 135), (134, yv 134), (133, yv 133), (132, yv 132), (130, yv 130), (129, yv 129), (126, yv 126), (125, yv 125), (142, yv 142), (123, yv 123), (122, yv 122), (120, yv 120), (118, yv 118), (117, yv 117), (116, yv 116), (115, yv 115), (113, yv 113), (112, yv 112), (111, yv 111), (110, yv 110), (108, yv 108), (107, yv 107), (106, yv 106), (105, yv 105), (103, yv 103), (102, yv 102), (101, yv 101), (100, yv 100), (99, yv 99), (98, yv 98), (97, yv 97), (96, yv 96), (95, yv 95), (94, yv 94), (93, yv 93), (92, yv 92), (91, yv 91), (89, yv 89), (88, yv 88), (87, yv 87), (86, yv 86), (84, yv 84), (83, yv 83), (82, yv 82), (81, yv 81), (80, yv 80), (79, yv 79), (78, yv 78), (77, yv 77)], bv := [(140, yw 140), (139, yw 139), (131, yw 131), (128, yw 128), (124, yw 124), (121, yw 121), (119, yw 119), (114, yw 114), (109, yw 109), (104, yw 104), (90, yw 90), (85, yw 85)], ct := [(143, yu 143 132 7 yN 0), (142, yu 142 143 7 yN 0), (141, yu 141 122 5 yW 0), (127, yl 127 9 5 50 yW 0)], bk := [(6, yc 7 7), (5, yc 6 7), (4, yc 5 5)] })
    (.fin { lo := 77, lob := 4, iv := [(143, yv 70), (138, yv 65), (137, yv 64), (136, yv 63), (135, yv 62), (134, yv 61), (133, yv 60), (132, yv 59), (130, yv 57), (129, yv 56), (126, yv 53), (125, yv 52), (142, yv 69), (123, yv 50), (122, yv 49), (120, yv 47), (118, yv 45), (117, yv 44), (116, yv 43), (115, yv 42), (113, yv 40), (112, yv 39), (111, yv 38), (110, yv 37), (108, yv 35), (107, yv 34), (106, yv 33), (105, yv 32), (103, yv 30), (102, yv 29), (101, yv 28), (100, yv 27), (99, yv 26), (98, yv 25), (97, yv 24), (96, yv 23), (95, yv 22), (94, yv 21), (93, yv 20), (92, yv 19), (91, yv 18), (89, yv 16), (88, yv 15), (87, yv 14), (86, yv 13), (84, yv 11), (83, yv 10), (82, yv 9), (81, yv 8), (80, yv 7), (79, yv 6), (78, yv 5), (77, yv 4)], bv := [(140, yw 67), (139, yw 66), (131, yw 58), (128, yw 55), (124, yw 51), (121, yw 48), (119, yw 46), (114, yw 41), (109, yw 36), (104, yw 31), (90, yw 17), (85, yw 12)], ct := [(143, yu 70 59 7 yN 0), (142, yu 69 70 7 yN 0), (141, yu 68 49 5 yW 0), (127, yl 54 9 5 50 yW 0)], bk := [(6, yc 3 7), (5, yc 2 7), (4, yc 1 5)] }))))
theorem tScan_run : exec tab tScanE 8000 [] (cfg0 tScanCon.f tScanCon.nv [(.ieq (.var 22) (.lit 16), false)] tScanCon.gl tScanCon.hp tScanCon.args) = tScanOut := by kernel_rfl
def ScB (ρ : Env) : Prop := (ρ.iv 59 ≤ 1000000 ∧ (ρ.iv 22 = 13 → ρ.iv 49 ≤ 99999)) ∧ (ρ.iv 22 = 13 → ρ.iv 0 = 4 → SmW ρ 42) ∧ (ρ.iv 22 = 13 → 0 ≤ ρ.iv 47 ∧ ρ.iv 47 ≤ 99999) ∧ (ρ.iv 22 = 15 → ρ.iv 0 = 4)
def tScan1Pre (ρ : Env) : Prop := OkR ρ 4 ∧ StR ρ ∧ ScB ρ ∧ SmW ρ 71 ∧ ¬ ρ.iv 22 = 16
def RS.behind (s : RS) : RS := if s.engine ≠ 4 then s.sift else if RS.may s.clock.num (s.seen.map RS.hear) = true then s.advance 14 else s.era 15
theorem tookScan13 {r : RS} {x : Rp} (h : r.step = 13) : r.tookScan x = match ({ r with seen := r.seen ++ [x.word] } : RS).look (r.index + 1) with | some t => t | none => ({ r with seen := r.seen ++ [x.word] } : RS).behind := by
 unfold RS.tookScan
 rw [if_neg (by omega), if_pos h]
 rfl
theorem look_call {post : Env → Prop} {Γ : List (Env → Prop)} {ρ : Env} {nv : Nat} {σ : Sub} {k : Out} (r : RS) (n : Int) (h4 : 4 ≤ nv) (hst : ∀ i, i < 4 → (σ.nenv ρ).iv i = ρ.iv i) (hpre : lookPre (σ.nenv ρ)) (hr : rsRd (σ.nenv ρ) 0 4 = r) (hn : (σ.nenv ρ).iv 71 = n) (K : Env → Prop)
  (hK : ∀ e, OkR (ρ.join nv e) nv → (ρ.join nv e).bv (nv + 67) = (r.look n).isSome → rsRd (ρ.join nv e) 0 nv = (r.look n).getD r → K (ρ.join nv e)) (h : ∀ q, K q → Sat post scSem Γ q k) : Sat post scSem Γ ρ (.call 0 σ nv k) := by
 refine Sat.callK (c := lookCon) rfl hpre K (fun e hq => ?_) h
 have hs : ∀ i, i < 4 → (σ.nenv ρ).iv i = (ρ.join nv e).iv i := fun i hi => by
  rw [hst i hi]
  exact (if_pos (show i < nv by omega)).symm
 replace hq : lookPost (conEnv σ 72 nv ρ (ρ.join nv e)) := hq
 obtain ⟨q1, q2, q3⟩ := hq
 have e0 : rsRd (conEnv σ 72 nv ρ (ρ.join nv e)) 0 4 = r := (rs_con0 (by decide)).trans hr
 have e1 : (conEnv σ 72 nv ρ (ρ.join nv e)).iv 71 = n := hn
 have e2 : (conEnv σ 72 nv ρ (ρ.join nv e)).bv 139 = (ρ.join nv e).bv (nv + 67) := con_bv 72 67
 rw [okR_con1] at q1
 rw [e0, e1, e2] at q2
 rw [e0, e1, rs_con1 (by decide) hs] at q3
 exact hK e q1 q2 q3
def sp2Inv (ρ : Env) : Prop := (OkR ρ 78 ∧ ρ.iv 123 ≤ 100000 ∧ SmW ρ 116) ∧ ((rsRd ρ 0 78).engine = 4 ∧ (rsRd ρ 0 4).tookScan (rpRd ρ 71) = (rsRd ρ 0 78).behind) ∧ (0 ≤ ρ.iv 150 ∧ ρ.iv 150 ≤ ρ.iv 123) ∧ (OkSl ρ 146 ∧ ρ.iv 147 = ρ.iv 150) ∧ spRow ρ 149 (ρ.iv 147) = ((wdRow ρ 142 (ρ.iv 123)).take (ρ.iv 150).toNat).map RS.hear
set_option maxHeartbeats 4000000 in
theorem tScan_sat (ρ : Env) (hpre : tScan1Pre ρ.num) : Sat tScanPost scSem [] ρ tScanOut := by
 replace hpre : tScan1Pre ρ := hpre
 obtain ⟨⟨o1, o2, o3⟩, hs, hsb, hx, hne⟩ := hpre
 have hsb' := hsb
 obtain ⟨⟨f1, f2⟩, hw, hj, h15⟩ := hsb'
 have hx' := hx
 obtain ⟨⟨x1, x2⟩, x3, x4⟩ := hx'
 have o1' := o1
 obtain ⟨p1, p2, p3, p4⟩ := o1'
 simp only [Nat.reduceAdd] at x1 x2 x3 x4 p1 p2 p3 p4
 unfold tScanOut
 refine Sat.br (fun c => ?_) (fun c => ?_)
 ·simp only [Da] at c
  have hm : (rsRd ρ 0 4).tookScan (rpRd ρ 71) = (({ rsRd ρ 0 4 with clock := wdRd ρ 71 } : RS).look 0).getD ({ rsRd ρ 0 4 with clock := wdRd ρ 71 } : RS) := by unfold RS.tookScan; exact if_pos c
  refine look_call ({ rsRd ρ 0 4 with clock := wdRd ρ 71 } : RS) 0 (by decide) (st4 rfl rfl rfl rfl) ⟨⟨o1, o2, o3⟩, hs, Int.le_refl 0, (show (0 : Int) ≤ 1000000 by decide)⟩ (RS.ext' rfl rfl rfl rfl rfl rfl rW1 rD1 rfl rfl rfl rfl rH1 rfl rN1 rfl rfl) rfl (fun u => OkR u 77 ∧ rsRd u 0 77 = (rsRd u 0 4).tookScan (rpRd u 71)) (fun e h1 _ h2 => ⟨h1, h2.trans hm.symm⟩) fun u hu => ?_
  obtain ⟨⟨o1, o2, o3⟩, hm⟩ := hu
  exact Sat.fin ⟨⟨(by first | exact o1 | exact o2 | exact o3 | exact okNil rfl rfl | assumption), (by first | exact o2 | exact ⟨okNil rfl rfl, Int.le_refl 0, .inl rfl⟩ | assumption), (by first | exact o1 | exact o2 | exact o3 | exact okNil rfl rfl | assumption)⟩, Eq.trans (b := (rsRd u 0 77)) (RS.ext' rfl rfl rfl rfl rfl rfl rW1 rD1 rfl rfl rfl rfl rH1 rfl rN1 rfl rfl) (Eq.symm (hm.symm))⟩
 simp only [Da] at c
 refine Sat.br (fun c2 => ?_) (fun c2 => ?_)
 ·simp only [Da] at c2
  replace f2 := f2 c2
  refine Sat.ob (by simp only [Da]; omega) (Sat.ob (decide_eq_true p2) (Sat.ob (decide_eq_true p3) (Sat.ob (decide_eq_true p4) (Sat.ob (nilOb o1) (Sat.newB (fun q => (OkR q 4 ∧ StR q ∧ ScB q) ∧ q.iv 22 = 13) (fun e => ⟨⟨⟨o1, o2, o3⟩, hs, hsb⟩, c2⟩) fun q hq hb => ?_)))))
  obtain ⟨⟨⟨o1, o2, o3⟩, hs, ⟨f1, f2⟩, hw, hj, h15⟩, c2⟩ := hq
  replace f2 := f2 c2
  replace hw := hw c2
  obtain ⟨j1, j2⟩ := hj c2
  simp only [Da] at hb
  have o1' := o1
  obtain ⟨p1, p2, p3, p4⟩ := o1'
  simp only [Nat.reduceAdd] at p1 p2 p3 p4
  have hm := tookScan13 (r := rsRd q 0 4) (x := rpRd q 71) c2
  have hseen : ∀ v : Env, v.iv 49 = q.iv 49 + 1 → (∀ i : Nat, (i : Int) < q.iv 49 → mkW (v.ic 68 i 0) (v.bc 68 i 0) = mkW (q.ic 68 i 0) (q.bc 68 i 0)) → mkW (v.ic 68 (q.iv 49).toNat 0) (v.bc 68 (q.iv 49).toNat 0) = wdRd q 71 → wdRow v 68 (v.iv 49) = (rsRd q 0 4).seen ++ [(rpRd q 71).word] := fun v h1 h2 h3 => wdRow_push p2 h1 h2 h3
  refine Sat.ob (by simp only [Da]; omega) ?_
  refine look_call ({ rsRd q 0 4 with seen := (rsRd q 0 4).seen ++ [(rpRd q 71).word] } : RS) ((rsRd q 0 4).index + 1) (by decide) (st4 rfl rfl rfl rfl) ⟨⟨⟨fun h => (by cases h), by show 0 ≤ q.iv 49 + 1; omega, hb.1, hb.2⟩, o2, o3⟩, hs, (by show 0 ≤ q.iv 47 + 1; omega), (by show q.iv 47 + 1 ≤ 1000000; omega)⟩
   (RS.ext' rfl rfl rfl rfl rfl rfl (hseen _ rfl (fun i hi => (by have hn : ¬ (q.iv 49).toNat = i := fun h => (by omega); simp [mkW, -Int.pred_toNat, Sub.nenv, assoc, CV.I, CV.B, upsI, upsB, Seg.I, Seg.B, SC.I, SC.B, IE.den, BE.den, hn])) (by simp [mkW, wdRd, -Int.pred_toNat, Sub.nenv, assoc, CV.I, CV.B, upsI, upsB, Seg.I, Seg.B, SC.I, SC.B, IE.den, BE.den])) rD1 rfl rfl rfl rfl rH1 rfl rN1 rfl rfl) rfl
   (fun u => OkR u 78 ∧ (u.iv 119 = u.iv 45 ∧ u.iv 118 = u.iv 44 ∧ u.iv 123 = u.iv 49 + 1 ∧ u.iv 126 = u.iv 52 ∧ u.iv 133 = u.iv 59 ∨ u.bv 145 = true) ∧ ((u.iv 0 = 4 → SmW u 42) ∧ u.iv 59 ≤ 1000000 ∧ u.iv 49 ≤ 99999) ∧ (u.bv 145 = true → rsRd u 0 78 = (rsRd u 0 4).tookScan (rpRd u 71)) ∧ (u.bv 145 = false → (rsRd u 0 4).tookScan (rpRd u 71) = (rsRd u 0 78).behind)) (fun e h1 h2 h3 => ?_) fun u hu => ?_
  ·cases hl : ({ rsRd q 0 4 with seen := (rsRd q 0 4).seen ++ [(rpRd q 71).word] } : RS).look ((rsRd q 0 4).index + 1) with
   | some t =>
    rw [hl] at h2 h3 hm
    refine ⟨h1, .inr h2, ⟨hw, f1, f2⟩, fun _ => h3.trans hm.symm, fun hf => ?_⟩
    replace hf : (q.join 78 e).bv 145 = false := hf
    rw [show (q.join 78 e).bv 145 = true from h2] at hf
    cases hf
   | none =>
    rw [hl] at h2 h3 hm
    have h3' : rsRd (q.join 78 e) 0 78 = ({ rsRd q 0 4 with seen := (rsRd q 0 4).seen ++ [(rpRd q 71).word] } : RS) := h3
    have k1 : (wdRow (q.join 78 e) 142 ((q.join 78 e).iv 123)).length = ((rsRd q 0 4).seen ++ [(rpRd q 71).word]).length := congrArg (fun r : RS => r.seen.length) h3'
    have k2 : (ntRow (q.join 78 e) 144 ((q.join 78 e).iv 133)).length = (ntRow q 70 (q.iv 59)).length := congrArg (fun r : RS => r.notes.length) h3'
    have k3 : (dmRow (q.join 78 e) 143 ((q.join 78 e).iv 143) ((q.join 78 e).iv 126)).length = (dmRow q 69 (q.iv 69) (q.iv 52)).length := congrArg (fun r : RS => r.doomed.length) h3'
    have k4 : (q.join 78 e).iv 119 = q.iv 45 := congrArg (fun r : RS => r.clock.num) h3'
    have k5 : (q.join 78 e).iv 118 = q.iv 44 := congrArg (fun r : RS => r.clock.tag) h3'
    have z1 := h1.1.2.1
    have z2 := h1.2.1.1.2.1
    have z3 := h1.2.2.2.1
    have y2 := o2.1.2.1
    have y3 := o3.2.1
    rw [wdRow_len, List.length_append, List.length_singleton] at k1
    rw [show (rsRd q 0 4).seen.length = (q.iv 49).toNat from wdRow_len] at k1
    rw [ntRow_len, ntRow_len] at k2
    simp only [dmRow, List.length_map, List.length_range] at k3
    simp only [Nat.reduceAdd] at z1 z2 z3 y2 y3
    refine ⟨h1, .inl ⟨k4, k5, ?_, ?_, ?_⟩, ⟨hw, f1, f2⟩, fun hf => ?_, fun _ => ?_⟩
    ·show (q.join 78 e).iv 123 = q.iv 49 + 1; omega
    ·show (q.join 78 e).iv 126 = q.iv 52; omega
    ·show (q.join 78 e).iv 133 = q.iv 59; omega
    ·replace hf : (q.join 78 e).bv 145 = true := hf
     rw [show (q.join 78 e).bv 145 = false from h2] at hf
     cases hf
    ·exact hm.trans (congrArg RS.behind h3'.symm)
  obtain ⟨⟨o1, o2, o3⟩, hk, ⟨hw, f1, f2⟩, hy, hn⟩ := hu
  refine Sat.br (fun cb => ?_) (fun cb => ?_)
  ·have hm := hy cb
   exact Sat.fin ⟨⟨(by first | exact o1 | exact o2 | exact o3 | exact okNil rfl rfl | assumption), (by first | exact o2 | exact ⟨okNil rfl rfl, Int.le_refl 0, .inl rfl⟩ | assumption), (by first | exact o1 | exact o2 | exact o3 | exact okNil rfl rfl | assumption)⟩, Eq.trans (b := (rsRd u 0 78)) (RS.ext' rfl rfl rfl rfl rfl rfl rW1 rD1 rfl rfl rfl rfl rH1 rfl rN1 rfl rfl) (Eq.symm (hm.symm))⟩
  ·have hm := hn cb
   obtain ⟨k1, k2, k3, k4, k5⟩ := hk.resolve_right (fun h => by rw [show u.bv 145 = false from cb] at h; cases h)
   refine Sat.br (fun c4 => ?_) (fun c4 => ?_)
   ·simp only [Da] at c4
    have hm2 : (rsRd u 0 4).tookScan (rpRd u 71) = (rsRd u 0 78).sift := hm.trans (if_pos c4)
    refine r_call (c := siftCon) rfl (rsRd u 0 78) (rsRd u 0 78).sift (by decide) (by decide) (st4 rfl rfl rfl rfl) ⟨⟨o1, o2, o3⟩, ⟨by show u.iv 133 ≤ 1000000; omega, .inr (by show u.iv 123 ≤ 100000; omega)⟩, fun h => absurd h c4⟩ (RS.ext' rfl rfl rfl rfl rfl rfl rW1 rD1 rfl rfl rfl rfl rH1 rfl rN1 rfl rfl) (fun e hq hr => ⟨hq.1, by rw [← hr]; exact hq.2⟩) (fun v => OkR v 146 ∧ rsRd v 0 146 = (rsRd v 0 4).tookScan (rpRd v 71)) (fun e h1 h2 => ⟨h1, h2.trans hm2.symm⟩) fun v hv => ?_
    obtain ⟨⟨o1, o2, o3⟩, hm⟩ := hv
    exact Sat.fin ⟨⟨(by first | exact o1 | exact o2 | exact o3 | exact okNil rfl rfl | assumption), (by first | exact o2 | exact ⟨okNil rfl rfl, Int.le_refl 0, .inl rfl⟩ | assumption), (by first | exact o1 | exact o2 | exact o3 | exact okNil rfl rfl | assumption)⟩, Eq.trans (b := (rsRd v 0 146)) (RS.ext' rfl rfl rfl rfl rfl rfl rW1 rD1 rfl rfl rfl rfl rH1 rfl rN1 rfl rfl) (Eq.symm (hm.symm))⟩
   ·simp only [Da] at c4
    obtain ⟨⟨w1, w2⟩, w3, w4⟩ := hw c4
    simp only [Nat.reduceAdd] at w1 w2 w3 w4
    have z1 := o1.2.1
    simp only [Nat.reduceAdd] at z1
    refine Sat.ob (nilOb o1) (Sat.ob (decide_eq_true z1) (Sat.loopK sp2Inv (fun r => (r.iv 123 - r.iv 150).toNat) (fun _ => True) ⟨⟨⟨o1, o2, o3⟩, by show u.iv 123 ≤ 100000; omega, ⟨by show -1000000000000 ≤ u.iv 118; omega, by show u.iv 118 ≤ 1000000000000; omega⟩, by show -1000000000000 ≤ u.iv 119; omega, by show u.iv 119 ≤ 1000000000000; omega⟩, ⟨c4, hm⟩, ⟨Int.le_refl 0, z1⟩, ⟨okNil rfl rfl, rfl⟩, rfl⟩ (fun _ => trivial) fun q _ hI => ?_))
    replace hI : sp2Inv q := hI
    have hI' := hI
    obtain ⟨⟨⟨o1, o2, o3⟩, hl1, ⟨w1, w2⟩, w3, w4⟩, ⟨he, hm⟩, ⟨i1, i2⟩, ⟨os, hl⟩, hrow⟩ := hI
    simp only [Nat.reduceAdd] at w1 w2 w3 w4
    refine Sat.br (fun c => ?_) (fun c => ?_)
    ·simp only [Da] at c
     refine Sat.ob (nilLt o1 (by simp only [Nat.reduceAdd]; omega)) (Sat.ob (decide_eq_true i1) ?_)
     obtain ⟨p1, p2, p3, p4⟩ := id os
     refine Sat.br (fun c2 => ?_) (fun c2 => ?_)
     ·simp only [Da] at c2
      refine Sat.ob (by simp only [Da]; omega) (Sat.ob (decide_eq_true p2) (Sat.ob (decide_eq_true p3) (Sat.ob (decide_eq_true p4) (Sat.ob (nilOb os) (Sat.newB (fun u => sp2Inv u ∧ u.iv 150 < u.iv 123 ∧ (u.iv 123 - (u.iv 150 + 1)).toNat < (q.iv 123 - q.iv 150).toNat ∧ u.bc 142 (u.iv 150).toNat 0 4 = false) (fun e => ⟨hI', c, by show (q.iv 123 - (q.iv 150 + 1)).toNat < (q.iv 123 - q.iv 150).toNat; omega, c2⟩) fun u hu hb => ?_)))))
      obtain ⟨⟨hA, hB, ⟨i1, i2⟩, ⟨os, hl⟩, hrow⟩, c, hd, hc⟩ := hu
      simp only [Da] at hb
      obtain ⟨p1, p2, p3, p4⟩ := id os
      replace p2 : 0 ≤ u.iv 147 := p2
      have hf2 := hA.2.1
      refine Sat.ob (by simp only [Da]; omega) (Sat.back rfl ⟨⟨hA, hB, ⟨?_, ?_⟩, ⟨⟨fun h => (by cases h), ?_, hb.1, hb.2⟩, ?_⟩, ?_⟩, hd⟩)
      ·show 0 ≤ u.iv 150 + 1; omega
      ·show u.iv 150 + 1 ≤ u.iv 123; omega
      ·show 0 ≤ u.iv 147 + 1; omega
      ·show u.iv 147 + 1 = u.iv 150 + 1; omega
      ·refine (spRow_push (ρ := u) (r := 149) (n := u.iv 147) (w := RS.hear (mkW (u.ic 142 (u.iv 150).toNat 0) (u.bc 142 (u.iv 150).toNat 0))) p2 rfl (fun i hi => ?_) ?_).trans ?_
       ·have hn : ¬ (u.iv 147).toNat = i := fun h => by omega
        simp [spAt, mkW, -Int.pred_toNat, Sub.nenv, assoc, CV.I, CV.B, upsI, upsB, Seg.I, Seg.B, SC.I, SC.B, IE.den, BE.den, hn]
       ·simp [spAt, mkW, RS.hear, Sp.zero, -Int.pred_toNat, Sub.nenv, assoc, CV.I, CV.B, upsI, upsB, Seg.I, Seg.B, SC.I, SC.B, IE.den, BE.den, hl, hc]
       ·show spRow u 149 (u.iv 147) ++ _ = ((wdRow u 142 (u.iv 123)).take (u.iv 150 + 1).toNat).map RS.hear
        rw [hrow, show (u.iv 150 + 1).toNat = (u.iv 150).toNat + 1 by omega, wdRow_take (by omega), List.map_append]
        rfl
     ·simp only [Da] at c2
      refine Sat.ob (by simp only [Da]; omega) (Sat.ob (decide_eq_true p2) (Sat.ob (decide_eq_true p3) (Sat.ob (decide_eq_true p4) (Sat.ob (nilOb os) (Sat.newB (fun u => sp2Inv u ∧ u.iv 150 < u.iv 123 ∧ (u.iv 123 - (u.iv 150 + 1)).toNat < (q.iv 123 - q.iv 150).toNat ∧ u.bc 142 (u.iv 150).toNat 0 4 = true) (fun e => ⟨hI', c, by show (q.iv 123 - (q.iv 150 + 1)).toNat < (q.iv 123 - q.iv 150).toNat; omega, c2⟩) fun u hu hb => ?_)))))
      obtain ⟨⟨hA, hB, ⟨i1, i2⟩, ⟨os, hl⟩, hrow⟩, c, hd, hc⟩ := hu
      simp only [Da] at hb
      obtain ⟨p1, p2, p3, p4⟩ := id os
      replace p2 : 0 ≤ u.iv 147 := p2
      have hf2 := hA.2.1
      refine Sat.ob (by simp only [Da]; omega) (Sat.back rfl ⟨⟨hA, hB, ⟨?_, ?_⟩, ⟨⟨fun h => (by cases h), ?_, hb.1, hb.2⟩, ?_⟩, ?_⟩, hd⟩)
      ·show 0 ≤ u.iv 150 + 1; omega
      ·show u.iv 150 + 1 ≤ u.iv 123; omega
      ·show 0 ≤ u.iv 147 + 1; omega
      ·show u.iv 147 + 1 = u.iv 150 + 1; omega
      ·refine (spRow_push (ρ := u) (r := 149) (n := u.iv 147) (w := RS.hear (mkW (u.ic 142 (u.iv 150).toNat 0) (u.bc 142 (u.iv 150).toNat 0))) p2 rfl (fun i hi => ?_) ?_).trans ?_
       ·have hn : ¬ (u.iv 147).toNat = i := fun h => by omega
        simp [spAt, mkW, -Int.pred_toNat, Sub.nenv, assoc, CV.I, CV.B, upsI, upsB, Seg.I, Seg.B, SC.I, SC.B, IE.den, BE.den, hn]
       ·simp [spAt, mkW, RS.hear, -Int.pred_toNat, Sub.nenv, assoc, CV.I, CV.B, upsI, upsB, Seg.I, Seg.B, SC.I, SC.B, IE.den, BE.den, hl, hc]
       ·show spRow u 149 (u.iv 147) ++ _ = ((wdRow u 142 (u.iv 123)).take (u.iv 150 + 1).toNat).map RS.hear
        rw [hrow, show (u.iv 150 + 1).toNat = (u.iv 150).toNat + 1 by omega, wdRow_take (by omega), List.map_append]
        rfl
    ·simp only [Da] at c
     rw [wdRow_full (by omega)] at hrow
     refine Sat.callK (c := mayCon) rfl ⟨os, by show q.iv 147 ≤ 1000000; omega⟩ (fun u => (OkR u 78 ∧ SmW u 116) ∧ (rsRd u 0 4).tookScan (rpRd u 71) = if u.bv 151 = true then (rsRd u 0 78).advance 14 else (rsRd u 0 78).era 15) (fun e hq => ?_) fun u hu => ?_
     ·replace hq : mayPost (conEnv _ 5 151 q (q.join 151 e)) := hq
      refine ⟨⟨⟨o1, o2, o3⟩, ⟨w1, w2⟩, w3, w4⟩, hm.trans ?_⟩
      have hq2 : (q.join 151 e).bv 151 = RS.may (q.iv 119) (spRow q 149 (q.iv 147)) := by
       refine Eq.trans (con_bv (σ := _) (ρ := q) (ρ' := q.join 151 e) (N := 151) 5 0).symm (hq.trans ?_)
       exact congrArg (RS.may (q.iv 119)) (spRow_same rfl fun i => by simp [spAt, conEnv, Env.join, -Int.pred_toNat, Sub.nenv, assoc, CV.I, CV.B, upsI, upsB, Seg.I, Seg.B, SC.I, SC.B, IE.den, BE.den])
      rw [hrow] at hq2
      unfold RS.behind
      rw [if_neg (show ¬ (rsRd q 0 78).engine ≠ 4 from fun h => h he)]
      show (if RS.may (q.iv 119) ((wdRow q 142 (q.iv 123)).map RS.hear) = true then (rsRd q 0 78).advance 14 else (rsRd q 0 78).era 15) = _
      rw [← hq2]
      rfl
     obtain ⟨⟨⟨o1, o2, o3⟩, ⟨w1, w2⟩, w3, w4⟩, hm⟩ := hu
     simp only [Nat.reduceAdd] at w1 w2 w3 w4
     refine Sat.br (fun cb => ?_) (fun cb => ?_)
     ·rw [if_pos (show u.bv 151 = true from cb)] at hm
      exact Sat.ob (by simp only [Da]; omega) (Sat.ob (by simp only [Da]; omega) (Sat.fin ⟨⟨(by first | exact o1 | exact o2 | exact o3 | exact okNil rfl rfl | assumption), (by first | exact o2 | exact ⟨okNil rfl rfl, Int.le_refl 0, .inl rfl⟩ | assumption), (by first | exact o1 | exact o2 | exact o3 | exact okNil rfl rfl | assumption)⟩, Eq.trans (b := (rsRd u 0 78).advance 14) (RS.ext' rfl rfl rfl rfl rfl rfl rW1 rD1 rfl rfl rfl rfl rH1 rfl rN1 rfl rfl) (Eq.symm (hm))⟩))
     ·rw [if_neg (show ¬ u.bv 151 = true from fun h => by rw [show u.bv 151 = false from cb] at h; cases h)] at hm
      exact Sat.fin ⟨⟨(by first | exact o1 | exact o2 | exact o3 | exact okNil rfl rfl | assumption), (by first | exact o2 | exact ⟨okNil rfl rfl, Int.le_refl 0, .inl rfl⟩ | assumption), (by first | exact o1 | exact o2 | exact o3 | exact okNil rfl rfl | assumption)⟩, Eq.trans (b := (rsRd u 0 78).era 15) (RS.ext' rfl rfl rfl rfl rfl rfl rW1 rD1 rfl rfl rfl rfl rH1 rfl rN1 rfl rfl) (Eq.symm (hm))⟩
 simp only [Da] at c2
 refine Sat.br (fun c3 => ?_) (fun c3 => ?_)
 ·simp only [Da] at c3
  have hm : (rsRd ρ 0 4).tookScan (rpRd ρ 71) = (rsRd ρ 0 4).era 15 := by unfold RS.tookScan; exact (if_neg c).trans ((if_neg c2).trans (if_pos c3))
  exact Sat.fin ⟨⟨(by first | exact o1 | exact o2 | exact o3 | exact okNil rfl rfl | assumption), (by first | exact o2 | exact ⟨okNil rfl rfl, Int.le_refl 0, .inl rfl⟩ | assumption), (by first | exact o1 | exact o2 | exact o3 | exact okNil rfl rfl | assumption)⟩, Eq.trans (b := (rsRd ρ 0 4).era 15) (RS.ext' rfl rfl rfl rfl rfl rfl rW1 rD1 rfl rfl rfl rfl rH1 rfl rN1 rfl rfl) (Eq.symm (hm))⟩
 simp only [Da] at c3
 refine Sat.br (fun c4 => ?_) (fun c4 => ?_)
 ·simp only [Da] at c4
  have hm : (rsRd ρ 0 4).tookScan (rpRd ρ 71) = ({ rsRd ρ 0 4 with clock := wdRd ρ 71 } : RS).sift := by unfold RS.tookScan; exact (if_neg c).trans ((if_neg c2).trans ((if_neg c3).trans (if_pos c4)))
  refine r_call (c := siftCon) rfl ({ rsRd ρ 0 4 with clock := wdRd ρ 71 } : RS) ({ rsRd ρ 0 4 with clock := wdRd ρ 71 } : RS).sift (by decide) (by decide) (st4 rfl rfl rfl rfl) ⟨⟨o1, o2, o3⟩, ⟨f1, .inl (h15 c4)⟩, fun _ => hx⟩ (RS.ext' rfl rfl rfl rfl rfl rfl rW1 rD1 rfl rfl rfl rfl rH1 rfl rN1 rfl rfl) (fun e hq hr => ⟨hq.1, by rw [← hr]; exact hq.2⟩) (fun v => OkR v 77 ∧ rsRd v 0 77 = (rsRd v 0 4).tookScan (rpRd v 71)) (fun e h1 h2 => ⟨h1, h2.trans hm.symm⟩) fun v hv => ?_
  obtain ⟨⟨o1, o2, o3⟩, hm⟩ := hv
  exact Sat.fin ⟨⟨(by first | exact o1 | exact o2 | exact o3 | exact okNil rfl rfl | assumption), (by first | exact o2 | exact ⟨okNil rfl rfl, Int.le_refl 0, .inl rfl⟩ | assumption), (by first | exact o1 | exact o2 | exact o3 | exact okNil rfl rfl | assumption)⟩, Eq.trans (b := (rsRd v 0 77)) (RS.ext' rfl rfl rfl rfl rfl rfl rW1 rD1 rfl rfl rfl rfl rH1 rfl rN1 rfl rfl) (Eq.symm (hm.symm))⟩
 ·simp only [Da] at c4
  have hm : (rsRd ρ 0 4).tookScan (rpRd ρ 71) = rsRd ρ 0 4 := by unfold RS.tookScan; exact (if_neg c).trans ((if_neg c2).trans ((if_neg c3).trans ((if_neg c4).trans (if_neg hne))))
  exact Sat.fin ⟨⟨(by first | exact o1 | exact o2 | exact o3 | exact okNil rfl rfl | assumption), (by first | exact o2 | exact ⟨okNil rfl rfl, Int.le_refl 0, .inl rfl⟩ | assumption), (by first | exact o1 | exact o2 | exact o3 | exact okNil rfl rfl | assumption)⟩, Eq.trans (b := (rsRd ρ 0 4)) (RS.ext' rfl rfl rfl rfl rfl rfl rW1 rD1 rfl rfl rfl rfl rH1 rfl rN1 rfl rfl) (Eq.symm (hm))⟩
theorem tScan1_con : ConOK Tryd.prog tScanCon tScan1Pre tScanPost :=
 con_ok tabOK (E := tScanE) (cs := scSem) rfl scSem_ok schedOK rfl tScan_run (by kernel_rfl) (fun ρ h p hp => by
   obtain ⟨-, -, -, -, h⟩ := h
   simp only [List.mem_cons, List.not_mem_nil, or_false] at hp
   subst hp
   exact beq_eq_false_iff_ne.2 h) tScan_sat
def tScanPre (ρ : Env) : Prop := OkR ρ 4 ∧ StR ρ ∧ ScB ρ ∧ SmW ρ 71 ∧ (-1000000000000 ≤ ρ.iv 61 ∧ ρ.iv 61 ≤ 1000000000000) ∧ (ρ.iv 22 = 16 → ∃ d l, (rsRd ρ 0 4).doomed = d :: l ∧ d ∈ (rsRd ρ 0 4).notes)
theorem tScan_con : ConOK Tryd.prog tScanCon tScanPre tScanPost := con_or tScan1_con tFree_con fun ρ h => by
 obtain ⟨h1, h2, h3, h4, h5, h6⟩ := h
 by_cases hs : ρ.iv 22 = 16
 ·exact .inr ⟨h1, ⟨hs, h3.1.1, h5⟩, h6 hs⟩
 ·exact .inl ⟨h1, h2, h3, h4, hs⟩
end Go.Proofs.YthomdlajobnmnaaDoor
