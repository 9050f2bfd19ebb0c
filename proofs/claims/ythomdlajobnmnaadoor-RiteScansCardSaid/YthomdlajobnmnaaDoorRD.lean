/- 'look', 'leave', 'scan', 'retire' -/
import Derived.Test.YthomdlajobnmnaaDoorRC
set_option linter.unusedSimpArgs false
set_option linter.unusedVariables false
namespace Go.Proofs.YthomdlajobnmnaaDoor
open Go.Rex
def StR (ρ : Env) : Prop := 0 ≤ ρ.iv 1 ∧ ρ.iv 1 < 6 ∧ 1 ≤ ρ.iv 2 ∧ ρ.iv 2 ≤ 6
theorem st4 {σ : Sub} {ρ : Env} (h0 : (σ.nenv ρ).iv 0 = ρ.iv 0) (h1 : (σ.nenv ρ).iv 1 = ρ.iv 1) (h2 : (σ.nenv ρ).iv 2 = ρ.iv 2) (h3 : (σ.nenv ρ).iv 3 = ρ.iv 3) : ∀ i, i < 4 → (σ.nenv ρ).iv i = ρ.iv i := by
 intro i hi
 match i with
 | 0 => exact h0
 | 1 => exact h1
 | 2 => exact h2
 | 3 => exact h3
/-! ### look -/
noncomputable def lookE : Ex := { sched := sched, loops := [], cons := [keepCon, spanCon], fin := lookCon }
def lookOut : Out :=
 .br (.or (.ieq (.var 0) (.lit 2)) (.ieq (.var 0) (.lit 3)))
 (.ob (.inr .i64 (.mul (.var 2) (.lit 9))) <|
  .br (.ile (.mul (.var 2) (.lit 9)) (.var 71))
  (.fin { lo := 72, lob := 4, iv := [(138, yv 70), (133, yv 65), (132, yv 64), (131, yv 63), (130, yv 62), (129, yv 61), (128, yv 60), (127, yv 59), (125, yv 57), (124, yv 56), (121, yv 53), (120, yv 52), (137, yv 69), (118, yv 50), (117, yv 49), (115, yv 47), (113, yv 45), (112, yv 44), (111, yv 43), (110, yv 42), (108, yv 40), (107, yv 39), (106, yv 38), (105, yv 37), (103, yv 35), (102, yv 34), (101, yv 33), (100, yv 32), (98, yv 30), (97, yv 29), (96, yv 28), (95, yv 27), (94, yv 26), (93, yv 25), (92, yv 24), (91, yv 23), (90, yv 22), (89, yv 21), (88, yv 20), (87, yv 19), (86, yv 18), (84, yv 16), (83, yv 15), (82, yv 14), (81, yv 13), (79, yv 11), (78, yv 10), (77, yv 9), (76, yv 8), (75, yv 7), (74, yv 6), (73, yv 5), (72, yv 4)], bv := [(135, yw 67), (134, yw 66), (126, yw 58), (123, yw 55), (119, yw 51), (116, yw 48), (114, yw 46), (109, yw 41), (104, yw 36), (99, yw 31), (85, yw 17), (80, yw 12), (139, .lit false)], ct := [(138, yu 70 59 7 yN 0), (137, yu 69 70 7 yN 0), (136, yu 68 49 5 yW 0), (122, yl 54 9 5 50 yW 0)], bk := [(6, yc 3 7), (5, yc 2 7), (4, yc 1 5)] })
  (.ob (.inr .i64 (.div (.var 71) (.lit 9))) <|
   .call 0 { lo := 0, lob := 0, iv := [(1, .mod (.var 71) (.lit 9)), (0, .div (.var 71) (.lit 9))] } 72 <|
   .fin { lo := 72, lob := 4, iv := [(138, yv 70), (133, yv 65), (132, yv 64), (131, yv 63), (130, yv 62), (129, yv 61), (128, yv 60), (127, yv 59), (125, yv 57), (124, yv 56), (121, yv 53), (120, yv 52), (137, yv 69), (118, yv 50), (117, yv 49), (115, yv 71), (113, yv 45), (112, yv 44), (111, yv 43), (110, yv 42), (108, yv 40), (107, yv 39), (106, yv 38), (105, yv 37), (103, .lit 0), (102, .lit 0), (101, .lit 0), (100, .lit 0), (98, .lit 0), (97, .lit 0), (96, .lit 0), (95, .lit 0), (94, .add (.add (.lit 25) (.mul (.div (.var 71) (.lit 9)) (.lit 9))) (.mod (.var 71) (.lit 9))), (93, .lit 0), (92, .lit 0), (91, .lit 1), (90, .lit 13), (89, yv 21), (88, yv 20), (87, yv 19), (86, yv 18), (84, yv 16), (83, yv 15), (82, yv 14), (81, yv 13), (79, yv 11), (78, yv 10), (77, yv 9), (76, yv 8), (75, yv 7), (74, yv 6), (73, yv 5), (72, yv 4)], bv := [(135, yw 67), (134, yw 66), (126, yw 58), (123, yw 55), (119, yw 51), (116, yw 48), (114, yw 46), (109, yw 41), (104, .lit false), (99, .lit false), (85, yw 17), (80, yw 12), (139, .lit true)], ct := [(138, yu 70 59 7 yN 0), (137, yu 69 70 7 yN 0), (136, yu 68 49 5 yW 0), (122, yl 54 9 5 50 yW 0)], bk := [(6, yc 3 7), (5, yc 2 7), (4, yc 1 5)] }))
 (.br (.ile (.var 2) (.var 71))
  (.fin { lo := 72, lob := 4, iv := [(138, yv 70), (133, yv 65), (132, yv 64), (131, yv 63), (130, yv 62), (129, yv 61), (128, yv 60), (127, yv 59), (125, yv 57), (124, yv 56), (121, yv 53), (120, yv 52), (137, yv 69), (118, yv 50), (117, yv 49), (115, yv 47), (113, yv 45), (112, yv 44), (111, yv 43), (110, yv 42), (108, yv 40), (107, yv 39), (106, yv 38), (105, yv 37), (103, yv 35), (102, yv 34), (101, yv 33), (100, yv 32), (98, yv 30), (97, yv 29), (96, yv 28), (95, yv 27), (94, yv 26), (93, yv 25), (92, yv 24), (91, yv 23), (90, yv 22), (89, yv 21), (88, yv 20), (87, yv 19), (86, yv 18), (84, yv 16), (83, yv 15), (82, yv 14), (81, yv 13), (79, yv 11), (78, yv 10), (77, yv 9), (76, yv 8), (75, yv 7), (74, yv 6), (73, yv 5), (72, yv 4)], bv := [(135, yw 67), (134, yw 66), (126, yw 58), (123, yw 55), (119, yw 51), (116, yw 48), (114, yw 46), (109, yw 41), (104, yw 36), (99, yw 31), (85, yw 17), (80, yw 12), (139, .lit false)], ct := [(138, yu 70 59 7 yN 0), (137, yu 69 70 7 yN 0), (136, yu 68 49 5 yW 0), (122, yl 54 9 5 50 yW 0)], bk := [(6, yc 3 7), (5, yc 2 7), (4, yc 1 5)] })
  (.call 1 { lo := 0, lob := 0, iv := [(0, yv 71)] } 72 <|
   .fin { lo := 72, lob := 4, iv := [(138, yv 70), (133, yv 65), (132, yv 64), (131, yv 63), (130, yv 62), (129, yv 61), (128, yv 60), (127, yv 59), (125, yv 57), (124, yv 56), (121, yv 53), (120, yv 52), (137, yv 69), (118, yv 50), (117, yv 49), (115, yv 71), (113, yv 45), (112, yv 44), (111, yv 43), (110, yv 42), (108, yv 40), (107, yv 39), (106, yv 38), (105, yv 37), (103, .lit 0), (102, .lit 0), (101, .lit 0), (100, .lit 0), (98, .lit 0), (97, .lit 0), (96, .lit 0), (95, .lit 0), (94, .add (.lit 79) (.var 71)), (93, .lit 0), (92, .lit 0), (91, .lit 1), (90, .lit 13), (89, yv 21), (88, yv 20), (87, yv 19), (86, yv 18), (84, yv 16), (83, yv 15), (82, yv 14), (81, yv 13), (79, yv 11), (78, yv 10), (77, yv 9), (76, yv 8), (75, yv 7), (74, yv 6), (73, yv 5), (72, yv 4)], bv := [(135, yw 67), (134, yw 66), (126, yw 58), (123, yw 55), (119, yw 51), (116, yw 48), (114, yw 46), (109, yw 41), (104, .lit false), (99, .lit false), (85, yw 17), (80, yw 12), (139, .lit true)], ct := [(138, yu 70 59 7 yN 0), (137, yu 69 70 7 yN 0), (136, yu 68 49 5 yW 0), (122, yl 54 9 5 50 yW 0)], bk := [(6, yc 3 7), (5, yc 2 7), (4, yc 1 5)] }))
theorem look_run : exec tab lookE 8000 [] (cfg0 lookCon.f lookCon.nv [] lookCon.gl lookCon.hp lookCon.args) = lookOut := by kernel_rfl
def lookPre (ρ : Env) : Prop := OkR ρ 4 ∧ StR ρ ∧ 0 ≤ ρ.iv 71 ∧ ρ.iv 71 ≤ 1000000
def lookPost (ρ : Env) : Prop := OkR ρ 72 ∧ ρ.bv 139 = ((rsRd ρ 0 4).look (ρ.iv 71)).isSome ∧ rsRd ρ 0 72 = ((rsRd ρ 0 4).look (ρ.iv 71)).getD (rsRd ρ 0 4)
theorem look_some {r q : RS} {n : Int} (h : r.look n = some q) : (r.look n).getD r = q := by rw [h]; rfl
theorem look_none {r : RS} {n : Int} (h : r.look n = none) : (r.look n).getD r = r := by rw [h]; rfl
theorem dm9 {n : Int} (h : 0 ≤ n) : n.tdiv 9 = n / 9 ∧ n.tmod 9 = n % 9 := ⟨Int.tdiv_eq_ediv_of_nonneg h, Int.tmod_eq_emod_of_nonneg h⟩
theorem look_sat (ρ : Env) (hpre : lookPre ρ.num) : Sat lookPost bSem [] ρ lookOut := by
 replace hpre : lookPre ρ := hpre
 obtain ⟨⟨o1, o2, o3⟩, ⟨s1, s2, s3, s4⟩, n1, n2⟩ := hpre
 unfold lookOut
 refine Sat.br (fun c => ?_) (fun c => ?_)
 ·simp only [Da] at c
  have hk : (rsRd ρ 0 4).keeping := c
  refine Sat.ob (by simp only [Da]; omega) (Sat.br (fun c2 => ?_) (fun c2 => ?_))
  ·simp only [Da] at c2
   have hm : (rsRd ρ 0 4).look (ρ.iv 71) = none := by unfold RS.look; rw [if_pos hk]; exact if_pos c2
   exact Sat.fin ⟨⟨(by first | exact o1 | exact o2 | exact o3 | exact okNil rfl rfl | assumption), (by first | exact o2 | exact ⟨okNil rfl rfl, Int.le_refl 0, .inl rfl⟩ | assumption), (by first | exact o1 | exact o2 | exact o3 | exact okNil rfl rfl | assumption)⟩, (by show false = _; exact (congrArg Option.isSome hm).symm), Eq.trans (b := (rsRd ρ 0 4)) (RS.ext' rfl rfl rfl rfl rfl rfl rW1 rD1 rfl rfl rfl rfl rH1 rfl rN1 rfl rfl) (Eq.symm (look_none hm))⟩
  ·simp only [Da] at c2
   have hm : (rsRd ρ 0 4).look (ρ.iv 71) = some (({ rsRd ρ 0 4 with index := ρ.iv 71 } : RS).load 13 0 0 (25 + ρ.iv 71)) := by unfold RS.look; rw [if_pos hk]; exact if_neg (by show ¬ ρ.iv 71 ≥ ρ.iv 2 * 9; omega)
   obtain ⟨d1, d2⟩ := dm9 n1
   refine Sat.ob (by simp only [Da]; show _ ∧ _; simp only [IE.den, d1]; omega) (Sat.callK (c := keepCon) rfl ⟨⟨?_, ?_⟩, ?_, ?_⟩ (fun q => ((OkR q 4) ∧ 0 ≤ q.iv 71) ∧ (rsRd q 0 4).look (q.iv 71) = some (({ rsRd q 0 4 with index := q.iv 71 } : RS).load 13 0 0 (25 + q.iv 71))) (fun e _ => ⟨⟨⟨o1, o2, o3⟩, n1⟩, hm⟩) fun q hq => ?_)
   ·show 0 ≤ (ρ.iv 71).tdiv 9; omega
   ·show (ρ.iv 71).tdiv 9 < 6; omega
   ·show 0 ≤ (ρ.iv 71).tmod 9; omega
   ·show (ρ.iv 71).tmod 9 < 9; omega
   obtain ⟨⟨⟨o1, o2, o3⟩, n1⟩, hm⟩ := hq
   obtain ⟨d1, d2⟩ := dm9 n1
   have e : 25 + (q.iv 71).tdiv 9 * 9 + (q.iv 71).tmod 9 = 25 + q.iv 71 := by omega
   exact Sat.fin ⟨⟨(by first | exact o1 | exact o2 | exact o3 | exact okNil rfl rfl | assumption), (by first | exact o2 | exact ⟨okNil rfl rfl, Int.le_refl 0, .inl rfl⟩ | assumption), (by first | exact o1 | exact o2 | exact o3 | exact okNil rfl rfl | assumption)⟩, (by show true = _; exact (congrArg Option.isSome hm).symm), Eq.trans (b := (({ rsRd q 0 4 with index := q.iv 71 } : RS).load 13 0 0 (25 + q.iv 71))) (RS.ext' rfl rfl (congrArg (fun x => (⟨1, 0, 0, x, Wd.zero, Wd.zero⟩ : Ac)) e) rfl rfl rfl rW1 rD1 rfl rfl rfl rfl rH1 rfl rN1 rfl rfl) (Eq.symm (look_some hm))⟩
 ·simp only [Da] at c
  have hk : ¬ (rsRd ρ 0 4).keeping := fun h : ρ.iv 0 = 2 ∨ ρ.iv 0 = 3 => by omega
  refine Sat.br (fun c2 => ?_) (fun c2 => ?_)
  ·simp only [Da] at c2
   have hm : (rsRd ρ 0 4).look (ρ.iv 71) = none := by unfold RS.look; rw [if_neg hk]; exact if_pos c2
   exact Sat.fin ⟨⟨(by first | exact o1 | exact o2 | exact o3 | exact okNil rfl rfl | assumption), (by first | exact o2 | exact ⟨okNil rfl rfl, Int.le_refl 0, .inl rfl⟩ | assumption), (by first | exact o1 | exact o2 | exact o3 | exact okNil rfl rfl | assumption)⟩, (by show false = _; exact (congrArg Option.isSome hm).symm), Eq.trans (b := (rsRd ρ 0 4)) (RS.ext' rfl rfl rfl rfl rfl rfl rW1 rD1 rfl rfl rfl rfl rH1 rfl rN1 rfl rfl) (Eq.symm (look_none hm))⟩
  ·simp only [Da] at c2
   have hm : (rsRd ρ 0 4).look (ρ.iv 71) = some (({ rsRd ρ 0 4 with index := ρ.iv 71 } : RS).load 13 0 0 (79 + ρ.iv 71)) := by unfold RS.look; rw [if_neg hk]; exact if_neg (by show ¬ ρ.iv 71 ≥ ρ.iv 2; omega)
   refine Sat.callK (c := spanCon) rfl ⟨n1, ?_⟩ (fun q => ((OkR q 4) ∧ 0 ≤ q.iv 71) ∧ (rsRd q 0 4).look (q.iv 71) = some (({ rsRd q 0 4 with index := q.iv 71 } : RS).load 13 0 0 (79 + q.iv 71))) (fun e _ => ⟨⟨⟨o1, o2, o3⟩, n1⟩, hm⟩) fun q hq => ?_
   ·show ρ.iv 71 < 6; omega
   obtain ⟨⟨⟨o1, o2, o3⟩, n1⟩, hm⟩ := hq
   exact Sat.fin ⟨⟨(by first | exact o1 | exact o2 | exact o3 | exact okNil rfl rfl | assumption), (by first | exact o2 | exact ⟨okNil rfl rfl, Int.le_refl 0, .inl rfl⟩ | assumption), (by first | exact o1 | exact o2 | exact o3 | exact okNil rfl rfl | assumption)⟩, (by show true = _; exact (congrArg Option.isSome hm).symm), Eq.trans (b := (({ rsRd q 0 4 with index := q.iv 71 } : RS).load 13 0 0 (79 + q.iv 71))) (RS.ext' rfl rfl rfl rfl rfl rfl rW1 rD1 rfl rfl rfl rfl rH1 rfl rN1 rfl rfl) (Eq.symm (look_some hm))⟩
theorem look_con : ConOK Tryd.prog lookCon lookPre lookPost :=
 con_ok tabOK (E := lookE) (cs := bSem) rfl bSem_ok schedOK rfl look_run (by kernel_rfl) (fun ρ _ p hp => by cases hp) look_sat
end Go.Proofs.YthomdlajobnmnaaDoor

set_option linter.unusedSimpArgs false
set_option linter.unusedVariables false
namespace Go.Proofs.YthomdlajobnmnaaDoor
open Go.Rex
noncomputable def leaveE : Ex := { sched := sched, loops := [Lleave], cons := [keepCon, spanCon], fin := leaveCon }
def leaveOut : Out :=
 .br (.and (.or (.ieq (.var 0) (.lit 4)) (.ieq (.var 0) (.lit 5))) (.not (.and (.not (.var 55)) (.and (.ieq (.var 56) (.lit 0)) (.ieq (.var 57) (.lit 0))))))
 (.call 1 { lo := 0, lob := 0, iv := [(0, yv 1)] } 72 <|
  .fin { lo := 72, lob := 4, iv := [(138, yv 70), (133, yv 65), (132, yv 64), (131, yv 63), (130, yv 62), (129, yv 61), (128, yv 60), (127, yv 59), (125, .lit 0), (124, .lit 0), (121, yv 53), (120, yv 52), (137, yv 69), (118, yv 50), (117, yv 49), (115, yv 47), (113, yv 45), (112, yv 44), (111, yv 43), (110, yv 42), (108, yv 40), (107, yv 39), (106, yv 38), (105, yv 37), (103, .lit 0), (102, .lit 0), (101, .lit 0), (100, .lit 0), (98, .lit 0), (97, .lit 0), (96, .lit 0), (95, .lit 0), (94, .add (.lit 79) (.var 1)), (93, .lit 0), (92, .lit 0), (91, .lit 2), (90, .lit 2), (89, yv 21), (88, yv 20), (87, yv 19), (86, yv 18), (84, yv 16), (83, yv 15), (82, yv 14), (81, yv 13), (79, yv 11), (78, yv 10), (77, yv 9), (76, yv 8), (75, yv 7), (74, yv 6), (73, yv 5), (72, yv 4)], bv := [(135, yw 67), (134, yw 66), (126, yw 58), (123, .lit false), (119, yw 51), (116, yw 48), (114, yw 46), (109, yw 41), (104, .lit false), (99, .lit false), (85, yw 17), (80, yw 12)], ct := [(138, yu 70 59 7 yN 0), (137, yu 69 70 7 yN 0), (136, yu 68 49 5 yW 0), (122, yl 54 9 5 50 yW 0)], bk := [(6, yc 3 7), (5, yc 2 7), (4, yc 1 5)] })
 (.br (.or (.ieq (.var 0) (.lit 2)) (.ieq (.var 0) (.lit 3)))
  (.loop 72 { lo := 72, lob := 4, iv := [(72, yv 71)] } <|
   .br (.ilt (.var 72) (.lit 9))
   (.ob (.ile (.lit 0) (.var 72)) <|
    .br (.not (.and (.ieq (.cell 54 (.var 72) (.lit 0) 0) (.lit 0)) (.and (.ieq (.cell 54 (.var 72) (.lit 0) 1) (.lit 0)) (.and (.ieq (.cell 54 (.var 72) (.lit 0) 2) (.lit 0)) (.and (.ieq (.cell 54 (.var 72) (.lit 0) 3) (.lit 0)) (.not (.cell 54 (.var 72) (.lit 0) 4)))))))
    (.call 0 { lo := 0, lob := 0, iv := [(1, yv 72), (0, yv 1)] } 73 <|
     .fin { lo := 72, lob := 4, iv := [(138, yv 70), (133, yv 65), (132, yv 64), (131, yv 63), (130, yv 62), (129, yv 61), (128, yv 60), (127, yv 59), (125, yv 57), (124, yv 56), (121, yv 53), (120, yv 52), (137, yv 69), (118, yv 50), (117, yv 49), (115, yv 72), (113, yv 45), (112, yv 44), (111, yv 43), (110, yv 42), (108, yv 40), (107, yv 39), (106, yv 38), (105, yv 37), (103, .lit 0), (102, .lit 0), (101, .lit 0), (100, .lit 0), (98, .lit 0), (97, .lit 0), (96, .lit 0), (95, .lit 0), (94, .add (.add (.lit 25) (.mul (.var 1) (.lit 9))) (.var 72)), (93, .lit 0), (92, .lit 0), (91, .lit 2), (90, .lit 4), (89, yv 21), (88, yv 20), (87, yv 19), (86, yv 18), (84, yv 16), (83, yv 15), (82, yv 14), (81, yv 13), (79, yv 11), (78, yv 10), (77, yv 9), (76, yv 8), (75, yv 7), (74, yv 6), (73, yv 5), (72, yv 4)], bv := [(135, yw 67), (134, yw 66), (126, yw 58), (123, yw 55), (119, yw 51), (116, yw 48), (114, yw 46), (109, yw 41), (104, .lit false), (99, .lit false), (85, yw 17), (80, yw 12)], ct := [(138, yu 70 59 7 yN 0), (137, yu 69 70 7 yN 0), (136, yu 68 49 5 yW 0), (122, .up { r := 54, n1 := .lit 9, s1 := 5, lo := 50, ks := yW } 0 [⟨0, (.var 72), (.lit 0), 4, .bool (.lit false)⟩, ⟨0, (.var 72), (.lit 0), 3, .int .i64 (.lit 0)⟩, ⟨0, (.var 72), (.lit 0), 2, .int .i64 (.lit 0)⟩, ⟨0, (.var 72), (.lit 0), 1, .int .i64 (.lit 0)⟩, ⟨0, (.var 72), (.lit 0), 0, .int .i64 (.lit 0)⟩] (.lit 0))], bk := [(6, yc 3 7), (5, yc 2 7), (4, yc 1 5)] })
    (.ob (.inr .i64 (.add (.var 72) (.lit 1))) <|
     .back 0 { lo := 72, lob := 4, iv := [(72, .add (.var 72) (.lit 1))] }))
   (.fin { lo := 72, lob := 4, iv := [(133, .lit 0), (132, .lit 0), (131, .lit 0), (130, .lit 0), (129, yv 61), (128, yv 60), (127, yv 59), (125, yv 57), (124, yv 56), (121, .lit 0), (120, .lit 0), (118, .lit 0), (117, .lit 0), (115, .lit 0), (113, .lit 0), (112, .lit 0), (111, .lit 0), (110, .lit 0), (108, .lit 0), (107, .lit 0), (106, .lit 0), (105, .lit 0), (103, .lit 0), (102, .lit 0), (101, .lit 0), (100, .lit 0), (98, .lit 0), (97, .lit 0), (96, .lit 0), (95, .lit 0), (94, .lit 0), (93, .lit 0), (92, .lit 0), (91, .lit 0), (90, .lit 0), (89, .lit 0), (88, .lit 0), (87, .lit 0), (86, .lit 0), (84, .lit 0), (83, .lit 0), (82, .lit 0), (81, .lit 0), (79, .lit 0), (78, .lit 0), (77, .lit 0), (76, .lit 0), (75, .lit 0), (74, .lit 0), (73, .lit 0), (72, .lit 0)], bv := [(135, .lit true), (134, .lit false), (126, yw 58), (123, yw 55), (119, .lit true), (116, .lit true), (114, .lit false), (109, .lit false), (104, .lit false), (99, .lit false), (85, .lit false), (80, .lit false)], ct := [(138, yu 70 59 7 yN 0), (122, yl 54 9 5 50 yW 0)], bk := [(6, yc 3 7)], nb := [5, 4, 5, 4] }))
  (.fin { lo := 72, lob := 4, iv := [(133, .lit 0), (132, .lit 0), (131, .lit 0), (130, .lit 0), (129, yv 61), (128, yv 60), (127, yv 59), (125, yv 57), (124, yv 56), (121, .lit 0), (120, .lit 0), (118, .lit 0), (117, .lit 0), (115, .lit 0), (113, .lit 0), (112, .lit 0), (111, .lit 0), (110, .lit 0), (108, .lit 0), (107, .lit 0), (106, .lit 0), (105, .lit 0), (103, .lit 0), (102, .lit 0), (101, .lit 0), (100, .lit 0), (98, .lit 0), (97, .lit 0), (96, .lit 0), (95, .lit 0), (94, .lit 0), (93, .lit 0), (92, .lit 0), (91, .lit 0), (90, .lit 0), (89, .lit 0), (88, .lit 0), (87, .lit 0), (86, .lit 0), (84, .lit 0), (83, .lit 0), (82, .lit 0), (81, .lit 0), (79, .lit 0), (78, .lit 0), (77, .lit 0), (76, .lit 0), (75, .lit 0), (74, .lit 0), (73, .lit 0), (72, .lit 0)], bv := [(135, .lit true), (134, .lit false), (126, yw 58), (123, yw 55), (119, .lit true), (116, .lit true), (114, .lit false), (109, .lit false), (104, .lit false), (99, .lit false), (85, .lit false), (80, .lit false)], ct := [(138, yu 70 59 7 yN 0), (122, yl 54 9 5 50 yW 0)], bk := [(6, yc 3 7)], nb := [5, 4, 5, 4] }))
theorem leave_run : exec tab leaveE 8000 [] (cfg0 leaveCon.f leaveCon.nv [] leaveCon.gl leaveCon.hp leaveCon.args) = leaveOut := by kernel_rfl
def leavePre (ρ : Env) : Prop := OkR ρ 4 ∧ StR ρ ∧ 0 ≤ ρ.iv 71 ∧ ρ.iv 71 ≤ 9
def leavePost (ρ : Env) : Prop := OkR ρ 72 ∧ rsRd ρ 0 72 = (rsRd ρ 0 4).leave (ρ.iv 71)
def leaveInv (ρ : Env) : Prop := leavePre ρ ∧ (0 ≤ ρ.iv 72 ∧ ρ.iv 72 ≤ 9) ∧ ((¬ ((rsRd ρ 0 4).spanning ∧ (rsRd ρ 0 4).span ≠ Sp.zero)) ∧ (rsRd ρ 0 4).keeping) ∧ RS.first (rsRd ρ 0 4).holds (ρ.iv 71).toNat (9 - (ρ.iv 71).toNat) = RS.first (rsRd ρ 0 4).holds (ρ.iv 72).toNat (9 - (ρ.iv 72).toNat)
theorem leave_sat (ρ : Env) (hpre : leavePre ρ.num) : Sat leavePost bSem [] ρ leaveOut := by
 replace hpre : leavePre ρ := hpre
 have hpre' := hpre
 obtain ⟨⟨o1, o2, o3⟩, ⟨s1, s2, s3, s4⟩, n1, n2⟩ := hpre
 unfold leaveOut
 refine Sat.br (fun c => ?_) (fun c => ?_)
 ·simp only [Da] at c
  have hA : (rsRd ρ 0 4).spanning ∧ (rsRd ρ 0 4).span ≠ Sp.zero := by
   refine ⟨c.1, fun h => ?_⟩
   have h' : (⟨ρ.bv 55, ρ.iv 56, ρ.iv 57⟩ : Sp) = ⟨false, 0, 0⟩ := h
   simp only [Sp.mk.injEq] at h'
   simp_all
  have hm : (rsRd ρ 0 4).leave (ρ.iv 71) = (rsRd ρ 0 4).announce 2 Sp.zero := if_pos hA
  refine Sat.callK (c := spanCon) rfl ⟨s1, s2⟩ (fun q => (OkR q 4) ∧ (rsRd q 0 4).leave (q.iv 71) = (rsRd q 0 4).announce 2 Sp.zero) (fun e _ => ⟨⟨o1, o2, o3⟩, hm⟩) fun q hq => ?_
  obtain ⟨⟨o1, o2, o3⟩, hm⟩ := hq
  exact Sat.fin ⟨⟨(by first | exact o1 | exact o2 | exact o3 | exact okNil rfl rfl | assumption), (by first | exact o2 | exact ⟨okNil rfl rfl, Int.le_refl 0, .inl rfl⟩ | assumption), (by first | exact o1 | exact o2 | exact o3 | exact okNil rfl rfl | assumption)⟩, Eq.trans (b := (rsRd q 0 4).announce 2 Sp.zero) (RS.ext' rfl rfl rfl rfl rfl rfl rW1 rD1 rfl rfl rfl rfl rH1 rfl rN1 rfl rfl) (Eq.symm (hm))⟩
 ·simp only [Da] at c
  have hA : ¬ ((rsRd ρ 0 4).spanning ∧ (rsRd ρ 0 4).span ≠ Sp.zero) := by
   rintro ⟨h1, h2⟩
   apply h2
   show (⟨ρ.bv 55, ρ.iv 56, ρ.iv 57⟩ : Sp) = ⟨false, 0, 0⟩
   have h1 : ρ.iv 0 = 4 ∨ ρ.iv 0 = 5 := h1
   rcases c with c | ⟨a, b, c⟩
   ·omega
   ·rw [a, b, c]
  refine Sat.br (fun c2 => ?_) (fun c2 => ?_)
  ·simp only [Da] at c2
   have hk : (rsRd ρ 0 4).keeping := c2
   refine Sat.loopK leaveInv (fun r => (9 - r.iv 72).toNat) (fun _ => True) ⟨hpre', ⟨n1, n2⟩, ⟨hA, hk⟩, rfl⟩ (fun _ => trivial) fun q _ hI => ?_
   replace hI : leaveInv q := hI
   obtain ⟨⟨⟨o1, o2, o3⟩, ⟨s1, s2, s3, s4⟩, n1, n2⟩, ⟨i1, i2⟩, ⟨hA, hk⟩, hf⟩ := hI
   have hpre' : leavePre q := ⟨⟨o1, o2, o3⟩, ⟨s1, s2, s3, s4⟩, n1, n2⟩
   refine Sat.br (fun c => ?_) (fun c => ?_)
   ·simp only [Da] at c
    have hs : 9 - (q.iv 72).toNat = (9 - (q.iv 72 + 1).toNat) + 1 := by omega
    rw [hs] at hf
    refine Sat.ob (decide_eq_true i1) (Sat.br (fun c3 => ?_) (fun c3 => ?_))
    ·simp only [Da] at c3
     have hne : (rsRd q 0 4).holds (q.iv 72).toNat ≠ Wd.zero := fun h => by
      have h' := wd_eq'.1 h
      simp only [rsRd, mkW, Wd.zero] at h'
      simp_all
     have hm : (rsRd q 0 4).leave (q.iv 71) = ({ rsRd q 0 4 with index := q.iv 72 } : RS).post 4 (q.iv 72) Wd.zero := by
      have e : RS.first (rsRd q 0 4).holds (q.iv 71).toNat (9 - (q.iv 71).toNat) = some (q.iv 72).toNat := by rw [hf]; exact if_pos hne
      unfold RS.leave
      rw [if_neg hA, if_pos hk, e]
      simp only [Int.toNat_of_nonneg i1]
     refine Sat.callK (c := keepCon) rfl ⟨⟨s1, s2⟩, i1, c⟩ (fun r => ((OkR r 4) ∧ 0 ≤ r.iv 72) ∧ (rsRd r 0 4).leave (r.iv 71) = ({ rsRd r 0 4 with index := r.iv 72 } : RS).post 4 (r.iv 72) Wd.zero) (fun e _ => ⟨⟨⟨o1, o2, o3⟩, i1⟩, hm⟩) fun r hr => ?_
     obtain ⟨⟨⟨o1, o2, o3⟩, i1⟩, hm⟩ := hr
     refine Sat.fin ⟨⟨(by first | exact o1 | exact o2 | exact o3 | exact okNil rfl rfl | assumption), (by first | exact o2 | exact ⟨okNil rfl rfl, Int.le_refl 0, .inl rfl⟩ | assumption), (by first | exact o1 | exact o2 | exact o3 | exact okNil rfl rfl | assumption)⟩, Eq.trans (b := ({ rsRd r 0 4 with index := r.iv 72 } : RS).post 4 (r.iv 72) Wd.zero) (RS.ext' rfl rfl rfl rfl rfl rfl rW1 rD1 rfl rfl rfl rfl ?_ rfl rN1 rfl rfl) (Eq.symm (hm))⟩
     intro i
     show _ = if i = (r.iv 72).toNat then Wd.zero else mkW (r.ic 54 i 0) (r.bc 54 i 0)
     by_cases h : i = (r.iv 72).toNat
     ·subst h
      simp [rsRd, mkW, Wd.zero, -Int.pred_toNat, Sub.nenv, assoc, CV.I, CV.B, upsI, upsB, Seg.I, Seg.B, SC.I, SC.B, IE.den, BE.den]
     ·simp [rsRd, mkW, -Int.pred_toNat, Sub.nenv, assoc, CV.I, CV.B, upsI, upsB, Seg.I, Seg.B, SC.I, SC.B, IE.den, BE.den, h, Ne.symm h]
    ·simp only [Da] at c3
     have he : (rsRd q 0 4).holds (q.iv 72).toNat = Wd.zero := by
      apply wd_eq'.2
      simp only [rsRd, mkW, Wd.zero]
      simp_all
     refine Sat.ob (by simp only [Da]; omega) (Sat.back rfl ⟨⟨hpre', ⟨?_, ?_⟩, ⟨hA, hk⟩, ?_⟩, ?_⟩)
     ·show 0 ≤ q.iv 72 + 1; omega
     ·show q.iv 72 + 1 ≤ 9; omega
     ·show RS.first (rsRd q 0 4).holds (q.iv 71).toNat (9 - (q.iv 71).toNat) = RS.first (rsRd q 0 4).holds (q.iv 72 + 1).toNat (9 - (q.iv 72 + 1).toNat)
      rw [hf, show (q.iv 72 + 1).toNat = (q.iv 72).toNat + 1 by omega]
      exact if_neg (fun h => h he)
     ·show (9 - (q.iv 72 + 1)).toNat < (9 - q.iv 72).toNat
      omega
   ·simp only [Da] at c
    have hm : (rsRd q 0 4).leave (q.iv 71) = (rsRd q 0 4).done := by
     have e : RS.first (rsRd q 0 4).holds (q.iv 71).toNat (9 - (q.iv 71).toNat) = none := by rw [hf, show 9 - (q.iv 72).toNat = 0 by omega]; rfl
     unfold RS.leave
     rw [if_neg hA, if_pos hk, e]
    exact Sat.fin ⟨⟨(by first | exact o1 | exact o2 | exact o3 | exact okNil rfl rfl | assumption), (by first | exact o2 | exact ⟨okNil rfl rfl, Int.le_refl 0, .inl rfl⟩ | assumption), (by first | exact o1 | exact o2 | exact o3 | exact okNil rfl rfl | assumption)⟩, Eq.trans (b := (rsRd q 0 4).done) (RS.ext' rfl rfl rfl rfl rfl rfl rW1 rD1 rfl rfl rfl rfl rH1 rfl rN1 rfl rfl) (Eq.symm (hm))⟩
  ·simp only [Da] at c2
   have hk : ¬ (rsRd ρ 0 4).keeping := fun h : ρ.iv 0 = 2 ∨ ρ.iv 0 = 3 => by omega
   have hm : (rsRd ρ 0 4).leave (ρ.iv 71) = (rsRd ρ 0 4).done := by
    unfold RS.leave
    rw [if_neg hA, if_neg hk]
   exact Sat.fin ⟨⟨(by first | exact o1 | exact o2 | exact o3 | exact okNil rfl rfl | assumption), (by first | exact o2 | exact ⟨okNil rfl rfl, Int.le_refl 0, .inl rfl⟩ | assumption), (by first | exact o1 | exact o2 | exact o3 | exact okNil rfl rfl | assumption)⟩, Eq.trans (b := (rsRd ρ 0 4).done) (RS.ext' rfl rfl rfl rfl rfl rfl rW1 rD1 rfl rfl rfl rfl rH1 rfl rN1 rfl rfl) (Eq.symm (hm))⟩
theorem leave_con : ConOK Tryd.prog leaveCon leavePre leavePost :=
 con_ok tabOK (E := leaveE) (cs := bSem) rfl bSem_ok schedOK rfl leave_run (by kernel_rfl) (fun ρ _ p hp => by cases hp) leave_sat
end Go.Proofs.YthomdlajobnmnaaDoor
