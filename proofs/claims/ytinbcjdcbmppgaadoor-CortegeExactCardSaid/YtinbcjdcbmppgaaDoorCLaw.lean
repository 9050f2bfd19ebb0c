/- 'CortegeExact': every operation, every row of replies -/
import Derived.Test.YtinbcjdcbmppgaaDoorCStepA
import Derived.Test.YtinbcjdcbmppgaaDoorCStepB
import Derived.Test.YtinbcjdcbmppgaaDoorCStepC
import Derived.Test.YtinbcjdcbmppgaaDoorCStepD
set_option linter.unusedSimpArgs false
set_option linter.unusedVariables false
namespace Go.Proofs.YtinbcjdcbmppgaaDoor
open Go.Rex
theorem step_all {v u : Env} (ha : RelAt (v.iv 0) (u.iv 4)) (hR : RelIn v u) (hJ : cjOut.says v) (hU : cuOut.says u) : CallEq v u ∧ RelOut v u ∧ RelAt (v.iv 68) (u.iv 72) := by
  by_cases hk : v.iv 19 = 4
  · rcases ha with ⟨h1, h2, h3⟩ | ⟨h1, h2⟩
    · have : v.iv 0 = 0 ∨ v.iv 0 = 1 ∨ v.iv 0 = 2 ∨ v.iv 0 = 3 ∨ v.iv 0 = 4 ∨ v.iv 0 = 5 ∨ v.iv 0 = 6 ∨ v.iv 0 = 7 ∨ v.iv 0 = 8 := by omega
      rcases this with h | h | h | h | h | h | h | h | h
      · exact st_1_0 hk h (by omega) hR hJ hU
      · exact st_1_1 hk h (by omega) hR hJ hU
      · exact st_1_2 hk h (by omega) hR hJ hU
      · exact st_1_3 hk h (by omega) hR hJ hU
      · exact st_1_4 hk h (by omega) hR hJ hU
      · exact st_1_5 hk h (by omega) hR hJ hU
      · exact st_1_6 hk h (by omega) hR hJ hU
      · exact st_1_7 hk h (by omega) hR hJ hU
      · exact st_1_8 hk h (by omega) hR hJ hU
    · exact st_1_m1 hk h1 h2 hR hJ hU
  · rcases ha with ⟨h1, h2, h3⟩ | ⟨h1, h2⟩
    · have : v.iv 0 = 0 ∨ v.iv 0 = 1 ∨ v.iv 0 = 2 ∨ v.iv 0 = 3 ∨ v.iv 0 = 4 ∨ v.iv 0 = 5 ∨ v.iv 0 = 6 ∨ v.iv 0 = 7 ∨ v.iv 0 = 8 := by omega
      rcases this with h | h | h | h | h | h | h | h | h
      · exact st_0_0 hk h (by omega) hR hJ hU
      · exact st_0_1 hk h (by omega) hR hJ hU
      · exact st_0_2 hk h (by omega) hR hJ hU
      · exact st_0_3 hk h (by omega) hR hJ hU
      · exact st_0_4 hk h (by omega) hR hJ hU
      · exact st_0_5 hk h (by omega) hR hJ hU
      · exact st_0_6 hk h (by omega) hR hJ hU
      · exact st_0_7 hk h (by omega) hR hJ hU
      · exact st_0_8 hk h (by omega) hR hJ hU
    · exact st_0_m1 hk h1 h2 hR hJ hU
noncomputable def awakeE : Ex := { sched := sched, loops := [], cons := [isCon], fin := awakeCon }
def awakeOut : Out :=
  .call 0 { lo := 0, lob := 0, iv := [(0, (.lit 8))], bk := [(1, { blk := 1 }), (0, { blk := 97 })] } 1 <|
   .fin { lo := 1, lob := 2 }
theorem is_con : ConOK Tryd.prog isCon yesPre yesPre := by
  refine con_pure ⟨_, Tryd.func7, by kernel_rfl, by kernel_rfl⟩ rfl (fun ρ ν w hhp _ _ => ?_) fun _ _ => trivial
  obtain ⟨-, cs, hcs, hrd⟩ := hhp.rd 0 _ rfl rfl rfl
  have h1 := hrd 1 _ (hcs.ex 1 _ rfl rfl)
  have e0 : SA.den ρ ν { blk := 0 } = ν 0 := by simp [SA.den, SA.off, IE.den, Addr.add_zero]
  have e1 : SA.den ρ ν { blk := 1 } = ν 1 := by simp [SA.den, SA.off, IE.den, Addr.add_zero]
  have h2 : w.cell? ⟨(ν 0).block, (ν 0).off + 1, none⟩ = some (.iface 86 (.pointer (some (ν 1)))) := by
    have h1 : w.cell? ((ν 0).add 1) = some (.iface 86 (.pointer (some (SA.den ρ ν { blk := 1 })))) := h1
    rw [e1] at h1
    exact h1
  have hc := is_wrap_same (ν 0) (ν 1) w h2
  show Calls Tryd.prog 7 #[.iface 57 (.pointer (some (SA.den ρ ν { blk := 0 }))), .iface 86 (.pointer (some (SA.den ρ ν { blk := 1 })))] w _
  rw [e0, e1]
  exact hc
theorem awake_run : exec tab awakeE 20000 [] (cfg0 4 1 [] (sentGl ssA 0) awakeCon.hp awakeCon.args) = awakeOut := by kernel_rfl
theorem awake_con : ConOK Tryd.prog awakeCon yesPre yesPre :=
  con_ok tabOK (E := awakeE) (cs := [(isCon, yesPre, yesPre)]) rfl (fun k pre post h => by
    cases h with
    | head => exact ⟨by kernel_rfl, is_con⟩
    | tail _ h => cases h) schedOK rfl awake_run (by kernel_rfl) (fun ρ _ p hp => by cases hp) fun ρ _ => by
      unfold awakeOut
      repeat' first
        | refine Sat.new fun _ _ => ?_
        | refine Sat.call rfl trivial fun _ _ => ?_
        | exact Sat.fin trivial
noncomputable def clawE : Ex := { sched := sched, loops := [L3], cons := [isCon, awakeCon, nextJ, nextU], fin := lawConG 28 ssA 3 [shOp, shRep] }
def clawLoop : Out :=
  .loop 8 { lo := 8, lob := 8, iv := [(96, (.lit 0)), (95, (.lit 0)), (94, (.lit 0)), (93, (.lit 0)), (91, (.lit 0)), (90, (.lit 0)), (89, (.lit 0)), (88, (.lit 0)), (86, (.lit 0)), (85, (.lit 0)), (84, (.lit 0)), (83, (.lit 0)), (82, (.lit 0)), (81, (.lit 0)), (80, (.lit 0)), (79, (.lit 0)), (78, (.lit 0)), (76, (.lit 0)), (75, (.lit 0)), (74, (.lit 0)), (73, (.lit 0)), (71, (.lit 0)), (70, (.lit 0)), (69, (.lit 0)), (68, (.lit 0)), (66, (.lit 0)), (65, (.lit 0)), (64, (.lit 0)), (63, (.lit 0)), (61, (.lit 0)), (60, (.lit 0)), (59, (.lit 0)), (58, (.lit 0)), (57, (.lit 0)), (56, (.var 3)), (55, (.var 2)), (54, (.var 1)), (53, (.var 0)), (52, (.lit 0)), (50, (.lit 0)), (49, (.lit 0)), (48, (.lit 0)), (47, (.lit 0)), (45, (.lit 0)), (44, (.lit 0)), (43, (.lit 0)), (42, (.lit 0)), (40, (.lit 0)), (39, (.lit 0)), (38, (.lit 0)), (37, (.lit 0)), (35, (.lit 0)), (34, (.lit 0)), (33, (.lit 0)), (32, (.lit 0)), (31, (.var 3)), (30, (.var 2)), (29, (.var 1)), (28, (.var 0)), (27, (.lit 0)), (26, (.lit 0)), (25, (.lit 0)), (24, (.lit 0)), (22, (.lit 0)), (21, (.lit 0)), (20, (.lit 0)), (19, (.lit 0)), (17, (.lit 0)), (16, (.lit 0)), (15, (.lit 0)), (14, (.lit 0)), (13, (.lit 0)), (12, (.lit 0)), (11, (.lit 0)), (10, (.lit 0)), (9, (.lit 0)), (8, (.lit 0))], bv := [(92, (.lit false)), (87, (.lit false)), (77, (.lit false)), (72, (.lit false)), (67, (.lit false)), (62, (.lit false)), (51, (.lit false)), (46, (.lit false)), (41, (.lit false)), (36, (.lit false)), (23, (.lit false)), (18, (.lit false))] } <|
  .ob (.or (.not (.var 4)) (.ieq (.var 5) (.lit 0))) <|
  .ob (.ile (.lit 0) (.var 5)) <|
  .br (.and (.ilt (.var 8) (.var 5)) (.ilt (.var 8) (.lit 100)))
  (.ob (.not (.var 4)) <|
   .ob (.ile (.lit 0) (.var 8)) <|
   .call 2 { lo := 0, lob := 0, iv := [(43, (.var 52)), (41, (.var 50)), (40, (.var 49)), (39, (.var 48)), (38, (.var 47)), (36, (.var 45)), (35, (.var 44)), (34, (.var 43)), (33, (.var 42)), (31, (.var 40)), (30, (.var 39)), (29, (.var 38)), (28, (.var 37)), (26, (.var 35)), (25, (.var 34)), (24, (.var 33)), (23, (.var 32)), (22, (.var 31)), (21, (.var 30)), (20, (.var 29)), (19, (.var 28)), (18, (.var 27)), (17, (.var 26)), (16, (.var 25)), (15, (.var 24)), (13, (.var 22)), (12, (.var 21)), (11, (.var 20)), (10, (.var 19)), (8, (.var 17)), (7, (.var 16)), (6, (.var 15)), (5, (.var 14)), (4, (.var 13)), (3, (.var 12)), (2, (.var 11)), (1, (.var 10)), (0, (.var 9)), (47, (.cell 7 (.var 8) (.lit 0) 3)), (46, (.cell 7 (.var 8) (.lit 0) 2)), (45, (.cell 7 (.var 8) (.lit 0) 1)), (44, (.cell 7 (.var 8) (.lit 0) 0))], bv := [(42, (.var 51)), (37, (.var 46)), (32, (.var 41)), (27, (.var 36)), (14, (.var 23)), (9, (.var 18)), (49, (.cell 7 (.var 8) (.lit 0) 5)), (48, (.cell 7 (.var 8) (.lit 0) 4))], bk := [(0, { blk := 5 })] } 97 <|
   .call 3 { lo := 0, lob := 0, iv := [(43, (.var 96)), (42, (.var 95)), (41, (.var 94)), (40, (.var 93)), (38, (.var 91)), (37, (.var 90)), (36, (.var 89)), (35, (.var 88)), (33, (.var 86)), (32, (.var 85)), (31, (.var 84)), (30, (.var 83)), (29, (.var 82)), (28, (.var 81)), (27, (.var 80)), (26, (.var 79)), (25, (.var 78)), (23, (.var 76)), (22, (.var 75)), (21, (.var 74)), (20, (.var 73)), (18, (.var 71)), (17, (.var 70)), (16, (.var 69)), (15, (.var 68)), (13, (.var 66)), (12, (.var 65)), (11, (.var 64)), (10, (.var 63)), (8, (.var 61)), (7, (.var 60)), (6, (.var 59)), (5, (.var 58)), (4, (.var 57)), (3, (.var 56)), (2, (.var 55)), (1, (.var 54)), (0, (.var 53)), (47, (.cell 7 (.var 8) (.lit 0) 3)), (46, (.cell 7 (.var 8) (.lit 0) 2)), (45, (.cell 7 (.var 8) (.lit 0) 1)), (44, (.cell 7 (.var 8) (.lit 0) 0))], bv := [(39, (.var 92)), (34, (.var 87)), (24, (.var 77)), (19, (.var 72)), (14, (.var 67)), (9, (.var 62)), (49, (.cell 7 (.var 8) (.lit 0) 5)), (48, (.cell 7 (.var 8) (.lit 0) 4))], bk := [(0, { blk := 7 })] } 159 <|
   .br (.not (.and (.ieq (.var 97) (.var 159)) (.and (.and (.ieq (.var 98) (.var 160)) (.and (.ieq (.var 99) (.var 161)) (.ieq (.var 100) (.var 162)))) (.and (.and (.ieq (.var 101) (.var 163)) (.and (.ieq (.var 102) (.var 164)) (.and (.ieq (.var 103) (.var 165)) (.and (.ieq (.var 104) (.var 166)) (.beq (.var 105) (.var 167)))))) (.and (.and (.ieq (.var 106) (.var 168)) (.and (.ieq (.var 107) (.var 169)) (.and (.ieq (.var 108) (.var 170)) (.and (.ieq (.var 109) (.var 171)) (.beq (.var 110) (.var 172)))))) (.and (.ieq (.var 111) (.var 173)) (.and (.ieq (.var 112) (.var 174)) (.and (.ieq (.var 113) (.var 175)) (.ieq (.var 114) (.var 176))))))))))
   (.fin { lo := 8, lob := 3, bv := [(8, (.lit false))] })
   (.ob (.inr .i64 (.add (.var 8) (.lit 1))) <|
    .back 0 { lo := 8, lob := 8, iv := [(96, (.var 220)), (95, (.var 219)), (94, (.var 218)), (93, (.var 217)), (91, (.var 215)), (90, (.var 214)), (89, (.var 213)), (88, (.var 212)), (86, (.var 210)), (85, (.var 209)), (84, (.var 208)), (83, (.var 207)), (82, (.var 206)), (81, (.var 205)), (80, (.var 204)), (79, (.var 203)), (78, (.var 202)), (76, (.var 200)), (75, (.var 199)), (74, (.var 198)), (73, (.var 197)), (71, (.var 195)), (70, (.var 194)), (69, (.var 193)), (68, (.var 192)), (66, (.var 190)), (65, (.var 189)), (64, (.var 188)), (63, (.var 187)), (61, (.var 185)), (60, (.var 184)), (59, (.var 183)), (58, (.var 182)), (57, (.var 181)), (56, (.var 180)), (55, (.var 179)), (54, (.var 178)), (53, (.var 177)), (52, (.var 158)), (50, (.var 156)), (49, (.var 155)), (48, (.var 154)), (47, (.var 153)), (45, (.var 151)), (44, (.var 150)), (43, (.var 149)), (42, (.var 148)), (40, (.var 146)), (39, (.var 145)), (38, (.var 144)), (37, (.var 143)), (35, (.var 141)), (34, (.var 140)), (33, (.var 139)), (32, (.var 138)), (31, (.var 137)), (30, (.var 136)), (29, (.var 135)), (28, (.var 134)), (27, (.var 133)), (26, (.var 132)), (25, (.var 131)), (24, (.var 130)), (22, (.var 128)), (21, (.var 127)), (20, (.var 126)), (19, (.var 125)), (17, (.var 123)), (16, (.var 122)), (15, (.var 121)), (14, (.var 120)), (13, (.var 119)), (12, (.var 118)), (11, (.var 117)), (10, (.var 116)), (9, (.var 115)), (8, (.add (.var 8) (.lit 1)))], bv := [(92, (.var 216)), (87, (.var 211)), (77, (.var 201)), (72, (.var 196)), (67, (.var 191)), (62, (.var 186)), (51, (.var 157)), (46, (.var 152)), (41, (.var 147)), (36, (.var 142)), (23, (.var 129)), (18, (.var 124))] }))
  (.fin { lo := 8, lob := 3, bv := [(8, (.lit true))] })
def clawOut : Out :=
  .call 1 { lo := 0, lob := 0, bk := [(1, { blk := 1 }), (0, { blk := 0 })] } 8 <|
  .br (.ieq (.var 0) (.lit 4))
  (.br (.not (.and (.and (.and (.ieq (.var 1) (.lit 0)) (.ieq (.var 3) (.lit 0))) (.ile (.lit 0) (.var 2))) (.ile (.var 2) (.lit 1073741824))))
   (.br (.or (.or (.or (.or (.or (.ilt (.var 0) (.lit 4)) (.ilt (.lit 5) (.var 0))) (.not (.ieq (.var 1) (.lit 0)))) (.not (.ieq (.var 3) (.lit 0)))) (.ilt (.var 2) (.lit 0))) (.ilt (.lit 1073741824) (.var 2)))
    (.call 0 { lo := 0, lob := 0, iv := [(0, (.lit 8))], bk := [(1, { blk := 1 }), (0, { blk := 5 })] } 8 <|
     .fin { lo := 8, lob := 3, bv := [(8, (.lit true))] })
    (.fin { lo := 8, lob := 3, bv := [(8, (.lit false))] }))
   (.br (.or (.or (.or (.or (.or (.ilt (.var 0) (.lit 4)) (.ilt (.lit 5) (.var 0))) (.not (.ieq (.var 1) (.lit 0)))) (.not (.ieq (.var 3) (.lit 0)))) (.ilt (.var 2) (.lit 0))) (.ilt (.lit 1073741824) (.var 2)))
    (.fin { lo := 8, lob := 3, bv := [(8, (.lit false))] })
    (clawLoop)))
  (.br (.ieq (.var 0) (.lit 5))
   (.br (.not (.and (.ieq (.var 1) (.lit 0)) (.and (.ieq (.var 2) (.lit 0)) (.ieq (.var 3) (.lit 0)))))
    (.br (.or (.or (.or (.or (.or (.or (.ilt (.var 0) (.lit 4)) (.ilt (.lit 5) (.var 0))) (.not (.ieq (.var 1) (.lit 0)))) (.not (.ieq (.var 3) (.lit 0)))) (.ilt (.var 2) (.lit 0))) (.ilt (.lit 1073741824) (.var 2))) (.not (.ieq (.var 2) (.lit 0))))
     (.call 0 { lo := 0, lob := 0, iv := [(0, (.lit 8))], bk := [(1, { blk := 1 }), (0, { blk := 5 })] } 8 <|
      .fin { lo := 8, lob := 3, bv := [(8, (.lit true))] })
     (.fin { lo := 8, lob := 3, bv := [(8, (.lit false))] }))
    (.br (.or (.or (.or (.or (.or (.or (.ilt (.var 0) (.lit 4)) (.ilt (.lit 5) (.var 0))) (.not (.ieq (.var 1) (.lit 0)))) (.not (.ieq (.var 3) (.lit 0)))) (.ilt (.var 2) (.lit 0))) (.ilt (.lit 1073741824) (.var 2))) (.not (.ieq (.var 2) (.lit 0))))
     (.fin { lo := 8, lob := 3, bv := [(8, (.lit false))] })
     (clawLoop)))
   (.br (.or (.or (.or (.or (.or (.or (.ilt (.var 0) (.lit 4)) (.ilt (.lit 5) (.var 0))) (.not (.ieq (.var 1) (.lit 0)))) (.not (.ieq (.var 3) (.lit 0)))) (.ilt (.var 2) (.lit 0))) (.ilt (.lit 1073741824) (.var 2))) (.not (.ieq (.var 2) (.lit 0))))
    (.call 0 { lo := 0, lob := 0, iv := [(0, (.lit 8))], bk := [(1, { blk := 1 }), (0, { blk := 5 })] } 8 <|
     .fin { lo := 8, lob := 3, bv := [(8, (.lit true))] })
    (.fin { lo := 8, lob := 3, bv := [(8, (.lit false))] })))
theorem claw_run : exec tab clawE 20000 [] (cfg0 3 8 [] (sentGl ssA 0) (lawConG 28 ssA 3 [shOp, shRep]).hp (lawConG 28 ssA 3 [shOp, shRep]).args) = clawOut := by kernel_rfl
def lawSem : CSem := [(isCon, yesPre, yesPre), (awakeCon, yesPre, yesPre), (nextJ, yesPre, cjOut.says), (nextU, cuPre, cuOut.says)]
theorem lawSem_ok : ∀ k pre post, (k, pre, post) ∈ lawSem → conWf k = true ∧ ConOK Tryd.prog k pre post := by
  intro k pre post h
  simp only [lawSem, List.mem_cons, List.not_mem_nil, or_false, Prod.mk.injEq] at h
  rcases h with ⟨rfl, rfl, rfl⟩ | ⟨rfl, rfl, rfl⟩ | ⟨rfl, rfl, rfl⟩ | ⟨rfl, rfl, rfl⟩
  · exact ⟨by kernel_rfl, is_con⟩
  · exact ⟨by kernel_rfl, awake_con⟩
  · exact ⟨by kernel_rfl, cj_con⟩
  · exact ⟨by kernel_rfl, cu_con⟩
def LRel (r : Env) : Prop := r.iv 79 = r.iv 10 ∧ r.iv 80 = r.iv 11 ∧ r.iv 81 = r.iv 12 ∧ r.iv 82 = r.iv 13 ∧ r.iv 83 = r.iv 14 ∧ r.iv 84 = r.iv 15 ∧ r.iv 85 = r.iv 16 ∧ r.iv 86 = r.iv 17 ∧ r.bv 87 = r.bv 18 ∧ r.iv 88 = r.iv 19 ∧ r.iv 89 = r.iv 20 ∧ r.iv 90 = r.iv 21 ∧ r.iv 91 = r.iv 22 ∧ r.bv 92 = r.bv 23 ∧ r.iv 93 = r.iv 24 ∧ r.iv 94 = r.iv 25 ∧ r.iv 95 = r.iv 26 ∧ r.iv 96 = r.iv 27 ∧ r.iv 53 = r.iv 28 ∧ r.iv 54 = r.iv 29 ∧ r.iv 55 = r.iv 30 ∧ r.iv 56 = r.iv 31 ∧ r.iv 58 = r.iv 32 ∧ r.iv 59 = r.iv 33 ∧ r.iv 60 = r.iv 34 ∧ r.iv 61 = r.iv 35 ∧ r.bv 62 = r.bv 36 ∧ r.iv 63 = r.iv 37 ∧ r.iv 64 = r.iv 38 ∧ r.iv 65 = r.iv 39 ∧ r.iv 66 = r.iv 40 ∧ r.bv 67 = r.bv 41 ∧ r.iv 68 = r.iv 42 ∧ r.iv 69 = r.iv 43 ∧ r.iv 70 = r.iv 44 ∧ r.iv 71 = r.iv 45 ∧ r.bv 72 = r.bv 46 ∧ r.iv 73 = r.iv 47 ∧ r.iv 74 = r.iv 48 ∧ r.iv 75 = r.iv 49 ∧ r.iv 76 = r.iv 50 ∧ r.bv 77 = r.bv 51 ∧ r.iv 78 = r.iv 52
def LInv (r : Env) : Prop := (0 ≤ r.iv 8 ∧ r.iv 8 ≤ 100) ∧ LRel r ∧ RelAt (r.iv 9) (r.iv 57)
def SlOK (r : Env) : Prop := (r.bv 4 = true → r.iv 5 = 0) ∧ 0 ≤ r.iv 5
set_option maxRecDepth 100000 in
set_option maxHeartbeats 4000000 in
theorem loop_sat (q : Env) (hs : SlOK q) : Sat (lawPostG ssA [shOp, shRep]) lawSem [] q clawLoop := by
  unfold clawLoop
  refine Sat.loop LInv (fun r => (100 - r.iv 8).toNat) ⟨⟨Int.le_refl 0, by show (0 : Int) ≤ 100; decide⟩, ⟨rfl, rfl, rfl, rfl, rfl, rfl, rfl, rfl, rfl, rfl, rfl, rfl, rfl, rfl, rfl, rfl, rfl, rfl, rfl, rfl, rfl, rfl, rfl, rfl, rfl, rfl, rfl, rfl, rfl, rfl, rfl, rfl, rfl, rfl, rfl, rfl, rfl, rfl, rfl, rfl, rfl, rfl, rfl⟩, .inl ⟨rfl, Int.le_refl 0, by show (0 : Int) ≤ 8; decide⟩⟩ fun e hI => ?_
  replace hI : LInv (q.join 8 e) := hI
  replace hs : SlOK (q.join 8 e) := hs
  rw [show (100 - (q.join 8 e).num.iv 8).toNat = (100 - (q.join 8 e).iv 8).toNat from rfl]
  generalize q.join 8 e = r at *
  obtain ⟨⟨i1, i2⟩, hL, hat⟩ := hI
  refine Sat.ob ?_ (Sat.ob (decide_eq_true hs.2) (Sat.br (fun hlt => ?_) (fun _ => Sat.fin rfl)))
  · simp only [D.le, D.lef, D.lt, D.ltf, D.eq, D.eqf, D.not, D.notf, D.and, D.andf, D.or, D.orf, D.inr, D.var, D.lit, D.cellB, D.beq, D.beqf, D.litI, D.varI, D.add, D.sub, D.mul, D.min, D.max, D.cellI, D.i64min, D.i64max]
    cases h : r.bv 4
    · exact .inl rfl
    · exact .inr (hs.1 h)
  simp only [D.le, D.lef, D.lt, D.ltf, D.eq, D.eqf, D.not, D.notf, D.and, D.andf, D.or, D.orf, D.inr, D.var, D.lit, D.cellB, D.beq, D.beqf, D.litI, D.varI, D.add, D.sub, D.mul, D.min, D.max, D.cellI, D.i64min, D.i64max] at hlt
  refine Sat.ob ?_ (Sat.ob (decide_eq_true i1) (Sat.call rfl trivial fun e1 hJ => Sat.call rfl ?_ fun e2 hU => ?_))
  · simp only [D.le, D.lef, D.lt, D.ltf, D.eq, D.eqf, D.not, D.notf, D.and, D.andf, D.or, D.orf, D.inr, D.var, D.lit, D.cellB, D.beq, D.beqf, D.litI, D.varI, D.add, D.sub, D.mul, D.min, D.max, D.cellI, D.i64min, D.i64max]
    cases h : r.bv 4
    · rfl
    · have := hs.1 h
      omega
  · show 0 ≤ r.iv 57 ∧ r.iv 57 ≤ 9
    rcases hat with ⟨h1, h2, h3⟩ | ⟨h1, h2⟩ <;> omega
  obtain ⟨h0, h1, h2, h3, h4, h5, h6, h7, h8, h9, h10, h11, h12, h13, h14, h15, h16, h17, h18, h19, h20, h21, h22, h23, h24, h25, h26, h27, h28, h29, h30, h31, h32, h33, h34, h35, h36, h37, h38, h39, h40, h41, h42⟩ := hL
  have hst := fun ha hR => @step_all _ _ ha hR hJ hU
  replace hst := hst hat ⟨h0, h1, h2, h3, h4, h5, h6, h7, h8, h9, h10, h11, h12, h13, h14, h15, h16, h17, h18, h19, h20, h21, h22, h23, h24, h25, h26, h27, h28, h29, h30, h31, h32, h33, h34, h35, h36, h37, h38, h39, h40, h41, h42, rfl, rfl, rfl, rfl, rfl, rfl⟩
  clear hJ hU h0 h1 h2 h3 h4 h5 h6 h7 h8 h9 h10 h11 h12 h13 h14 h15 h16 h17 h18 h19 h20 h21 h22 h23 h24 h25 h26 h27 h28 h29 h30 h31 h32 h33 h34 h35 h36 h37 h38 h39 h40 h41 h42
  obtain ⟨hC, hO, hA⟩ := hst
  have hm : (100 - (r.iv 8 + 1)).toNat < (100 - r.iv 8).toNat := by omega
  replace i1 : 0 ≤ ((r.join 97 e1).join 159 e2).iv 8 := i1
  replace hlt : ((r.join 97 e1).join 159 e2).iv 8 < ((r.join 97 e1).join 159 e2).iv 5 ∧ ((r.join 97 e1).join 159 e2).iv 8 < 100 := hlt
  refine Sat.br (fun hne => ?_) (fun _ => Sat.ob (by simp only [D.le, D.lef, D.lt, D.ltf, D.eq, D.eqf, D.not, D.notf, D.and, D.andf, D.or, D.orf, D.inr, D.var, D.lit, D.cellB, D.beq, D.beqf, D.litI, D.varI, D.add, D.sub, D.mul, D.min, D.max, D.cellI, D.i64min, D.i64max]; omega) (Sat.back rfl ⟨⟨⟨?_, ?_⟩, hO, hA⟩, hm⟩))
  · exfalso
    obtain ⟨q0, q1, q2, q3, q4, q5, q6, q7, q8, q9, q10, q11, q12, q13, q14, q15, q16, q17⟩ := hC
    replace q0 : ((r.join 97 e1).join 159 e2).iv 159 = ((r.join 97 e1).join 159 e2).iv 97 := q0
    replace q1 : ((r.join 97 e1).join 159 e2).iv 160 = ((r.join 97 e1).join 159 e2).iv 98 := q1
    replace q2 : ((r.join 97 e1).join 159 e2).iv 161 = ((r.join 97 e1).join 159 e2).iv 99 := q2
    replace q3 : ((r.join 97 e1).join 159 e2).iv 162 = ((r.join 97 e1).join 159 e2).iv 100 := q3
    replace q4 : ((r.join 97 e1).join 159 e2).iv 163 = ((r.join 97 e1).join 159 e2).iv 101 := q4
    replace q5 : ((r.join 97 e1).join 159 e2).iv 164 = ((r.join 97 e1).join 159 e2).iv 102 := q5
    replace q6 : ((r.join 97 e1).join 159 e2).iv 165 = ((r.join 97 e1).join 159 e2).iv 103 := q6
    replace q7 : ((r.join 97 e1).join 159 e2).iv 166 = ((r.join 97 e1).join 159 e2).iv 104 := q7
    replace q8 : ((r.join 97 e1).join 159 e2).bv 167 = ((r.join 97 e1).join 159 e2).bv 105 := q8
    replace q9 : ((r.join 97 e1).join 159 e2).iv 168 = ((r.join 97 e1).join 159 e2).iv 106 := q9
    replace q10 : ((r.join 97 e1).join 159 e2).iv 169 = ((r.join 97 e1).join 159 e2).iv 107 := q10
    replace q11 : ((r.join 97 e1).join 159 e2).iv 170 = ((r.join 97 e1).join 159 e2).iv 108 := q11
    replace q12 : ((r.join 97 e1).join 159 e2).iv 171 = ((r.join 97 e1).join 159 e2).iv 109 := q12
    replace q13 : ((r.join 97 e1).join 159 e2).bv 172 = ((r.join 97 e1).join 159 e2).bv 110 := q13
    replace q14 : ((r.join 97 e1).join 159 e2).iv 173 = ((r.join 97 e1).join 159 e2).iv 111 := q14
    replace q15 : ((r.join 97 e1).join 159 e2).iv 174 = ((r.join 97 e1).join 159 e2).iv 112 := q15
    replace q16 : ((r.join 97 e1).join 159 e2).iv 175 = ((r.join 97 e1).join 159 e2).iv 113 := q16
    replace q17 : ((r.join 97 e1).join 159 e2).iv 176 = ((r.join 97 e1).join 159 e2).iv 114 := q17
    simp [BE.den, IE.den, q0, q1, q2, q3, q4, q5, q6, q7, q8, q9, q10, q11, q12, q13, q14, q15, q16, q17] at hne
  · exact Int.le_add_one i1
  · show r.iv 8 + 1 ≤ 100
    have := hlt.2
    exact Int.add_one_le_iff.mpr this
theorem claw_sat (ρ : Env) (hpre : lawPre [shOp, shRep] ρ.num) : Sat (lawPostG ssA [shOp, shRep]) lawSem [] ρ clawOut := by
  replace hpre : (IntKind.i64.min ≤ ρ.iv 0 ∧ ρ.iv 0 ≤ IntKind.i64.max) ∧ (IntKind.i64.min ≤ ρ.iv 1 ∧ ρ.iv 1 ≤ IntKind.i64.max) ∧ (IntKind.i64.min ≤ ρ.iv 2 ∧ ρ.iv 2 ≤ IntKind.i64.max) ∧ (IntKind.i64.min ≤ ρ.iv 3 ∧ ρ.iv 3 ≤ IntKind.i64.max) ∧ ((ρ.bv 4 = true → ρ.iv 5 = 0 ∧ ρ.iv 6 = 0) ∧ 0 ≤ ρ.iv 5 ∧ ρ.iv 5 ≤ ρ.iv 6 ∧ ρ.iv 6 ≤ 9223372036854775807 ∧ KdRange ρ 7 (ρ.iv 5) kRep) ∧ True := hpre
  have hs : SlOK ρ := ⟨fun h => (hpre.2.2.2.2.1.1 h).1, hpre.2.2.2.2.1.2.1⟩
  clear hpre
  unfold clawOut
  refine Sat.call rfl trivial fun e0 _ => ?_
  replace hs : SlOK (ρ.join 8 e0) := hs
  generalize ρ.join 8 e0 = q at *
  repeat' first
    | exact loop_sat q hs
    | refine Sat.br (fun _ => ?_) (fun _ => ?_)
    | refine Sat.call rfl trivial (fun _ _ => ?_)
    | refine Sat.fin (Eq.trans (b := (Sub.nenv _ _).bv 8) rfl ?_)
  all_goals
    simp [Sub.nenv, assoc, D.le, D.lef, D.lt, D.ltf, D.eq, D.eqf, D.not, D.notf, D.and, D.andf, D.or, D.orf, D.inr, D.var, D.lit, D.cellB, D.beq, D.beqf, D.litI, D.varI, D.add, D.sub, D.mul, D.min, D.max, D.cellI, D.i64min, D.i64max] at *
    try omega
theorem claw_con : ConOK Tryd.prog (lawConG 28 ssA 3 [shOp, shRep]) (lawPre [shOp, shRep]) (lawPostG ssA [shOp, shRep]) :=
  con_ok tabOK (E := clawE) (cs := lawSem) rfl lawSem_ok schedOK rfl claw_run (by kernel_rfl) (fun ρ _ p hp => by cases hp) claw_sat
end Go.Proofs.YtinbcjdcbmppgaaDoor
