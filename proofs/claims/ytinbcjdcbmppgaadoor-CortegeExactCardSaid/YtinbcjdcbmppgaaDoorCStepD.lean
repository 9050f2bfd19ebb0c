/- what both leave is the same -/
import Derived.Test.YtinbcjdcbmppgaaDoorCNext
set_option linter.unusedSimpArgs false
set_option linter.unusedVariables false
namespace Go.Proofs.YtinbcjdcbmppgaaDoor
open Go.Rex
set_option maxHeartbeats 4000000 in
theorem st_0_5 {v u : Env} (hk : ¬ v.iv 19 = 4) (hv : v.iv 0 = 5) (hu : u.iv 4 = 5) (hR : RelIn v u) (hJ : cjOut.says v) (hU : cuOut.says u) : CallEq v u ∧ RelOut v u ∧ RelAt (v.iv 68) (u.iv 72) := by
  unfold RelIn at hR
  simp [cjOut, says_br, says_ob, D.le, D.lef, D.lt, D.ltf, D.eq, D.eqf, D.not, D.notf, D.and, D.andf, D.or, D.orf, D.inr, D.var, D.lit, D.litI, D.varI, D.add, D.sub, D.wrap, D.beq, D.beqf, D.i64min, D.i64max, hk, hv] at hJ
  simp [cuOut, says_br, says_ob, D.le, D.lef, D.lt, D.ltf, D.eq, D.eqf, D.not, D.notf, D.and, D.andf, D.or, D.orf, D.inr, D.var, D.lit, D.litI, D.varI, D.add, D.sub, D.wrap, D.beq, D.beqf, D.i64min, D.i64max, hR, hk, hu] at hU
  all_goals
    simp [says_fin, cjS0, cjS1, cjS2, cjS3, cjS4, cjS5, cjS6, cjS7, cjS8, cjS9, cjS10, cjS11, cjS12, cjS13, cjS14, cjS15, cjS16, cjS17, cjS18, cjS19, cjS20, cjS21, cjS22, cjS23, cjS24, cjS25, cjS26, cjS27, D.le, D.lef, D.lt, D.ltf, D.eq, D.eqf, D.not, D.notf, D.and, D.andf, D.or, D.orf, D.inr, D.var, D.lit, D.litI, D.varI, D.add, D.sub, D.wrap, D.beq, D.beqf, D.i64min, D.i64max] at hJ
    simp [says_fin, cuS0, cuS1, cuS2, cuS3, cuS4, cuS5, cuS6, cuS7, cuS8, cuS9, cuS10, cuS11, cuS12, cuS13, cuS14, cuS15, cuS16, cuS17, cuS18, cuS19, cuS20, cuS21, cuS22, cuS23, cuS24, D.le, D.lef, D.lt, D.ltf, D.eq, D.eqf, D.not, D.notf, D.and, D.andf, D.or, D.orf, D.inr, D.var, D.lit, D.litI, D.varI, D.add, D.sub, D.wrap, D.beq, D.beqf, D.i64min, D.i64max, hR, hu] at hU
    simp [CallEq, RelOut, RelAt, hJ, hU, hv, hk]
set_option maxHeartbeats 4000000 in
theorem st_0_6 {v u : Env} (hk : ¬ v.iv 19 = 4) (hv : v.iv 0 = 6) (hu : u.iv 4 = 6) (hR : RelIn v u) (hJ : cjOut.says v) (hU : cuOut.says u) : CallEq v u ∧ RelOut v u ∧ RelAt (v.iv 68) (u.iv 72) := by
  unfold RelIn at hR
  simp [cjOut, says_br, says_ob, D.le, D.lef, D.lt, D.ltf, D.eq, D.eqf, D.not, D.notf, D.and, D.andf, D.or, D.orf, D.inr, D.var, D.lit, D.litI, D.varI, D.add, D.sub, D.wrap, D.beq, D.beqf, D.i64min, D.i64max, hk, hv] at hJ
  simp [cuOut, says_br, says_ob, D.le, D.lef, D.lt, D.ltf, D.eq, D.eqf, D.not, D.notf, D.and, D.andf, D.or, D.orf, D.inr, D.var, D.lit, D.litI, D.varI, D.add, D.sub, D.wrap, D.beq, D.beqf, D.i64min, D.i64max, hR, hk, hu] at hU
  all_goals
    simp [says_fin, cjS0, cjS1, cjS2, cjS3, cjS4, cjS5, cjS6, cjS7, cjS8, cjS9, cjS10, cjS11, cjS12, cjS13, cjS14, cjS15, cjS16, cjS17, cjS18, cjS19, cjS20, cjS21, cjS22, cjS23, cjS24, cjS25, cjS26, cjS27, D.le, D.lef, D.lt, D.ltf, D.eq, D.eqf, D.not, D.notf, D.and, D.andf, D.or, D.orf, D.inr, D.var, D.lit, D.litI, D.varI, D.add, D.sub, D.wrap, D.beq, D.beqf, D.i64min, D.i64max] at hJ
    simp [says_fin, cuS0, cuS1, cuS2, cuS3, cuS4, cuS5, cuS6, cuS7, cuS8, cuS9, cuS10, cuS11, cuS12, cuS13, cuS14, cuS15, cuS16, cuS17, cuS18, cuS19, cuS20, cuS21, cuS22, cuS23, cuS24, D.le, D.lef, D.lt, D.ltf, D.eq, D.eqf, D.not, D.notf, D.and, D.andf, D.or, D.orf, D.inr, D.var, D.lit, D.litI, D.varI, D.add, D.sub, D.wrap, D.beq, D.beqf, D.i64min, D.i64max, hR, hu] at hU
    simp [CallEq, RelOut, RelAt, hJ, hU, hv, hk]
set_option maxHeartbeats 4000000 in
theorem st_0_7 {v u : Env} (hk : ¬ v.iv 19 = 4) (hv : v.iv 0 = 7) (hu : u.iv 4 = 7) (hR : RelIn v u) (hJ : cjOut.says v) (hU : cuOut.says u) : CallEq v u ∧ RelOut v u ∧ RelAt (v.iv 68) (u.iv 72) := by
  unfold RelIn at hR
  simp [cjOut, says_br, says_ob, D.le, D.lef, D.lt, D.ltf, D.eq, D.eqf, D.not, D.notf, D.and, D.andf, D.or, D.orf, D.inr, D.var, D.lit, D.litI, D.varI, D.add, D.sub, D.wrap, D.beq, D.beqf, D.i64min, D.i64max, hk, hv] at hJ
  simp [cuOut, says_br, says_ob, D.le, D.lef, D.lt, D.ltf, D.eq, D.eqf, D.not, D.notf, D.and, D.andf, D.or, D.orf, D.inr, D.var, D.lit, D.litI, D.varI, D.add, D.sub, D.wrap, D.beq, D.beqf, D.i64min, D.i64max, hR, hk, hu] at hU
  by_cases c0 : v.bv 49 = true
  all_goals
    simp [says_fin, cjS0, cjS1, cjS2, cjS3, cjS4, cjS5, cjS6, cjS7, cjS8, cjS9, cjS10, cjS11, cjS12, cjS13, cjS14, cjS15, cjS16, cjS17, cjS18, cjS19, cjS20, cjS21, cjS22, cjS23, cjS24, cjS25, cjS26, cjS27, D.le, D.lef, D.lt, D.ltf, D.eq, D.eqf, D.not, D.notf, D.and, D.andf, D.or, D.orf, D.inr, D.var, D.lit, D.litI, D.varI, D.add, D.sub, D.wrap, D.beq, D.beqf, D.i64min, D.i64max, c0] at hJ
    simp [says_fin, cuS0, cuS1, cuS2, cuS3, cuS4, cuS5, cuS6, cuS7, cuS8, cuS9, cuS10, cuS11, cuS12, cuS13, cuS14, cuS15, cuS16, cuS17, cuS18, cuS19, cuS20, cuS21, cuS22, cuS23, cuS24, D.le, D.lef, D.lt, D.ltf, D.eq, D.eqf, D.not, D.notf, D.and, D.andf, D.or, D.orf, D.inr, D.var, D.lit, D.litI, D.varI, D.add, D.sub, D.wrap, D.beq, D.beqf, D.i64min, D.i64max, hR, hu, c0] at hU
    simp [CallEq, RelOut, RelAt, hJ, hU, hv, hk]
set_option maxHeartbeats 4000000 in
theorem st_0_8 {v u : Env} (hk : ¬ v.iv 19 = 4) (hv : v.iv 0 = 8) (hu : u.iv 4 = 8) (hR : RelIn v u) (hJ : cjOut.says v) (hU : cuOut.says u) : CallEq v u ∧ RelOut v u ∧ RelAt (v.iv 68) (u.iv 72) := by
  unfold RelIn at hR
  simp [cjOut, says_br, says_ob, D.le, D.lef, D.lt, D.ltf, D.eq, D.eqf, D.not, D.notf, D.and, D.andf, D.or, D.orf, D.inr, D.var, D.lit, D.litI, D.varI, D.add, D.sub, D.wrap, D.beq, D.beqf, D.i64min, D.i64max, hk, hv] at hJ
  simp [cuOut, says_br, says_ob, D.le, D.lef, D.lt, D.ltf, D.eq, D.eqf, D.not, D.notf, D.and, D.andf, D.or, D.orf, D.inr, D.var, D.lit, D.litI, D.varI, D.add, D.sub, D.wrap, D.beq, D.beqf, D.i64min, D.i64max, hR, hk, hu] at hU
  all_goals
    simp [says_fin, cjS0, cjS1, cjS2, cjS3, cjS4, cjS5, cjS6, cjS7, cjS8, cjS9, cjS10, cjS11, cjS12, cjS13, cjS14, cjS15, cjS16, cjS17, cjS18, cjS19, cjS20, cjS21, cjS22, cjS23, cjS24, cjS25, cjS26, cjS27, D.le, D.lef, D.lt, D.ltf, D.eq, D.eqf, D.not, D.notf, D.and, D.andf, D.or, D.orf, D.inr, D.var, D.lit, D.litI, D.varI, D.add, D.sub, D.wrap, D.beq, D.beqf, D.i64min, D.i64max] at hJ
    simp [says_fin, cuS0, cuS1, cuS2, cuS3, cuS4, cuS5, cuS6, cuS7, cuS8, cuS9, cuS10, cuS11, cuS12, cuS13, cuS14, cuS15, cuS16, cuS17, cuS18, cuS19, cuS20, cuS21, cuS22, cuS23, cuS24, D.le, D.lef, D.lt, D.ltf, D.eq, D.eqf, D.not, D.notf, D.and, D.andf, D.or, D.orf, D.inr, D.var, D.lit, D.litI, D.varI, D.add, D.sub, D.wrap, D.beq, D.beqf, D.i64min, D.i64max, hR, hu] at hU
    simp [CallEq, RelOut, RelAt, hJ, hU, hv, hk]
set_option maxHeartbeats 4000000 in
theorem st_0_m1 {v u : Env} (hk : ¬ v.iv 19 = 4) (hv : v.iv 0 = -1) (hu : u.iv 4 = 9) (hR : RelIn v u) (hJ : cjOut.says v) (hU : cuOut.says u) : CallEq v u ∧ RelOut v u ∧ RelAt (v.iv 68) (u.iv 72) := by
  unfold RelIn at hR
  simp [cjOut, says_br, says_ob, D.le, D.lef, D.lt, D.ltf, D.eq, D.eqf, D.not, D.notf, D.and, D.andf, D.or, D.orf, D.inr, D.var, D.lit, D.litI, D.varI, D.add, D.sub, D.wrap, D.beq, D.beqf, D.i64min, D.i64max, hk, hv] at hJ
  simp [cuOut, says_br, says_ob, D.le, D.lef, D.lt, D.ltf, D.eq, D.eqf, D.not, D.notf, D.and, D.andf, D.or, D.orf, D.inr, D.var, D.lit, D.litI, D.varI, D.add, D.sub, D.wrap, D.beq, D.beqf, D.i64min, D.i64max, hR, hk, hu] at hU
  all_goals
    simp [says_fin, cjS0, cjS1, cjS2, cjS3, cjS4, cjS5, cjS6, cjS7, cjS8, cjS9, cjS10, cjS11, cjS12, cjS13, cjS14, cjS15, cjS16, cjS17, cjS18, cjS19, cjS20, cjS21, cjS22, cjS23, cjS24, cjS25, cjS26, cjS27, D.le, D.lef, D.lt, D.ltf, D.eq, D.eqf, D.not, D.notf, D.and, D.andf, D.or, D.orf, D.inr, D.var, D.lit, D.litI, D.varI, D.add, D.sub, D.wrap, D.beq, D.beqf, D.i64min, D.i64max] at hJ
    simp [says_fin, cuS0, cuS1, cuS2, cuS3, cuS4, cuS5, cuS6, cuS7, cuS8, cuS9, cuS10, cuS11, cuS12, cuS13, cuS14, cuS15, cuS16, cuS17, cuS18, cuS19, cuS20, cuS21, cuS22, cuS23, cuS24, D.le, D.lef, D.lt, D.ltf, D.eq, D.eqf, D.not, D.notf, D.and, D.andf, D.or, D.orf, D.inr, D.var, D.lit, D.litI, D.varI, D.add, D.sub, D.wrap, D.beq, D.beqf, D.i64min, D.i64max, hR, hu] at hU
    simp [CallEq, RelOut, RelAt, hJ, hU, hv, hk]
end Go.Proofs.YtinbcjdcbmppgaaDoor
