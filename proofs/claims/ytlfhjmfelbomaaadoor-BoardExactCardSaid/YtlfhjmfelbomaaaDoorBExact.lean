/- 'BoardExact': where things stand -/
import Derived.Test.YtlfhjmfelbomaaaDoorBExactRun
set_option linter.unusedSimpArgs false
set_option linter.unusedVariables false
namespace Go.Proofs.YtlfhjmfelbomaaaDoor
open Go.Rex
def InR (q : Env) : Prop := (-9223372036854775808 ≤ q.iv 0 ∧ q.iv 0 ≤ 9223372036854775807) ∧ (-9223372036854775808 ≤ q.iv 1 ∧ q.iv 1 ≤ 9223372036854775807) ∧ (-9223372036854775808 ≤ q.iv 2 ∧ q.iv 2 ≤ 9223372036854775807) ∧ (-9223372036854775808 ≤ q.iv 3 ∧ q.iv 3 ≤ 9223372036854775807) ∧ (-9223372036854775808 ≤ q.iv 4 ∧ q.iv 4 ≤ 9223372036854775807)
set_option maxHeartbeats 0 in
theorem ex_s30 (q : Env) (hq : InR q) (h0 : (BE.or (.ilt (.var 1) (.lit 0)) (.ile (.lit 24) (.var 1))).den q = true) (h1 : (BE.not (.and (.ile (.lit 0) (.var 0)) (.ilt (.var 0) (.lit 6)))).den q = false) (h2 : (BE.or (.ilt (.var 1) (.lit 0)) (.ile (.lit 9) (.var 1))).den q = true) (h3 : (BE.inr .i64 (.add (.lit 79) (.var 0))).den q = true) (h4 : (BE.not (.ieq (.var 2) (.lit 0))).den q = false) (h5 : (BE.not (.ieq (.var 3) (.lit 0))).den q = false) (h6 : (BE.or (.ilt (.var 4) (.lit 0)) (.ile (.lit 85) (.var 4))).den q = false) (h7 : (BE.ilt (.var 4) (.lit 24)).den q = false) (h8 : (BE.ilt (.var 4) (.lit 25)).den q = false) : Sat (lawPostG ss2 shE) lawSem1 [] q (exec tab exact_E 3739 [] ex_c30) := by
  rw [ex_r30]
  unfold ex_p30
  unfold InR at hq
  repeat' first
    | refine Sat.br (fun _ => ?_) (fun _ => ?_)
    | refine Sat.ob ?_ ?_
    | refine Sat.fin (Eq.trans (b := (Sub.nenv _ _).bv 5) rfl ?_)
    | refine Sat.call rfl trivial (fun _ _ => ?_)
  all_goals
    simp [Sub.nenv, assoc, D.le, D.lef, D.lt, D.ltf, D.eq, D.eqf, D.not, D.notf, D.and, D.andf, D.or, D.orf, D.inr, D.var, D.lit, D.litI, D.varI, D.add, D.sub, D.mul, D.mod, D.div, D.wrap, D.i64min, D.i64max, D.ite, beqI, Env.join, IntKind.wrap_u64, tm, td] at *
    try omega
set_option maxHeartbeats 0 in
theorem ex_s29 (q : Env) (hq : InR q) (h0 : (BE.or (.ilt (.var 1) (.lit 0)) (.ile (.lit 24) (.var 1))).den q = true) (h1 : (BE.not (.and (.ile (.lit 0) (.var 0)) (.ilt (.var 0) (.lit 6)))).den q = false) (h2 : (BE.or (.ilt (.var 1) (.lit 0)) (.ile (.lit 9) (.var 1))).den q = true) (h3 : (BE.inr .i64 (.add (.lit 79) (.var 0))).den q = true) (h4 : (BE.not (.ieq (.var 2) (.lit 0))).den q = false) (h5 : (BE.not (.ieq (.var 3) (.lit 0))).den q = false) (h6 : (BE.or (.ilt (.var 4) (.lit 0)) (.ile (.lit 85) (.var 4))).den q = false) (h7 : (BE.ilt (.var 4) (.lit 24)).den q = false) (h8 : (BE.ilt (.var 4) (.lit 25)).den q = true) : Sat (lawPostG ss2 shE) lawSem1 [] q (exec tab exact_E 3739 [] ex_c29) := by
  rw [ex_r29]
  unfold ex_p29
  unfold InR at hq
  repeat' first
    | refine Sat.br (fun _ => ?_) (fun _ => ?_)
    | refine Sat.ob ?_ ?_
    | refine Sat.fin (Eq.trans (b := (Sub.nenv _ _).bv 5) rfl ?_)
    | refine Sat.call rfl trivial (fun _ _ => ?_)
  all_goals
    simp [Sub.nenv, assoc, D.le, D.lef, D.lt, D.ltf, D.eq, D.eqf, D.not, D.notf, D.and, D.andf, D.or, D.orf, D.inr, D.var, D.lit, D.litI, D.varI, D.add, D.sub, D.mul, D.mod, D.div, D.wrap, D.i64min, D.i64max, D.ite, beqI, Env.join, IntKind.wrap_u64, tm, td] at *
    try omega
set_option maxHeartbeats 0 in
theorem ex_s28 (q : Env) (hq : InR q) (h0 : (BE.or (.ilt (.var 1) (.lit 0)) (.ile (.lit 24) (.var 1))).den q = true) (h1 : (BE.not (.and (.ile (.lit 0) (.var 0)) (.ilt (.var 0) (.lit 6)))).den q = false) (h2 : (BE.or (.ilt (.var 1) (.lit 0)) (.ile (.lit 9) (.var 1))).den q = true) (h3 : (BE.inr .i64 (.add (.lit 79) (.var 0))).den q = true) (h4 : (BE.not (.ieq (.var 2) (.lit 0))).den q = false) (h5 : (BE.not (.ieq (.var 3) (.lit 0))).den q = false) (h6 : (BE.or (.ilt (.var 4) (.lit 0)) (.ile (.lit 85) (.var 4))).den q = false) (h7 : (BE.ilt (.var 4) (.lit 24)).den q = true) (h8 : (BE.inr .i64 (.var 4)).den q = true) (h9 : (BE.not (.and (.ile (.lit 0) (.var 1)) (.ilt (.var 1) (.lit 24)))).den q = false) : Sat (lawPostG ss2 shE) lawSem1 [] q (exec tab exact_E 3630 [] ex_c28) := by
  rw [ex_r28]
  unfold ex_p28
  unfold InR at hq
  repeat' first
    | refine Sat.br (fun _ => ?_) (fun _ => ?_)
    | refine Sat.ob ?_ ?_
    | refine Sat.fin (Eq.trans (b := (Sub.nenv _ _).bv 5) rfl ?_)
    | refine Sat.call rfl trivial (fun _ _ => ?_)
  all_goals
    simp [Sub.nenv, assoc, D.le, D.lef, D.lt, D.ltf, D.eq, D.eqf, D.not, D.notf, D.and, D.andf, D.or, D.orf, D.inr, D.var, D.lit, D.litI, D.varI, D.add, D.sub, D.mul, D.mod, D.div, D.wrap, D.i64min, D.i64max, D.ite, beqI, Env.join, IntKind.wrap_u64, tm, td] at *
    try omega
set_option maxHeartbeats 0 in
theorem ex_s27 (q : Env) (hq : InR q) (h0 : (BE.or (.ilt (.var 1) (.lit 0)) (.ile (.lit 24) (.var 1))).den q = true) (h1 : (BE.not (.and (.ile (.lit 0) (.var 0)) (.ilt (.var 0) (.lit 6)))).den q = false) (h2 : (BE.or (.ilt (.var 1) (.lit 0)) (.ile (.lit 9) (.var 1))).den q = true) (h3 : (BE.inr .i64 (.add (.lit 79) (.var 0))).den q = true) (h4 : (BE.not (.ieq (.var 2) (.lit 0))).den q = false) (h5 : (BE.not (.ieq (.var 3) (.lit 0))).den q = false) (h6 : (BE.or (.ilt (.var 4) (.lit 0)) (.ile (.lit 85) (.var 4))).den q = false) (h7 : (BE.ilt (.var 4) (.lit 24)).den q = true) (h8 : (BE.inr .i64 (.var 4)).den q = true) (h9 : (BE.not (.and (.ile (.lit 0) (.var 1)) (.ilt (.var 1) (.lit 24)))).den q = true) : Sat (lawPostG ss2 shE) lawSem1 [] q (exec tab exact_E 3630 [] ex_c27) := by
  rw [ex_r27]
  unfold ex_p27
  unfold InR at hq
  repeat' first
    | refine Sat.br (fun _ => ?_) (fun _ => ?_)
    | refine Sat.ob ?_ ?_
    | refine Sat.fin (Eq.trans (b := (Sub.nenv _ _).bv 5) rfl ?_)
    | refine Sat.call rfl trivial (fun _ _ => ?_)
  all_goals
    simp [Sub.nenv, assoc, D.le, D.lef, D.lt, D.ltf, D.eq, D.eqf, D.not, D.notf, D.and, D.andf, D.or, D.orf, D.inr, D.var, D.lit, D.litI, D.varI, D.add, D.sub, D.mul, D.mod, D.div, D.wrap, D.i64min, D.i64max, D.ite, beqI, Env.join, IntKind.wrap_u64, tm, td] at *
    try omega
set_option maxHeartbeats 0 in
theorem ex_s26 (q : Env) (hq : InR q) (h0 : (BE.or (.ilt (.var 1) (.lit 0)) (.ile (.lit 24) (.var 1))).den q = true) (h1 : (BE.not (.and (.ile (.lit 0) (.var 0)) (.ilt (.var 0) (.lit 6)))).den q = false) (h2 : (BE.or (.ilt (.var 1) (.lit 0)) (.ile (.lit 9) (.var 1))).den q = true) (h3 : (BE.inr .i64 (.add (.lit 79) (.var 0))).den q = true) (h4 : (BE.not (.ieq (.var 2) (.lit 0))).den q = false) (h5 : (BE.not (.ieq (.var 3) (.lit 0))).den q = false) (h6 : (BE.or (.ilt (.var 4) (.lit 0)) (.ile (.lit 85) (.var 4))).den q = true) (h7 : (BE.not (.and (.ile (.lit 0) (.var 1)) (.ilt (.var 1) (.lit 24)))).den q = false) (h8 : (BE.ilt (.var 1) (.lit 0)).den q = false) : Sat (lawPostG ss2 shE) lawSem1 [] q (exec tab exact_E 3603 [] ex_c26) := by
  rw [ex_r26]
  unfold ex_p26
  unfold InR at hq
  repeat' first
    | refine Sat.br (fun _ => ?_) (fun _ => ?_)
    | refine Sat.ob ?_ ?_
    | refine Sat.fin (Eq.trans (b := (Sub.nenv _ _).bv 5) rfl ?_)
    | refine Sat.call rfl trivial (fun _ _ => ?_)
  all_goals
    simp [Sub.nenv, assoc, D.le, D.lef, D.lt, D.ltf, D.eq, D.eqf, D.not, D.notf, D.and, D.andf, D.or, D.orf, D.inr, D.var, D.lit, D.litI, D.varI, D.add, D.sub, D.mul, D.mod, D.div, D.wrap, D.i64min, D.i64max, D.ite, beqI, Env.join, IntKind.wrap_u64, tm, td] at *
    try omega
set_option maxHeartbeats 0 in
theorem ex_s25 (q : Env) (hq : InR q) (h0 : (BE.or (.ilt (.var 1) (.lit 0)) (.ile (.lit 24) (.var 1))).den q = true) (h1 : (BE.not (.and (.ile (.lit 0) (.var 0)) (.ilt (.var 0) (.lit 6)))).den q = false) (h2 : (BE.or (.ilt (.var 1) (.lit 0)) (.ile (.lit 9) (.var 1))).den q = true) (h3 : (BE.inr .i64 (.add (.lit 79) (.var 0))).den q = true) (h4 : (BE.not (.ieq (.var 2) (.lit 0))).den q = false) (h5 : (BE.not (.ieq (.var 3) (.lit 0))).den q = false) (h6 : (BE.or (.ilt (.var 4) (.lit 0)) (.ile (.lit 85) (.var 4))).den q = true) (h7 : (BE.not (.and (.ile (.lit 0) (.var 1)) (.ilt (.var 1) (.lit 24)))).den q = false) (h8 : (BE.ilt (.var 1) (.lit 0)).den q = true) : Sat (lawPostG ss2 shE) lawSem1 [] q (exec tab exact_E 3603 [] ex_c25) := by
  rw [ex_r25]
  unfold ex_p25
  unfold InR at hq
  repeat' first
    | refine Sat.br (fun _ => ?_) (fun _ => ?_)
    | refine Sat.ob ?_ ?_
    | refine Sat.fin (Eq.trans (b := (Sub.nenv _ _).bv 5) rfl ?_)
    | refine Sat.call rfl trivial (fun _ _ => ?_)
  all_goals
    simp [Sub.nenv, assoc, D.le, D.lef, D.lt, D.ltf, D.eq, D.eqf, D.not, D.notf, D.and, D.andf, D.or, D.orf, D.inr, D.var, D.lit, D.litI, D.varI, D.add, D.sub, D.mul, D.mod, D.div, D.wrap, D.i64min, D.i64max, D.ite, beqI, Env.join, IntKind.wrap_u64, tm, td] at *
    try omega
set_option maxHeartbeats 0 in
theorem ex_s24 (q : Env) (hq : InR q) (h0 : (BE.or (.ilt (.var 1) (.lit 0)) (.ile (.lit 24) (.var 1))).den q = true) (h1 : (BE.not (.and (.ile (.lit 0) (.var 0)) (.ilt (.var 0) (.lit 6)))).den q = false) (h2 : (BE.or (.ilt (.var 1) (.lit 0)) (.ile (.lit 9) (.var 1))).den q = true) (h3 : (BE.inr .i64 (.add (.lit 79) (.var 0))).den q = true) (h4 : (BE.not (.ieq (.var 2) (.lit 0))).den q = false) (h5 : (BE.not (.ieq (.var 3) (.lit 0))).den q = false) (h6 : (BE.or (.ilt (.var 4) (.lit 0)) (.ile (.lit 85) (.var 4))).den q = true) (h7 : (BE.not (.and (.ile (.lit 0) (.var 1)) (.ilt (.var 1) (.lit 24)))).den q = true) (h8 : (BE.not (.and (.ile (.lit 0) (.var 1)) (.ilt (.var 1) (.lit 9)))).den q = false) : Sat (lawPostG ss2 shE) lawSem1 [] q (exec tab exact_E 3535 [] ex_c24) := by
  rw [ex_r24]
  unfold ex_p24
  unfold InR at hq
  repeat' first
    | refine Sat.br (fun _ => ?_) (fun _ => ?_)
    | refine Sat.ob ?_ ?_
    | refine Sat.fin (Eq.trans (b := (Sub.nenv _ _).bv 5) rfl ?_)
    | refine Sat.call rfl trivial (fun _ _ => ?_)
  all_goals
    simp [Sub.nenv, assoc, D.le, D.lef, D.lt, D.ltf, D.eq, D.eqf, D.not, D.notf, D.and, D.andf, D.or, D.orf, D.inr, D.var, D.lit, D.litI, D.varI, D.add, D.sub, D.mul, D.mod, D.div, D.wrap, D.i64min, D.i64max, D.ite, beqI, Env.join, IntKind.wrap_u64, tm, td] at *
    try omega
set_option maxHeartbeats 0 in
theorem ex_s23 (q : Env) (hq : InR q) (h0 : (BE.or (.ilt (.var 1) (.lit 0)) (.ile (.lit 24) (.var 1))).den q = true) (h1 : (BE.not (.and (.ile (.lit 0) (.var 0)) (.ilt (.var 0) (.lit 6)))).den q = false) (h2 : (BE.or (.ilt (.var 1) (.lit 0)) (.ile (.lit 9) (.var 1))).den q = true) (h3 : (BE.inr .i64 (.add (.lit 79) (.var 0))).den q = true) (h4 : (BE.not (.ieq (.var 2) (.lit 0))).den q = false) (h5 : (BE.not (.ieq (.var 3) (.lit 0))).den q = false) (h6 : (BE.or (.ilt (.var 4) (.lit 0)) (.ile (.lit 85) (.var 4))).den q = true) (h7 : (BE.not (.and (.ile (.lit 0) (.var 1)) (.ilt (.var 1) (.lit 24)))).den q = true) (h8 : (BE.not (.and (.ile (.lit 0) (.var 1)) (.ilt (.var 1) (.lit 9)))).den q = true) : Sat (lawPostG ss2 shE) lawSem1 [] q (exec tab exact_E 3535 [] ex_c23) := by
  rw [ex_r23]
  unfold ex_p23
  unfold InR at hq
  repeat' first
    | refine Sat.br (fun _ => ?_) (fun _ => ?_)
    | refine Sat.ob ?_ ?_
    | refine Sat.fin (Eq.trans (b := (Sub.nenv _ _).bv 5) rfl ?_)
    | refine Sat.call rfl trivial (fun _ _ => ?_)
  all_goals
    simp [Sub.nenv, assoc, D.le, D.lef, D.lt, D.ltf, D.eq, D.eqf, D.not, D.notf, D.and, D.andf, D.or, D.orf, D.inr, D.var, D.lit, D.litI, D.varI, D.add, D.sub, D.mul, D.mod, D.div, D.wrap, D.i64min, D.i64max, D.ite, beqI, Env.join, IntKind.wrap_u64, tm, td] at *
    try omega
set_option maxHeartbeats 0 in
theorem ex_s22 (q : Env) (hq : InR q) (h0 : (BE.or (.ilt (.var 1) (.lit 0)) (.ile (.lit 24) (.var 1))).den q = true) (h1 : (BE.not (.and (.ile (.lit 0) (.var 0)) (.ilt (.var 0) (.lit 6)))).den q = false) (h2 : (BE.or (.ilt (.var 1) (.lit 0)) (.ile (.lit 9) (.var 1))).den q = true) (h3 : (BE.inr .i64 (.add (.lit 79) (.var 0))).den q = true) (h4 : (BE.not (.ieq (.var 2) (.lit 0))).den q = false) (h5 : (BE.not (.ieq (.var 3) (.lit 0))).den q = true) (h6 : (BE.not (.and (.ile (.lit 0) (.var 1)) (.ilt (.var 1) (.lit 24)))).den q = false) (h7 : (BE.ilt (.var 1) (.lit 0)).den q = true) (h8 : (BE.not (.ilt (.var 1) (.lit 9))).den q = false) : Sat (lawPostG ss2 shE) lawSem1 [] q (exec tab exact_E 3533 [] ex_c22) := by
  rw [ex_r22]
  unfold ex_p22
  unfold InR at hq
  repeat' first
    | refine Sat.br (fun _ => ?_) (fun _ => ?_)
    | refine Sat.ob ?_ ?_
    | refine Sat.fin (Eq.trans (b := (Sub.nenv _ _).bv 5) rfl ?_)
    | refine Sat.call rfl trivial (fun _ _ => ?_)
  all_goals
    simp [Sub.nenv, assoc, D.le, D.lef, D.lt, D.ltf, D.eq, D.eqf, D.not, D.notf, D.and, D.andf, D.or, D.orf, D.inr, D.var, D.lit, D.litI, D.varI, D.add, D.sub, D.mul, D.mod, D.div, D.wrap, D.i64min, D.i64max, D.ite, beqI, Env.join, IntKind.wrap_u64, tm, td] at *
    try omega
set_option maxHeartbeats 0 in
theorem ex_s21 (q : Env) (hq : InR q) (h0 : (BE.or (.ilt (.var 1) (.lit 0)) (.ile (.lit 24) (.var 1))).den q = true) (h1 : (BE.not (.and (.ile (.lit 0) (.var 0)) (.ilt (.var 0) (.lit 6)))).den q = false) (h2 : (BE.or (.ilt (.var 1) (.lit 0)) (.ile (.lit 9) (.var 1))).den q = true) (h3 : (BE.inr .i64 (.add (.lit 79) (.var 0))).den q = true) (h4 : (BE.not (.ieq (.var 2) (.lit 0))).den q = false) (h5 : (BE.not (.ieq (.var 3) (.lit 0))).den q = true) (h6 : (BE.not (.and (.ile (.lit 0) (.var 1)) (.ilt (.var 1) (.lit 24)))).den q = false) (h7 : (BE.ilt (.var 1) (.lit 0)).den q = true) (h8 : (BE.not (.ilt (.var 1) (.lit 9))).den q = true) : Sat (lawPostG ss2 shE) lawSem1 [] q (exec tab exact_E 3533 [] ex_c21) := by
  rw [ex_r21]
  unfold ex_p21
  unfold InR at hq
  repeat' first
    | refine Sat.br (fun _ => ?_) (fun _ => ?_)
    | refine Sat.ob ?_ ?_
    | refine Sat.fin (Eq.trans (b := (Sub.nenv _ _).bv 5) rfl ?_)
    | refine Sat.call rfl trivial (fun _ _ => ?_)
  all_goals
    simp [Sub.nenv, assoc, D.le, D.lef, D.lt, D.ltf, D.eq, D.eqf, D.not, D.notf, D.and, D.andf, D.or, D.orf, D.inr, D.var, D.lit, D.litI, D.varI, D.add, D.sub, D.mul, D.mod, D.div, D.wrap, D.i64min, D.i64max, D.ite, beqI, Env.join, IntKind.wrap_u64, tm, td] at *
    try omega
set_option maxHeartbeats 0 in
theorem ex_s20 (q : Env) (hq : InR q) (h0 : (BE.or (.ilt (.var 1) (.lit 0)) (.ile (.lit 24) (.var 1))).den q = true) (h1 : (BE.not (.and (.ile (.lit 0) (.var 0)) (.ilt (.var 0) (.lit 6)))).den q = false) (h2 : (BE.or (.ilt (.var 1) (.lit 0)) (.ile (.lit 9) (.var 1))).den q = true) (h3 : (BE.inr .i64 (.add (.lit 79) (.var 0))).den q = true) (h4 : (BE.not (.ieq (.var 2) (.lit 0))).den q = false) (h5 : (BE.not (.ieq (.var 3) (.lit 0))).den q = true) (h6 : (BE.not (.and (.ile (.lit 0) (.var 1)) (.ilt (.var 1) (.lit 24)))).den q = true) (h7 : (BE.not (.and (.ile (.lit 0) (.var 1)) (.ilt (.var 1) (.lit 9)))).den q = false) (h8 : (BE.inr .i64 (.mul (.lit 9) (.var 0))).den q = true) (h9 : (BE.inr .i64 (.add (.lit 25) (.mul (.lit 9) (.var 0)))).den q = true) (h10 : (BE.inr .i64 (.add (.add (.lit 25) (.mul (.lit 9) (.var 0))) (.var 1))).den q = true) (h11 : (BE.ilt (.add (.add (.lit 25) (.mul (.lit 9) (.var 0))) (.var 1)) (.lit 0)).den q = false) : Sat (lawPostG ss2 shE) lawSem1 [] q (exec tab exact_E 3510 [] ex_c20) := by
  rw [ex_r20]
  unfold ex_p20
  unfold InR at hq
  repeat' first
    | refine Sat.br (fun _ => ?_) (fun _ => ?_)
    | refine Sat.ob ?_ ?_
    | refine Sat.fin (Eq.trans (b := (Sub.nenv _ _).bv 5) rfl ?_)
    | refine Sat.call rfl trivial (fun _ _ => ?_)
  all_goals
    simp [Sub.nenv, assoc, D.le, D.lef, D.lt, D.ltf, D.eq, D.eqf, D.not, D.notf, D.and, D.andf, D.or, D.orf, D.inr, D.var, D.lit, D.litI, D.varI, D.add, D.sub, D.mul, D.mod, D.div, D.wrap, D.i64min, D.i64max, D.ite, beqI, Env.join, IntKind.wrap_u64, tm, td] at *
    try omega
set_option maxHeartbeats 0 in
theorem ex_s19 (q : Env) (hq : InR q) (h0 : (BE.or (.ilt (.var 1) (.lit 0)) (.ile (.lit 24) (.var 1))).den q = true) (h1 : (BE.not (.and (.ile (.lit 0) (.var 0)) (.ilt (.var 0) (.lit 6)))).den q = false) (h2 : (BE.or (.ilt (.var 1) (.lit 0)) (.ile (.lit 9) (.var 1))).den q = true) (h3 : (BE.inr .i64 (.add (.lit 79) (.var 0))).den q = true) (h4 : (BE.not (.ieq (.var 2) (.lit 0))).den q = false) (h5 : (BE.not (.ieq (.var 3) (.lit 0))).den q = true) (h6 : (BE.not (.and (.ile (.lit 0) (.var 1)) (.ilt (.var 1) (.lit 24)))).den q = true) (h7 : (BE.not (.and (.ile (.lit 0) (.var 1)) (.ilt (.var 1) (.lit 9)))).den q = false) (h8 : (BE.inr .i64 (.mul (.lit 9) (.var 0))).den q = true) (h9 : (BE.inr .i64 (.add (.lit 25) (.mul (.lit 9) (.var 0)))).den q = true) (h10 : (BE.inr .i64 (.add (.add (.lit 25) (.mul (.lit 9) (.var 0))) (.var 1))).den q = true) (h11 : (BE.ilt (.add (.add (.lit 25) (.mul (.lit 9) (.var 0))) (.var 1)) (.lit 0)).den q = true) : Sat (lawPostG ss2 shE) lawSem1 [] q (exec tab exact_E 3510 [] ex_c19) := by
  rw [ex_r19]
  unfold ex_p19
  unfold InR at hq
  repeat' first
    | refine Sat.br (fun _ => ?_) (fun _ => ?_)
    | refine Sat.ob ?_ ?_
    | refine Sat.fin (Eq.trans (b := (Sub.nenv _ _).bv 5) rfl ?_)
    | refine Sat.call rfl trivial (fun _ _ => ?_)
  all_goals
    simp [Sub.nenv, assoc, D.le, D.lef, D.lt, D.ltf, D.eq, D.eqf, D.not, D.notf, D.and, D.andf, D.or, D.orf, D.inr, D.var, D.lit, D.litI, D.varI, D.add, D.sub, D.mul, D.mod, D.div, D.wrap, D.i64min, D.i64max, D.ite, beqI, Env.join, IntKind.wrap_u64, tm, td] at *
    try omega
set_option maxHeartbeats 0 in
theorem ex_s18 (q : Env) (hq : InR q) (h0 : (BE.or (.ilt (.var 1) (.lit 0)) (.ile (.lit 24) (.var 1))).den q = true) (h1 : (BE.not (.and (.ile (.lit 0) (.var 0)) (.ilt (.var 0) (.lit 6)))).den q = false) (h2 : (BE.or (.ilt (.var 1) (.lit 0)) (.ile (.lit 9) (.var 1))).den q = true) (h3 : (BE.inr .i64 (.add (.lit 79) (.var 0))).den q = true) (h4 : (BE.not (.ieq (.var 2) (.lit 0))).den q = false) (h5 : (BE.not (.ieq (.var 3) (.lit 0))).den q = true) (h6 : (BE.not (.and (.ile (.lit 0) (.var 1)) (.ilt (.var 1) (.lit 24)))).den q = true) (h7 : (BE.not (.and (.ile (.lit 0) (.var 1)) (.ilt (.var 1) (.lit 9)))).den q = true) (h8 : (BE.ilt (.add (.lit 79) (.var 0)) (.lit 0)).den q = false) : Sat (lawPostG ss2 shE) lawSem1 [] q (exec tab exact_E 3444 [] ex_c18) := by
  rw [ex_r18]
  unfold ex_p18
  unfold InR at hq
  repeat' first
    | refine Sat.br (fun _ => ?_) (fun _ => ?_)
    | refine Sat.ob ?_ ?_
    | refine Sat.fin (Eq.trans (b := (Sub.nenv _ _).bv 5) rfl ?_)
    | refine Sat.call rfl trivial (fun _ _ => ?_)
  all_goals
    simp [Sub.nenv, assoc, D.le, D.lef, D.lt, D.ltf, D.eq, D.eqf, D.not, D.notf, D.and, D.andf, D.or, D.orf, D.inr, D.var, D.lit, D.litI, D.varI, D.add, D.sub, D.mul, D.mod, D.div, D.wrap, D.i64min, D.i64max, D.ite, beqI, Env.join, IntKind.wrap_u64, tm, td] at *
    try omega
set_option maxHeartbeats 0 in
theorem ex_s17 (q : Env) (hq : InR q) (h0 : (BE.or (.ilt (.var 1) (.lit 0)) (.ile (.lit 24) (.var 1))).den q = true) (h1 : (BE.not (.and (.ile (.lit 0) (.var 0)) (.ilt (.var 0) (.lit 6)))).den q = false) (h2 : (BE.or (.ilt (.var 1) (.lit 0)) (.ile (.lit 9) (.var 1))).den q = true) (h3 : (BE.inr .i64 (.add (.lit 79) (.var 0))).den q = true) (h4 : (BE.not (.ieq (.var 2) (.lit 0))).den q = false) (h5 : (BE.not (.ieq (.var 3) (.lit 0))).den q = true) (h6 : (BE.not (.and (.ile (.lit 0) (.var 1)) (.ilt (.var 1) (.lit 24)))).den q = true) (h7 : (BE.not (.and (.ile (.lit 0) (.var 1)) (.ilt (.var 1) (.lit 9)))).den q = true) (h8 : (BE.ilt (.add (.lit 79) (.var 0)) (.lit 0)).den q = true) : Sat (lawPostG ss2 shE) lawSem1 [] q (exec tab exact_E 3444 [] ex_c17) := by
  rw [ex_r17]
  unfold ex_p17
  unfold InR at hq
  repeat' first
    | refine Sat.br (fun _ => ?_) (fun _ => ?_)
    | refine Sat.ob ?_ ?_
    | refine Sat.fin (Eq.trans (b := (Sub.nenv _ _).bv 5) rfl ?_)
    | refine Sat.call rfl trivial (fun _ _ => ?_)
  all_goals
    simp [Sub.nenv, assoc, D.le, D.lef, D.lt, D.ltf, D.eq, D.eqf, D.not, D.notf, D.and, D.andf, D.or, D.orf, D.inr, D.var, D.lit, D.litI, D.varI, D.add, D.sub, D.mul, D.mod, D.div, D.wrap, D.i64min, D.i64max, D.ite, beqI, Env.join, IntKind.wrap_u64, tm, td] at *
    try omega
set_option maxHeartbeats 0 in
theorem ex_s16 (q : Env) (hq : InR q) (h0 : (BE.or (.ilt (.var 1) (.lit 0)) (.ile (.lit 24) (.var 1))).den q = false) (h1 : (BE.inr .i64 (.var 1)).den q = true) (h2 : (BE.not (.and (.ile (.lit 0) (.var 0)) (.ilt (.var 0) (.lit 6)))).den q = false) (h3 : (BE.ile (.lit 9) (.var 1)).den q = false) (h4 : (BE.inr .i64 (.mul (.var 0) (.lit 9))).den q = true) (h5 : (BE.inr .i64 (.add (.lit 25) (.mul (.var 0) (.lit 9)))).den q = true) (h6 : (BE.inr .i64 (.add (.add (.lit 25) (.mul (.var 0) (.lit 9))) (.var 1))).den q = true) (h7 : (BE.inr .i64 (.add (.lit 79) (.var 0))).den q = true) (h8 : (BE.not (.ieq (.var 2) (.lit 0))).den q = false) : Sat (lawPostG ss2 shE) lawSem1 [] q (exec tab exact_E 3807 [] ex_c16) := by
  rw [ex_r16]
  unfold ex_p16
  unfold InR at hq
  repeat' first
    | refine Sat.br (fun _ => ?_) (fun _ => ?_)
    | refine Sat.ob ?_ ?_
    | refine Sat.fin (Eq.trans (b := (Sub.nenv _ _).bv 5) rfl ?_)
    | refine Sat.call rfl trivial (fun _ _ => ?_)
  all_goals
    simp [Sub.nenv, assoc, D.le, D.lef, D.lt, D.ltf, D.eq, D.eqf, D.not, D.notf, D.and, D.andf, D.or, D.orf, D.inr, D.var, D.lit, D.litI, D.varI, D.add, D.sub, D.mul, D.mod, D.div, D.wrap, D.i64min, D.i64max, D.ite, beqI, Env.join, IntKind.wrap_u64, tm, td] at *
    try omega
set_option maxHeartbeats 0 in
theorem ex_s15 (q : Env) (hq : InR q) (h0 : (BE.or (.ilt (.var 1) (.lit 0)) (.ile (.lit 24) (.var 1))).den q = false) (h1 : (BE.inr .i64 (.var 1)).den q = true) (h2 : (BE.not (.and (.ile (.lit 0) (.var 0)) (.ilt (.var 0) (.lit 6)))).den q = false) (h3 : (BE.ile (.lit 9) (.var 1)).den q = false) (h4 : (BE.inr .i64 (.mul (.var 0) (.lit 9))).den q = true) (h5 : (BE.inr .i64 (.add (.lit 25) (.mul (.var 0) (.lit 9)))).den q = true) (h6 : (BE.inr .i64 (.add (.add (.lit 25) (.mul (.var 0) (.lit 9))) (.var 1))).den q = true) (h7 : (BE.inr .i64 (.add (.lit 79) (.var 0))).den q = true) (h8 : (BE.not (.ieq (.var 2) (.lit 0))).den q = true) : Sat (lawPostG ss2 shE) lawSem1 [] q (exec tab exact_E 3807 [] ex_c15) := by
  rw [ex_r15]
  unfold ex_p15
  unfold InR at hq
  repeat' first
    | refine Sat.br (fun _ => ?_) (fun _ => ?_)
    | refine Sat.ob ?_ ?_
    | refine Sat.fin (Eq.trans (b := (Sub.nenv _ _).bv 5) rfl ?_)
    | refine Sat.call rfl trivial (fun _ _ => ?_)
  all_goals
    simp [Sub.nenv, assoc, D.le, D.lef, D.lt, D.ltf, D.eq, D.eqf, D.not, D.notf, D.and, D.andf, D.or, D.orf, D.inr, D.var, D.lit, D.litI, D.varI, D.add, D.sub, D.mul, D.mod, D.div, D.wrap, D.i64min, D.i64max, D.ite, beqI, Env.join, IntKind.wrap_u64, tm, td] at *
    try omega
set_option maxHeartbeats 0 in
theorem ex_s14 (q : Env) (hq : InR q) (h0 : (BE.or (.ilt (.var 1) (.lit 0)) (.ile (.lit 24) (.var 1))).den q = false) (h1 : (BE.inr .i64 (.var 1)).den q = true) (h2 : (BE.not (.and (.ile (.lit 0) (.var 0)) (.ilt (.var 0) (.lit 6)))).den q = false) (h3 : (BE.ile (.lit 9) (.var 1)).den q = true) (h4 : (BE.inr .i64 (.add (.lit 79) (.var 0))).den q = true) (h5 : (BE.not (.ieq (.var 2) (.lit 0))).den q = false) : Sat (lawPostG ss2 shE) lawSem1 [] q (exec tab exact_E 3789 [] ex_c14) := by
  rw [ex_r14]
  unfold ex_p14
  unfold InR at hq
  repeat' first
    | refine Sat.br (fun _ => ?_) (fun _ => ?_)
    | refine Sat.ob ?_ ?_
    | refine Sat.fin (Eq.trans (b := (Sub.nenv _ _).bv 5) rfl ?_)
    | refine Sat.call rfl trivial (fun _ _ => ?_)
  all_goals
    simp [Sub.nenv, assoc, D.le, D.lef, D.lt, D.ltf, D.eq, D.eqf, D.not, D.notf, D.and, D.andf, D.or, D.orf, D.inr, D.var, D.lit, D.litI, D.varI, D.add, D.sub, D.mul, D.mod, D.div, D.wrap, D.i64min, D.i64max, D.ite, beqI, Env.join, IntKind.wrap_u64, tm, td] at *
    try omega
set_option maxHeartbeats 0 in
theorem ex_s13 (q : Env) (hq : InR q) (h0 : (BE.or (.ilt (.var 1) (.lit 0)) (.ile (.lit 24) (.var 1))).den q = false) (h1 : (BE.inr .i64 (.var 1)).den q = true) (h2 : (BE.not (.and (.ile (.lit 0) (.var 0)) (.ilt (.var 0) (.lit 6)))).den q = false) (h3 : (BE.ile (.lit 9) (.var 1)).den q = true) (h4 : (BE.inr .i64 (.add (.lit 79) (.var 0))).den q = true) (h5 : (BE.not (.ieq (.var 2) (.lit 0))).den q = true) : Sat (lawPostG ss2 shE) lawSem1 [] q (exec tab exact_E 3789 [] ex_c13) := by
  rw [ex_r13]
  unfold ex_p13
  unfold InR at hq
  repeat' first
    | refine Sat.br (fun _ => ?_) (fun _ => ?_)
    | refine Sat.ob ?_ ?_
    | refine Sat.fin (Eq.trans (b := (Sub.nenv _ _).bv 5) rfl ?_)
    | refine Sat.call rfl trivial (fun _ _ => ?_)
  all_goals
    simp [Sub.nenv, assoc, D.le, D.lef, D.lt, D.ltf, D.eq, D.eqf, D.not, D.notf, D.and, D.andf, D.or, D.orf, D.inr, D.var, D.lit, D.litI, D.varI, D.add, D.sub, D.mul, D.mod, D.div, D.wrap, D.i64min, D.i64max, D.ite, beqI, Env.join, IntKind.wrap_u64, tm, td] at *
    try omega
set_option maxHeartbeats 0 in
theorem ex_s12 (q : Env) (hq : InR q) (h0 : (BE.or (.ilt (.var 1) (.lit 0)) (.ile (.lit 24) (.var 1))).den q = false) (h1 : (BE.inr .i64 (.var 1)).den q = true) (h2 : (BE.not (.and (.ile (.lit 0) (.var 0)) (.ilt (.var 0) (.lit 6)))).den q = true) (h3 : (BE.not (.ieq (.var 2) (.lit 0))).den q = false) (h4 : (BE.not (.ieq (.var 3) (.lit 0))).den q = false) : Sat (lawPostG ss2 shE) lawSem1 [] q (exec tab exact_E 3764 [] ex_c12) := by
  rw [ex_r12]
  unfold ex_p12
  unfold InR at hq
  repeat' first
    | refine Sat.br (fun _ => ?_) (fun _ => ?_)
    | refine Sat.ob ?_ ?_
    | refine Sat.fin (Eq.trans (b := (Sub.nenv _ _).bv 5) rfl ?_)
    | refine Sat.call rfl trivial (fun _ _ => ?_)
  all_goals
    simp [Sub.nenv, assoc, D.le, D.lef, D.lt, D.ltf, D.eq, D.eqf, D.not, D.notf, D.and, D.andf, D.or, D.orf, D.inr, D.var, D.lit, D.litI, D.varI, D.add, D.sub, D.mul, D.mod, D.div, D.wrap, D.i64min, D.i64max, D.ite, beqI, Env.join, IntKind.wrap_u64, tm, td] at *
    try omega
set_option maxHeartbeats 0 in
theorem ex_s11 (q : Env) (hq : InR q) (h0 : (BE.or (.ilt (.var 1) (.lit 0)) (.ile (.lit 24) (.var 1))).den q = false) (h1 : (BE.inr .i64 (.var 1)).den q = true) (h2 : (BE.not (.and (.ile (.lit 0) (.var 0)) (.ilt (.var 0) (.lit 6)))).den q = true) (h3 : (BE.not (.ieq (.var 2) (.lit 0))).den q = false) (h4 : (BE.not (.ieq (.var 3) (.lit 0))).den q = true) : Sat (lawPostG ss2 shE) lawSem1 [] q (exec tab exact_E 3764 [] ex_c11) := by
  rw [ex_r11]
  unfold ex_p11
  unfold InR at hq
  repeat' first
    | refine Sat.br (fun _ => ?_) (fun _ => ?_)
    | refine Sat.ob ?_ ?_
    | refine Sat.fin (Eq.trans (b := (Sub.nenv _ _).bv 5) rfl ?_)
    | refine Sat.call rfl trivial (fun _ _ => ?_)
  all_goals
    simp [Sub.nenv, assoc, D.le, D.lef, D.lt, D.ltf, D.eq, D.eqf, D.not, D.notf, D.and, D.andf, D.or, D.orf, D.inr, D.var, D.lit, D.litI, D.varI, D.add, D.sub, D.mul, D.mod, D.div, D.wrap, D.i64min, D.i64max, D.ite, beqI, Env.join, IntKind.wrap_u64, tm, td] at *
    try omega
set_option maxHeartbeats 0 in
theorem ex_s10 (q : Env) (hq : InR q) (h0 : (BE.or (.ilt (.var 1) (.lit 0)) (.ile (.lit 24) (.var 1))).den q = false) (h1 : (BE.inr .i64 (.var 1)).den q = true) (h2 : (BE.not (.and (.ile (.lit 0) (.var 0)) (.ilt (.var 0) (.lit 6)))).den q = true) (h3 : (BE.not (.ieq (.var 2) (.lit 0))).den q = true) (h4 : (BE.not (.and (.ile (.lit 0) (.var 1)) (.ilt (.var 1) (.lit 24)))).den q = false) : Sat (lawPostG ss2 shE) lawSem1 [] q (exec tab exact_E 3628 [] ex_c10) := by
  rw [ex_r10]
  unfold ex_p10
  unfold InR at hq
  repeat' first
    | refine Sat.br (fun _ => ?_) (fun _ => ?_)
    | refine Sat.ob ?_ ?_
    | refine Sat.fin (Eq.trans (b := (Sub.nenv _ _).bv 5) rfl ?_)
    | refine Sat.call rfl trivial (fun _ _ => ?_)
  all_goals
    simp [Sub.nenv, assoc, D.le, D.lef, D.lt, D.ltf, D.eq, D.eqf, D.not, D.notf, D.and, D.andf, D.or, D.orf, D.inr, D.var, D.lit, D.litI, D.varI, D.add, D.sub, D.mul, D.mod, D.div, D.wrap, D.i64min, D.i64max, D.ite, beqI, Env.join, IntKind.wrap_u64, tm, td] at *
    try omega
set_option maxHeartbeats 0 in
theorem ex_s9 (q : Env) (hq : InR q) (h0 : (BE.or (.ilt (.var 1) (.lit 0)) (.ile (.lit 24) (.var 1))).den q = false) (h1 : (BE.inr .i64 (.var 1)).den q = true) (h2 : (BE.not (.and (.ile (.lit 0) (.var 0)) (.ilt (.var 0) (.lit 6)))).den q = true) (h3 : (BE.not (.ieq (.var 2) (.lit 0))).den q = true) (h4 : (BE.not (.and (.ile (.lit 0) (.var 1)) (.ilt (.var 1) (.lit 24)))).den q = true) : Sat (lawPostG ss2 shE) lawSem1 [] q (exec tab exact_E 3628 [] ex_c9) := by
  rw [ex_r9]
  unfold ex_p9
  unfold InR at hq
  repeat' first
    | refine Sat.br (fun _ => ?_) (fun _ => ?_)
    | refine Sat.ob ?_ ?_
    | refine Sat.fin (Eq.trans (b := (Sub.nenv _ _).bv 5) rfl ?_)
    | refine Sat.call rfl trivial (fun _ _ => ?_)
  all_goals
    simp [Sub.nenv, assoc, D.le, D.lef, D.lt, D.ltf, D.eq, D.eqf, D.not, D.notf, D.and, D.andf, D.or, D.orf, D.inr, D.var, D.lit, D.litI, D.varI, D.add, D.sub, D.mul, D.mod, D.div, D.wrap, D.i64min, D.i64max, D.ite, beqI, Env.join, IntKind.wrap_u64, tm, td] at *
    try omega
set_option maxHeartbeats 0 in
theorem ex_s8 (q : Env) (hq : InR q) (h0 : (BE.or (.ilt (.var 1) (.lit 0)) (.ile (.lit 24) (.var 1))).den q = true) (h1 : (BE.not (.and (.ile (.lit 0) (.var 0)) (.ilt (.var 0) (.lit 6)))).den q = false) (h2 : (BE.or (.ilt (.var 1) (.lit 0)) (.ile (.lit 9) (.var 1))).den q = false) (h3 : (BE.inr .i64 (.mul (.var 0) (.lit 9))).den q = true) (h4 : (BE.inr .i64 (.add (.lit 25) (.mul (.var 0) (.lit 9)))).den q = true) (h5 : (BE.inr .i64 (.add (.add (.lit 25) (.mul (.var 0) (.lit 9))) (.var 1))).den q = true) (h6 : (BE.inr .i64 (.add (.lit 79) (.var 0))).den q = true) (h7 : (BE.not (.ieq (.var 2) (.lit 0))).den q = false) : Sat (lawPostG ss2 shE) lawSem1 [] q (exec tab exact_E 3786 [] ex_c8) := by
  rw [ex_r8]
  unfold ex_p8
  unfold InR at hq
  repeat' first
    | refine Sat.br (fun _ => ?_) (fun _ => ?_)
    | refine Sat.ob ?_ ?_
    | refine Sat.fin (Eq.trans (b := (Sub.nenv _ _).bv 5) rfl ?_)
    | refine Sat.call rfl trivial (fun _ _ => ?_)
  all_goals
    simp [Sub.nenv, assoc, D.le, D.lef, D.lt, D.ltf, D.eq, D.eqf, D.not, D.notf, D.and, D.andf, D.or, D.orf, D.inr, D.var, D.lit, D.litI, D.varI, D.add, D.sub, D.mul, D.mod, D.div, D.wrap, D.i64min, D.i64max, D.ite, beqI, Env.join, IntKind.wrap_u64, tm, td] at *
    try omega
set_option maxHeartbeats 0 in
theorem ex_s7 (q : Env) (hq : InR q) (h0 : (BE.or (.ilt (.var 1) (.lit 0)) (.ile (.lit 24) (.var 1))).den q = true) (h1 : (BE.not (.and (.ile (.lit 0) (.var 0)) (.ilt (.var 0) (.lit 6)))).den q = false) (h2 : (BE.or (.ilt (.var 1) (.lit 0)) (.ile (.lit 9) (.var 1))).den q = false) (h3 : (BE.inr .i64 (.mul (.var 0) (.lit 9))).den q = true) (h4 : (BE.inr .i64 (.add (.lit 25) (.mul (.var 0) (.lit 9)))).den q = true) (h5 : (BE.inr .i64 (.add (.add (.lit 25) (.mul (.var 0) (.lit 9))) (.var 1))).den q = true) (h6 : (BE.inr .i64 (.add (.lit 79) (.var 0))).den q = true) (h7 : (BE.not (.ieq (.var 2) (.lit 0))).den q = true) : Sat (lawPostG ss2 shE) lawSem1 [] q (exec tab exact_E 3786 [] ex_c7) := by
  rw [ex_r7]
  unfold ex_p7
  unfold InR at hq
  repeat' first
    | refine Sat.br (fun _ => ?_) (fun _ => ?_)
    | refine Sat.ob ?_ ?_
    | refine Sat.fin (Eq.trans (b := (Sub.nenv _ _).bv 5) rfl ?_)
    | refine Sat.call rfl trivial (fun _ _ => ?_)
  all_goals
    simp [Sub.nenv, assoc, D.le, D.lef, D.lt, D.ltf, D.eq, D.eqf, D.not, D.notf, D.and, D.andf, D.or, D.orf, D.inr, D.var, D.lit, D.litI, D.varI, D.add, D.sub, D.mul, D.mod, D.div, D.wrap, D.i64min, D.i64max, D.ite, beqI, Env.join, IntKind.wrap_u64, tm, td] at *
    try omega
theorem ex_s6 (q : Env) (hq : InR q) (h0 : (BE.or (.ilt (.var 1) (.lit 0)) (.ile (.lit 24) (.var 1))).den q = true) (h1 : (BE.not (.and (.ile (.lit 0) (.var 0)) (.ilt (.var 0) (.lit 6)))).den q = false) (h2 : (BE.or (.ilt (.var 1) (.lit 0)) (.ile (.lit 9) (.var 1))).den q = true) (h3 : (BE.inr .i64 (.add (.lit 79) (.var 0))).den q = true) (h4 : (BE.not (.ieq (.var 2) (.lit 0))).den q = false) : Sat (lawPostG ss2 shE) lawSem1 [] q (exec tab exact_E 3768 [] ex_c6) := by
  rw [ex_r6]
  exact
  Sat.br (fun h5 => Sat.br (fun h6 => Sat.call rfl trivial (fun e6 _ => Sat.br (fun h7 => Sat.call rfl trivial (fun e8 _ => Sat.br (fun h8 => ex_s17 ((q.join 5 e6).join 5 e8) hq h0 h1 h2 h3 h4 h5 h6 h7 h8)
         (fun h8 => ex_s18 ((q.join 5 e6).join 5 e8) hq h0 h1 h2 h3 h4 h5 h6 h7 h8)))
       (fun h7 => (have h8 : (BE.inr .i64 (.mul (.lit 9) (.var 0))).den (q.join 5 e6) = true := by (unfold InR at hq; simp [Sub.nenv, assoc, D.le, D.lef, D.lt, D.ltf, D.eq, D.eqf, D.not, D.notf, D.and, D.andf, D.or, D.orf, D.inr, D.var, D.lit, D.litI, D.varI, D.add, D.sub, D.mul, D.mod, D.div, D.wrap, D.i64min, D.i64max, D.ite, beqI, Env.join, IntKind.wrap_u64, tm, td] at *; try omega)
  Sat.ob h8 ((have h9 : (BE.inr .i64 (.add (.lit 25) (.mul (.lit 9) (.var 0)))).den (q.join 5 e6) = true := by (unfold InR at hq; simp [Sub.nenv, assoc, D.le, D.lef, D.lt, D.ltf, D.eq, D.eqf, D.not, D.notf, D.and, D.andf, D.or, D.orf, D.inr, D.var, D.lit, D.litI, D.varI, D.add, D.sub, D.mul, D.mod, D.div, D.wrap, D.i64min, D.i64max, D.ite, beqI, Env.join, IntKind.wrap_u64, tm, td] at *; try omega)
  Sat.ob h9 ((have h10 : (BE.inr .i64 (.add (.add (.lit 25) (.mul (.lit 9) (.var 0))) (.var 1))).den (q.join 5 e6) = true := by (unfold InR at hq; simp [Sub.nenv, assoc, D.le, D.lef, D.lt, D.ltf, D.eq, D.eqf, D.not, D.notf, D.and, D.andf, D.or, D.orf, D.inr, D.var, D.lit, D.litI, D.varI, D.add, D.sub, D.mul, D.mod, D.div, D.wrap, D.i64min, D.i64max, D.ite, beqI, Env.join, IntKind.wrap_u64, tm, td] at *; try omega)
  Sat.ob h10 (Sat.br (fun h11 => ex_s19 (q.join 5 e6) hq h0 h1 h2 h3 h4 h5 h6 h7 h8 h9 h10 h11)
           (fun h11 => ex_s20 (q.join 5 e6) hq h0 h1 h2 h3 h4 h5 h6 h7 h8 h9 h10 h11))))))))))
     (fun h6 => Sat.br (fun h7 => Sat.call rfl trivial (fun e7 _ => Sat.br (fun h8 => ex_s21 (q.join 5 e7) hq h0 h1 h2 h3 h4 h5 h6 h7 h8)
        (fun h8 => ex_s22 (q.join 5 e7) hq h0 h1 h2 h3 h4 h5 h6 h7 h8)))
      (fun h7 => (by
    unfold InR at hq
    repeat' first
      | refine Sat.br (fun _ => ?_) (fun _ => ?_)
      | refine Sat.ob ?_ ?_
      | refine Sat.fin (Eq.trans (b := (Sub.nenv _ _).bv 5) rfl ?_)
      | refine Sat.call rfl trivial (fun _ _ => ?_)
    all_goals
      simp [Sub.nenv, assoc, D.le, D.lef, D.lt, D.ltf, D.eq, D.eqf, D.not, D.notf, D.and, D.andf, D.or, D.orf, D.inr, D.var, D.lit, D.litI, D.varI, D.add, D.sub, D.mul, D.mod, D.div, D.wrap, D.i64min, D.i64max, D.ite, beqI, Env.join, IntKind.wrap_u64, tm, td] at *
      try omega))))
    (fun h5 => Sat.br (fun h6 => Sat.br (fun h7 => Sat.call rfl trivial (fun e7 _ => Sat.br (fun h8 => ex_s23 (q.join 5 e7) hq h0 h1 h2 h3 h4 h5 h6 h7 h8)
        (fun h8 => ex_s24 (q.join 5 e7) hq h0 h1 h2 h3 h4 h5 h6 h7 h8)))
      (fun h7 => Sat.br (fun h8 => ex_s25 q hq h0 h1 h2 h3 h4 h5 h6 h7 h8)
       (fun h8 => ex_s26 q hq h0 h1 h2 h3 h4 h5 h6 h7 h8)))
     (fun h6 => Sat.br (fun h7 => (have h8 : (BE.inr .i64 (.var 4)).den q = true := by (unfold InR at hq; simp [Sub.nenv, assoc, D.le, D.lef, D.lt, D.ltf, D.eq, D.eqf, D.not, D.notf, D.and, D.andf, D.or, D.orf, D.inr, D.var, D.lit, D.litI, D.varI, D.add, D.sub, D.mul, D.mod, D.div, D.wrap, D.i64min, D.i64max, D.ite, beqI, Env.join, IntKind.wrap_u64, tm, td] at *; try omega)
  Sat.ob h8 (Sat.br (fun h9 => ex_s27 q hq h0 h1 h2 h3 h4 h5 h6 h7 h8 h9)
        (fun h9 => ex_s28 q hq h0 h1 h2 h3 h4 h5 h6 h7 h8 h9))))
      (fun h7 => Sat.br (fun h8 => ex_s29 q hq h0 h1 h2 h3 h4 h5 h6 h7 h8)
       (fun h8 => ex_s30 q hq h0 h1 h2 h3 h4 h5 h6 h7 h8))))
set_option maxHeartbeats 0 in
theorem ex_s5 (q : Env) (hq : InR q) (h0 : (BE.or (.ilt (.var 1) (.lit 0)) (.ile (.lit 24) (.var 1))).den q = true) (h1 : (BE.not (.and (.ile (.lit 0) (.var 0)) (.ilt (.var 0) (.lit 6)))).den q = false) (h2 : (BE.or (.ilt (.var 1) (.lit 0)) (.ile (.lit 9) (.var 1))).den q = true) (h3 : (BE.inr .i64 (.add (.lit 79) (.var 0))).den q = true) (h4 : (BE.not (.ieq (.var 2) (.lit 0))).den q = true) : Sat (lawPostG ss2 shE) lawSem1 [] q (exec tab exact_E 3768 [] ex_c5) := by
  rw [ex_r5]
  unfold ex_p5
  unfold InR at hq
  repeat' first
    | refine Sat.br (fun _ => ?_) (fun _ => ?_)
    | refine Sat.ob ?_ ?_
    | refine Sat.fin (Eq.trans (b := (Sub.nenv _ _).bv 5) rfl ?_)
    | refine Sat.call rfl trivial (fun _ _ => ?_)
  all_goals
    simp [Sub.nenv, assoc, D.le, D.lef, D.lt, D.ltf, D.eq, D.eqf, D.not, D.notf, D.and, D.andf, D.or, D.orf, D.inr, D.var, D.lit, D.litI, D.varI, D.add, D.sub, D.mul, D.mod, D.div, D.wrap, D.i64min, D.i64max, D.ite, beqI, Env.join, IntKind.wrap_u64, tm, td] at *
    try omega
set_option maxHeartbeats 0 in
theorem ex_s4 (q : Env) (hq : InR q) (h0 : (BE.or (.ilt (.var 1) (.lit 0)) (.ile (.lit 24) (.var 1))).den q = true) (h1 : (BE.not (.and (.ile (.lit 0) (.var 0)) (.ilt (.var 0) (.lit 6)))).den q = true) (h2 : (BE.not (.ieq (.var 2) (.lit 0))).den q = false) (h3 : (BE.not (.ieq (.var 3) (.lit 0))).den q = false) : Sat (lawPostG ss2 shE) lawSem1 [] q (exec tab exact_E 3743 [] ex_c4) := by
  rw [ex_r4]
  unfold ex_p4
  unfold InR at hq
  repeat' first
    | refine Sat.br (fun _ => ?_) (fun _ => ?_)
    | refine Sat.ob ?_ ?_
    | refine Sat.fin (Eq.trans (b := (Sub.nenv _ _).bv 5) rfl ?_)
    | refine Sat.call rfl trivial (fun _ _ => ?_)
  all_goals
    simp [Sub.nenv, assoc, D.le, D.lef, D.lt, D.ltf, D.eq, D.eqf, D.not, D.notf, D.and, D.andf, D.or, D.orf, D.inr, D.var, D.lit, D.litI, D.varI, D.add, D.sub, D.mul, D.mod, D.div, D.wrap, D.i64min, D.i64max, D.ite, beqI, Env.join, IntKind.wrap_u64, tm, td] at *
    try omega
set_option maxHeartbeats 0 in
theorem ex_s3 (q : Env) (hq : InR q) (h0 : (BE.or (.ilt (.var 1) (.lit 0)) (.ile (.lit 24) (.var 1))).den q = true) (h1 : (BE.not (.and (.ile (.lit 0) (.var 0)) (.ilt (.var 0) (.lit 6)))).den q = true) (h2 : (BE.not (.ieq (.var 2) (.lit 0))).den q = false) (h3 : (BE.not (.ieq (.var 3) (.lit 0))).den q = true) : Sat (lawPostG ss2 shE) lawSem1 [] q (exec tab exact_E 3743 [] ex_c3) := by
  rw [ex_r3]
  unfold ex_p3
  unfold InR at hq
  repeat' first
    | refine Sat.br (fun _ => ?_) (fun _ => ?_)
    | refine Sat.ob ?_ ?_
    | refine Sat.fin (Eq.trans (b := (Sub.nenv _ _).bv 5) rfl ?_)
    | refine Sat.call rfl trivial (fun _ _ => ?_)
  all_goals
    simp [Sub.nenv, assoc, D.le, D.lef, D.lt, D.ltf, D.eq, D.eqf, D.not, D.notf, D.and, D.andf, D.or, D.orf, D.inr, D.var, D.lit, D.litI, D.varI, D.add, D.sub, D.mul, D.mod, D.div, D.wrap, D.i64min, D.i64max, D.ite, beqI, Env.join, IntKind.wrap_u64, tm, td] at *
    try omega
set_option maxHeartbeats 0 in
theorem ex_s2 (q : Env) (hq : InR q) (h0 : (BE.or (.ilt (.var 1) (.lit 0)) (.ile (.lit 24) (.var 1))).den q = true) (h1 : (BE.not (.and (.ile (.lit 0) (.var 0)) (.ilt (.var 0) (.lit 6)))).den q = true) (h2 : (BE.not (.ieq (.var 2) (.lit 0))).den q = true) (h3 : (BE.not (.and (.ile (.lit 0) (.var 1)) (.ilt (.var 1) (.lit 24)))).den q = false) : Sat (lawPostG ss2 shE) lawSem1 [] q (exec tab exact_E 3607 [] ex_c2) := by
  rw [ex_r2]
  unfold ex_p2
  unfold InR at hq
  repeat' first
    | refine Sat.br (fun _ => ?_) (fun _ => ?_)
    | refine Sat.ob ?_ ?_
    | refine Sat.fin (Eq.trans (b := (Sub.nenv _ _).bv 5) rfl ?_)
    | refine Sat.call rfl trivial (fun _ _ => ?_)
  all_goals
    simp [Sub.nenv, assoc, D.le, D.lef, D.lt, D.ltf, D.eq, D.eqf, D.not, D.notf, D.and, D.andf, D.or, D.orf, D.inr, D.var, D.lit, D.litI, D.varI, D.add, D.sub, D.mul, D.mod, D.div, D.wrap, D.i64min, D.i64max, D.ite, beqI, Env.join, IntKind.wrap_u64, tm, td] at *
    try omega
set_option maxHeartbeats 0 in
theorem ex_s1 (q : Env) (hq : InR q) (h0 : (BE.or (.ilt (.var 1) (.lit 0)) (.ile (.lit 24) (.var 1))).den q = true) (h1 : (BE.not (.and (.ile (.lit 0) (.var 0)) (.ilt (.var 0) (.lit 6)))).den q = true) (h2 : (BE.not (.ieq (.var 2) (.lit 0))).den q = true) (h3 : (BE.not (.and (.ile (.lit 0) (.var 1)) (.ilt (.var 1) (.lit 24)))).den q = true) : Sat (lawPostG ss2 shE) lawSem1 [] q (exec tab exact_E 3607 [] ex_c1) := by
  rw [ex_r1]
  unfold ex_p1
  unfold InR at hq
  repeat' first
    | refine Sat.br (fun _ => ?_) (fun _ => ?_)
    | refine Sat.ob ?_ ?_
    | refine Sat.fin (Eq.trans (b := (Sub.nenv _ _).bv 5) rfl ?_)
    | refine Sat.call rfl trivial (fun _ _ => ?_)
  all_goals
    simp [Sub.nenv, assoc, D.le, D.lef, D.lt, D.ltf, D.eq, D.eqf, D.not, D.notf, D.and, D.andf, D.or, D.orf, D.inr, D.var, D.lit, D.litI, D.varI, D.add, D.sub, D.mul, D.mod, D.div, D.wrap, D.i64min, D.i64max, D.ite, beqI, Env.join, IntKind.wrap_u64, tm, td] at *
    try omega
set_option maxRecDepth 100000 in
theorem exact_top (q : Env) (hq : InR q) : Sat (lawPostG ss2 shE) lawSem1 [] q (.br (.or (.ilt (.var 1) (.lit 0)) (.ile (.lit 24) (.var 1)))
  (.br (.not (.and (.ile (.lit 0) (.var 0)) (.ilt (.var 0) (.lit 6))))
   (.br (.not (.ieq (.var 2) (.lit 0)))
    (.br (.not (.and (.ile (.lit 0) (.var 1)) (.ilt (.var 1) (.lit 24))))
     (exec tab exact_E 3607 [] ex_c1)
     (exec tab exact_E 3607 [] ex_c2))
    (.br (.not (.ieq (.var 3) (.lit 0)))
     (exec tab exact_E 3743 [] ex_c3)
     (exec tab exact_E 3743 [] ex_c4)))
   (.br (.or (.ilt (.var 1) (.lit 0)) (.ile (.lit 9) (.var 1)))
    (.ob (.inr .i64 (.add (.lit 79) (.var 0))) <|
     .br (.not (.ieq (.var 2) (.lit 0)))
     (exec tab exact_E 3768 [] ex_c5)
     (exec tab exact_E 3768 [] ex_c6))
    (.ob (.inr .i64 (.mul (.var 0) (.lit 9))) <|
     .ob (.inr .i64 (.add (.lit 25) (.mul (.var 0) (.lit 9)))) <|
     .ob (.inr .i64 (.add (.add (.lit 25) (.mul (.var 0) (.lit 9))) (.var 1))) <|
     .ob (.inr .i64 (.add (.lit 79) (.var 0))) <|
     .br (.not (.ieq (.var 2) (.lit 0)))
     (exec tab exact_E 3786 [] ex_c7)
     (exec tab exact_E 3786 [] ex_c8))))
  (.ob (.inr .i64 (.var 1)) <|
   .br (.not (.and (.ile (.lit 0) (.var 0)) (.ilt (.var 0) (.lit 6))))
   (.br (.not (.ieq (.var 2) (.lit 0)))
    (.br (.not (.and (.ile (.lit 0) (.var 1)) (.ilt (.var 1) (.lit 24))))
     (exec tab exact_E 3628 [] ex_c9)
     (exec tab exact_E 3628 [] ex_c10))
    (.br (.not (.ieq (.var 3) (.lit 0)))
     (exec tab exact_E 3764 [] ex_c11)
     (exec tab exact_E 3764 [] ex_c12)))
   (.br (.ile (.lit 9) (.var 1))
    (.ob (.inr .i64 (.add (.lit 79) (.var 0))) <|
     .br (.not (.ieq (.var 2) (.lit 0)))
     (exec tab exact_E 3789 [] ex_c13)
     (exec tab exact_E 3789 [] ex_c14))
    (.ob (.inr .i64 (.mul (.var 0) (.lit 9))) <|
     .ob (.inr .i64 (.add (.lit 25) (.mul (.var 0) (.lit 9)))) <|
     .ob (.inr .i64 (.add (.add (.lit 25) (.mul (.var 0) (.lit 9))) (.var 1))) <|
     .ob (.inr .i64 (.add (.lit 79) (.var 0))) <|
     .br (.not (.ieq (.var 2) (.lit 0)))
     (exec tab exact_E 3807 [] ex_c15)
     (exec tab exact_E 3807 [] ex_c16))))) :=
  Sat.br (fun h0 => Sat.br (fun h1 => Sat.br (fun h2 => Sat.br (fun h3 => ex_s1 q hq h0 h1 h2 h3)
     (fun h3 => ex_s2 q hq h0 h1 h2 h3))
    (fun h2 => Sat.br (fun h3 => ex_s3 q hq h0 h1 h2 h3)
     (fun h3 => ex_s4 q hq h0 h1 h2 h3)))
   (fun h1 => Sat.br (fun h2 => (have h3 : (BE.inr .i64 (.add (.lit 79) (.var 0))).den q = true := by (unfold InR at hq; simp [Sub.nenv, assoc, D.le, D.lef, D.lt, D.ltf, D.eq, D.eqf, D.not, D.notf, D.and, D.andf, D.or, D.orf, D.inr, D.var, D.lit, D.litI, D.varI, D.add, D.sub, D.mul, D.mod, D.div, D.wrap, D.i64min, D.i64max, D.ite, beqI, Env.join, IntKind.wrap_u64, tm, td] at *; try omega)
  Sat.ob h3 (Sat.br (fun h4 => ex_s5 q hq h0 h1 h2 h3 h4)
      (fun h4 => ex_s6 q hq h0 h1 h2 h3 h4))))
    (fun h2 => (have h3 : (BE.inr .i64 (.mul (.var 0) (.lit 9))).den q = true := by (unfold InR at hq; simp [Sub.nenv, assoc, D.le, D.lef, D.lt, D.ltf, D.eq, D.eqf, D.not, D.notf, D.and, D.andf, D.or, D.orf, D.inr, D.var, D.lit, D.litI, D.varI, D.add, D.sub, D.mul, D.mod, D.div, D.wrap, D.i64min, D.i64max, D.ite, beqI, Env.join, IntKind.wrap_u64, tm, td] at *; try omega)
  Sat.ob h3 ((have h4 : (BE.inr .i64 (.add (.lit 25) (.mul (.var 0) (.lit 9)))).den q = true := by (unfold InR at hq; simp [Sub.nenv, assoc, D.le, D.lef, D.lt, D.ltf, D.eq, D.eqf, D.not, D.notf, D.and, D.andf, D.or, D.orf, D.inr, D.var, D.lit, D.litI, D.varI, D.add, D.sub, D.mul, D.mod, D.div, D.wrap, D.i64min, D.i64max, D.ite, beqI, Env.join, IntKind.wrap_u64, tm, td] at *; try omega)
  Sat.ob h4 ((have h5 : (BE.inr .i64 (.add (.add (.lit 25) (.mul (.var 0) (.lit 9))) (.var 1))).den q = true := by (unfold InR at hq; simp [Sub.nenv, assoc, D.le, D.lef, D.lt, D.ltf, D.eq, D.eqf, D.not, D.notf, D.and, D.andf, D.or, D.orf, D.inr, D.var, D.lit, D.litI, D.varI, D.add, D.sub, D.mul, D.mod, D.div, D.wrap, D.i64min, D.i64max, D.ite, beqI, Env.join, IntKind.wrap_u64, tm, td] at *; try omega)
  Sat.ob h5 ((have h6 : (BE.inr .i64 (.add (.lit 79) (.var 0))).den q = true := by (unfold InR at hq; simp [Sub.nenv, assoc, D.le, D.lef, D.lt, D.ltf, D.eq, D.eqf, D.not, D.notf, D.and, D.andf, D.or, D.orf, D.inr, D.var, D.lit, D.litI, D.varI, D.add, D.sub, D.mul, D.mod, D.div, D.wrap, D.i64min, D.i64max, D.ite, beqI, Env.join, IntKind.wrap_u64, tm, td] at *; try omega)
  Sat.ob h6 (Sat.br (fun h7 => ex_s7 q hq h0 h1 h2 h3 h4 h5 h6 h7)
         (fun h7 => ex_s8 q hq h0 h1 h2 h3 h4 h5 h6 h7))))))))))))
  (fun h0 => (have h1 : (BE.inr .i64 (.var 1)).den q = true := by (unfold InR at hq; simp [Sub.nenv, assoc, D.le, D.lef, D.lt, D.ltf, D.eq, D.eqf, D.not, D.notf, D.and, D.andf, D.or, D.orf, D.inr, D.var, D.lit, D.litI, D.varI, D.add, D.sub, D.mul, D.mod, D.div, D.wrap, D.i64min, D.i64max, D.ite, beqI, Env.join, IntKind.wrap_u64, tm, td] at *; try omega)
  Sat.ob h1 (Sat.br (fun h2 => Sat.br (fun h3 => Sat.br (fun h4 => ex_s9 q hq h0 h1 h2 h3 h4)
      (fun h4 => ex_s10 q hq h0 h1 h2 h3 h4))
     (fun h3 => Sat.br (fun h4 => ex_s11 q hq h0 h1 h2 h3 h4)
      (fun h4 => ex_s12 q hq h0 h1 h2 h3 h4)))
    (fun h2 => Sat.br (fun h3 => (have h4 : (BE.inr .i64 (.add (.lit 79) (.var 0))).den q = true := by (unfold InR at hq; simp [Sub.nenv, assoc, D.le, D.lef, D.lt, D.ltf, D.eq, D.eqf, D.not, D.notf, D.and, D.andf, D.or, D.orf, D.inr, D.var, D.lit, D.litI, D.varI, D.add, D.sub, D.mul, D.mod, D.div, D.wrap, D.i64min, D.i64max, D.ite, beqI, Env.join, IntKind.wrap_u64, tm, td] at *; try omega)
  Sat.ob h4 (Sat.br (fun h5 => ex_s13 q hq h0 h1 h2 h3 h4 h5)
       (fun h5 => ex_s14 q hq h0 h1 h2 h3 h4 h5))))
     (fun h3 => (have h4 : (BE.inr .i64 (.mul (.var 0) (.lit 9))).den q = true := by (unfold InR at hq; simp [Sub.nenv, assoc, D.le, D.lef, D.lt, D.ltf, D.eq, D.eqf, D.not, D.notf, D.and, D.andf, D.or, D.orf, D.inr, D.var, D.lit, D.litI, D.varI, D.add, D.sub, D.mul, D.mod, D.div, D.wrap, D.i64min, D.i64max, D.ite, beqI, Env.join, IntKind.wrap_u64, tm, td] at *; try omega)
  Sat.ob h4 ((have h5 : (BE.inr .i64 (.add (.lit 25) (.mul (.var 0) (.lit 9)))).den q = true := by (unfold InR at hq; simp [Sub.nenv, assoc, D.le, D.lef, D.lt, D.ltf, D.eq, D.eqf, D.not, D.notf, D.and, D.andf, D.or, D.orf, D.inr, D.var, D.lit, D.litI, D.varI, D.add, D.sub, D.mul, D.mod, D.div, D.wrap, D.i64min, D.i64max, D.ite, beqI, Env.join, IntKind.wrap_u64, tm, td] at *; try omega)
  Sat.ob h5 ((have h6 : (BE.inr .i64 (.add (.add (.lit 25) (.mul (.var 0) (.lit 9))) (.var 1))).den q = true := by (unfold InR at hq; simp [Sub.nenv, assoc, D.le, D.lef, D.lt, D.ltf, D.eq, D.eqf, D.not, D.notf, D.and, D.andf, D.or, D.orf, D.inr, D.var, D.lit, D.litI, D.varI, D.add, D.sub, D.mul, D.mod, D.div, D.wrap, D.i64min, D.i64max, D.ite, beqI, Env.join, IntKind.wrap_u64, tm, td] at *; try omega)
  Sat.ob h6 ((have h7 : (BE.inr .i64 (.add (.lit 79) (.var 0))).den q = true := by (unfold InR at hq; simp [Sub.nenv, assoc, D.le, D.lef, D.lt, D.ltf, D.eq, D.eqf, D.not, D.notf, D.and, D.andf, D.or, D.orf, D.inr, D.var, D.lit, D.litI, D.varI, D.add, D.sub, D.mul, D.mod, D.div, D.wrap, D.i64min, D.i64max, D.ite, beqI, Env.join, IntKind.wrap_u64, tm, td] at *; try omega)
  Sat.ob h7 (Sat.br (fun h8 => ex_s15 q hq h0 h1 h2 h3 h4 h5 h6 h7 h8)
          (fun h8 => ex_s16 q hq h0 h1 h2 h3 h4 h5 h6 h7 h8))))))))))))))
theorem exact_sat (ρ : Env) (hpre : lawPre shE ρ.num) : Sat (lawPostG ss2 shE) lawSem1 [] ρ (exec tab exact_E 4000 [] ex_c0) := by
  rw [ex_r0]
  exact Sat.call rfl trivial fun e0 _ => exact_top (ρ.join 5 e0) (by
    have hq : lawPre shE (ρ.join 5 e0).num := hpre
    simp [lawPre, shE, List.flatMap, List.map, List.flatten, shI, shAddr, List.append, List.cons_append, List.nil_append, List.append_nil, preC, Env.num, D.i64min, D.i64max] at hq
    unfold InR
    omega)
theorem exact_con : ConOK Tryd.prog (lawConG 27 ss2 4 shE) (lawPre shE) (lawPostG ss2 shE) :=
  con_ok tabOK (E := exact_E) (cs := lawSem1) rfl lawSem1_ok schedOK rfl (n := 4000) rfl (by kernel_rfl) (fun ρ _ p hp => by cases hp) exact_sat
end Go.Proofs.YtlfhjmfelbomaaaDoor
