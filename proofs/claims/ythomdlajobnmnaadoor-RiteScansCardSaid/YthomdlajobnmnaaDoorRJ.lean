/- the laws' loops -/
import Derived.Test.YthomdlajobnmnaaDoorRB
import Derived.Test.YthomdlajobnmnaaDoorPR
import Derived.Test.YthomdlajobnmnaaDoorRexU
import Derived.Test.YthomdlajobnmnaaDoorChecked
import Derived.WalkKit
import Derived.LaidEql
import Derived.Stop.Asserts
import Derived.RowKitTokens
import Derived.Test.YthomdlajobnmnaaDoorRTook
import Derived.Test.YthomdlajobnmnaaDoorRA
set_option linter.unusedSimpArgs false
set_option linter.unusedVariables false
namespace Go.Proofs.YthomdlajobnmnaaDoor
open Go.Rex
def L11a : LSpec := { f := 11, p := [1, 1, 1, 1, 1, 1, 1, 0, 1, 0], hav := [(11, .au)], kill := [52, 53, 54, 55, 56, 57, 58, 59, 62, 63, 64, 65, 66, 67, 68, 12, 70, 71, 72, 73, 74, 75, 69, 76, 77, 13, 14, 78, 79, 80, 81, 82, 83, 84, 85, 86, 87, 88, 89, 90, 91, 92, 60, 61], deep := [6], ift := 119, mem := [10] }
def L11b : LSpec := { f := 11, p := [1, 1, 1, 1, 1, 1, 1, 1, 0, 1, 0], hav := [(15, .au)], kill := [93, 94, 95, 98, 99, 100, 101, 102, 103, 104, 105, 106, 107, 108, 109, 110, 4, 96, 97], deep := [6, 8], ift := 119 }
def L11c : LSpec := { f := 11, p := [1, 1, 1, 1, 1, 1, 1, 1, 1, 1, 0, 1, 0], hav := [(16, .au)], kill := [115, 116, 117, 118, 119, 120, 124, 125, 123, 126, 127, 17, 18, 129, 130, 131, 128, 132, 133, 19, 20, 134, 135, 136, 137, 138, 139, 140, 141, 4, 121, 122], deep := [6, 8], ift := 119 }
def L11d : LSpec := { f := 11, p := [1, 1, 1, 1, 1, 1, 1, 1, 1, 1, 1, 1, 1, 1, 0, 1, 0], hav := [(23, .au), (24, .au)], kill := [146, 147, 148, 151, 152, 153, 154, 155, 156, 157, 158, 159, 160, 161, 162, 163, 164, 165, 166, 167, 168, 169, 170, 171, 172, 173, 174, 175, 176, 177, 178, 179, 180, 181, 182, 183, 4, 184, 185, 149, 150] }
def ssR : List (Nat × TypeId × TypeId) := [(0, 177, 198), (2, 177, 198), (4, 177, 198), (3, 177, 198), (1, 177, 198), (5, 177, 198)]
def awakeR : Con := { f := 20, nv := 1, gl := sentGl ssR 0, args := [], hp := sentHp 27 ssR 0, nv' := 1, ret := .w (.one (.bool (.lit true))), hp' := List.replicate 12 goneSB }
def isR : Con := { isCon0 with hp := [{ t := 500198, cs := [.hole], ro := true }] }
end Go.Proofs.YthomdlajobnmnaaDoor

namespace Go.Proofs.YthomdlajobnmnaaDoor
open Go.RowKit Go.Extern.Stop Go.Stop Go.Extern
theorem isTypeOf (v : Value) (w : World) : (Extern.ReflectliteType.typeOf #[.iface 177 v]).run Tryd.prog w = .ok (.iface 144 (.agg #[.pointer (some ⟨7, 177, none⟩)])) w := by kernel_rfl
def cmpM : Array Value → Sem Value := Extern.ReflectliteType.method fun t => do Extern.Rtype.noPackHeld "Comparable" t; pure (.bool (← typeInfo t).comparable)
theorem isComparable (w : World) : (cmpM #[.agg #[.pointer (some ⟨7, 177, none⟩)]]).run Tryd.prog w = .ok (.bool true) w := by kernel_rfl
theorem isMethodComparable (v : Value) (w : World) : (Go.method 310 144 v "Comparable").run Tryd.prog w = .ok (130, v) w := by kernel_rfl
theorem isComp : (Tryd.prog.info? 177).map (·.comparable) = some true := by kernel_rfl
theorem isSize : (Tryd.prog.info? 198).map (·.size) = some 1 := by kernel_rfl
theorem noIsW (v : Value) (xT : TypeId) (w : World) : (Instr.typeAssert (.iface 119 v) xT 146 true).run Tryd.prog w = .ok (.tuple #[.nilIface, .bool false]) w := run_typeAssert_lacksB Tryd.underlying146 (by kernel_rfl) (by kernel_rfl) v xT w
theorem hasUnwrapW (v : Value) (xT : TypeId) (w : World) : (Instr.typeAssert (.iface 119 v) xT 149 true).run Tryd.prog w = .ok (.tuple #[.iface 119 v, .bool true]) w := run_typeAssert_hasB Tryd.underlying149 (by kernel_rfl) v xT w
theorem methodUnwrap (v : Value) (w : World) : (Go.method 310 119 v "Unwrap").run Tryd.prog w = .ok (127, v) w := by kernel_rfl
theorem is_same (b : Addr) (w : World) : Calls Tryd.prog 35 #[.iface 177 (.pointer (some b)), .iface 177 (.pointer (some b))] w fun e w' => e = .returned (.bool true) ∧ w' = w := by
 obtain ⟨i, hi, hcmp⟩ := Option.map_eq_some_iff.1 isComp
 obtain ⟨j, hj, hjs⟩ := Option.map_eq_some_iff.1 isSize
 have h8 := @run_callFunc_extern Tryd.prog 64 _ Extern.ReflectliteType.typeOf Tryd.func64 (by kernel_rfl) (by kernel_rfl) (by kernel_rfl) (by kernel_rfl)
 have h32 := @run_callFunc_extern Tryd.prog 130 _ cmpM Tryd.func130 (by kernel_rfl) (by kernel_rfl) (by kernel_rfl) (by kernel_rfl)
 have tT := isTypeOf
 have cT := isComparable
 have mR := isMethodComparable
 have heq := run_eql_iface_ptr_same (P := Tryd.prog) w b Tryd.underlying27 Tryd.underlying177 hi hcmp hj
 go_enter Tryd.func35, Tryd.ntmps35
 go_wp2
 refine wp_loop_rounds 1 ?_
 rw [rounds_succ]
 go_wp2
 go_ret
 exact ⟨rfl, rfl⟩
theorem is_wrap_same (a : Addr) (b : Addr) (w : World) (h1 : w.cell? ⟨a.block, a.off + 1, none⟩ = some (.iface 177 (.pointer (some b)))) :
  Calls Tryd.prog 35 #[.iface 119 (.pointer (some a)), .iface 177 (.pointer (some b))] w fun e w' => e = .returned (.bool true) ∧ w' = w := by
 obtain ⟨i, hi, hcmp⟩ := Option.map_eq_some_iff.1 isComp
 obtain ⟨j, hj, hjs⟩ := Option.map_eq_some_iff.1 isSize
 have h8 := @run_callFunc_extern Tryd.prog 64 _ Extern.ReflectliteType.typeOf Tryd.func64 (by kernel_rfl) (by kernel_rfl) (by kernel_rfl) (by kernel_rfl)
 have h32 := @run_callFunc_extern Tryd.prog 130 _ cmpM Tryd.func130 (by kernel_rfl) (by kernel_rfl) (by kernel_rfl) (by kernel_rfl)
 have tT := isTypeOf
 have cT := isComparable
 have mR := isMethodComparable
 have nW := noIsW
 have uW := hasUnwrapW
 have mU := methodUnwrap
 have heq := run_eql_iface_ptr_same (P := Tryd.prog) w b Tryd.underlying27 Tryd.underlying177 hi hcmp hj
 have hty := run_eql_iface_types (P := Tryd.prog) 119 177 (.pointer (some a)) (.pointer (some b)) Tryd.underlying27 (by decide) w
 go_enter Tryd.func35, Tryd.ntmps35
 go_wp2
 refine wp_loop_rounds 2 ?_
 rw [rounds_succ]
 go_wp2
 rw [rounds_succ]
 go_wp2
 go_ret
 exact ⟨rfl, rfl⟩
end Go.Proofs.YthomdlajobnmnaaDoor

set_option linter.unusedSimpArgs false
set_option linter.unusedVariables false
namespace Go.Proofs.YthomdlajobnmnaaDoor
open Go.Rex
/-! ### New -/
def zSC : SC → Bool
 | .int _ (.lit 0) => true
 | .bool (.lit false) => true
 | .nilsl => true
 | .hole => true
 | _ => false
theorem zSC_ok {ρ : Env} {c : SC} (h : zSC c = true) : c.I ρ = 0 ∧ c.B ρ = false := by
 unfold zSC at h
 split at h
 ·exact ⟨rfl, rfl⟩
 ·exact ⟨rfl, rfl⟩
 ·exact ⟨rfl, rfl⟩
 ·exact ⟨rfl, rfl⟩
 ·cases h
theorem getD_zero {ρ : Env} : ∀ {cs : List SC}, cs.all zSC = true → ∀ p, zSC (cs.getD p .hole) = true
 | [], _, p => rfl
 | c :: r, h, p => by
  simp only [List.all_cons, Bool.and_eq_true] at h
  cases p with
  | zero => exact h.1
  | succ p => exact getD_zero (ρ := ρ) h.2 p
theorem ex_zero {ρ : Env} {cs : List SC} {lo p : Nat} (h : (cs.drop lo).all zSC = true) (hp : lo ≤ p) : (cs.getD p .hole).I ρ = 0 ∧ (cs.getD p .hole).B ρ = false := by
 have := getD_zero (ρ := ρ) h (p - lo)
 rw [show (cs.drop lo).getD (p - lo) .hole = cs.getD p .hole by simp [List.getD_eq_getElem?_getD, List.getElem?_drop, show lo + (p - lo) = p by omega]] at this
 exact zSC_ok this
def knN : Kn := [(.ilt (.var 0) (.lit 1), false), (.ilt (.lit 5) (.var 0), false), (.ilt (.var 2) (.lit 1), false), (.ilt (.lit 6) (.var 2), false), (.ilt (.var 1) (.lit 0), false), (.ile (.var 2) (.var 1), false), (.ilt (.var 3) (.lit 1), false), (.ilt (.lit 64) (.var 3), false)]
noncomputable def newRE : Ex := { sched := sched, loops := [], fin := newRCon }
def newROut : Out :=
 .fin { lo := 4, lob := 0, iv := [(65, .lit 0), (64, .lit 0), (63, .lit 0), (62, .lit 0), (61, .lit 0), (60, .lit 0), (59, .lit 0), (57, .lit 0), (56, .lit 0), (53, .lit 0), (52, .lit 0), (50, .lit 0), (49, .lit 0), (47, .lit 0), (45, .lit 0), (44, .lit 0), (43, .lit 0), (42, .lit 0), (40, .lit 0), (39, .lit 0), (38, .lit 0), (37, .lit 0), (35, .lit 0), (34, .lit 0), (33, .lit 0), (32, .lit 0), (30, .lit 0), (29, .lit 0), (28, .lit 0), (27, .lit 0), (26, .lit 0), (25, .lit 0), (24, .lit 0), (23, .lit 0), (22, .lit 0), (21, .lit 0), (20, .lit 0), (19, .lit 0), (18, .lit 0), (16, .lit 0), (15, .lit 0), (14, .lit 0), (13, .lit 0), (11, .lit 0), (10, .lit 0), (9, .lit 0), (8, .lit 0), (7, .lit 0), (6, .lit 0), (5, .lit 0), (4, .lit 0)], bv := [(67, .lit false), (66, .lit false), (58, .lit true), (55, .lit false), (51, .lit true), (48, .lit true), (46, .lit false), (41, .lit false), (36, .lit false), (31, .lit false), (17, .lit false), (12, .lit false)], ct := [(54, .ex [.int .i64 (.lit 0), .int .i64 (.lit 0), .int .i64 (.lit 0), .int .i64 (.lit 0), .int .i64 (.lit 0), .int .i64 (.lit 0), .int .i64 (.lit 0), .int .i64 (.lit 0), .bool (.lit false), .int .i64 (.lit 0), .int .i64 (.lit 0), .int .i64 (.lit 0), .int .i64 (.lit 0), .bool (.lit false), .int .i64 (.lit 0), .int .i64 (.lit 0), .int .i64 (.lit 0), .int .i64 (.lit 0), .int .i64 (.lit 0), .int .i64 (.lit 0), .int .i64 (.lit 0), .int .i64 (.lit 0), .int .i64 (.lit 0), .int .i64 (.lit 0), .int .i64 (.lit 0), .int .i64 (.lit 0), .int .i64 (.lit 0), .bool (.lit false), .int .i64 (.lit 0), .int .i64 (.lit 0), .int .i64 (.lit 0), .int .i64 (.lit 0), .bool (.lit false), .int .i64 (.lit 0), .int .i64 (.lit 0), .int .i64 (.lit 0), .int .i64 (.lit 0), .bool (.lit false), .int .i64 (.lit 0), .int .i64 (.lit 0), .int .i64 (.lit 0), .int .i64 (.lit 0), .bool (.lit false), .int .i64 (.lit 0), .nilsl, .nilsl, .int .i64 (.var 0), .int .i64 (.var 1), .int .i64 (.var 2), .int .i64 (.var 3), .int .i64 (.lit 0), .int .i64 (.lit 0), .int .i64 (.lit 0), .int .i64 (.lit 0), .bool (.lit false), .int .i64 (.lit 0), .int .i64 (.lit 0), .int .i64 (.lit 0), .int .i64 (.lit 0), .bool (.lit false), .int .i64 (.lit 0), .int .i64 (.lit 0), .int .i64 (.lit 0), .int .i64 (.lit 0), .bool (.lit false), .int .i64 (.lit 0), .int .i64 (.lit 0), .int .i64 (.lit 0), .int .i64 (.lit 0), .bool (.lit false), .int .i64 (.lit 0), .int .i64 (.lit 0), .int .i64 (.lit 0), .int .i64 (.lit 0), .bool (.lit false), .int .i64 (.lit 0), .int .i64 (.lit 0), .int .i64 (.lit 0), .int .i64 (.lit 0), .bool (.lit false), .int .i64 (.lit 0), .int .i64 (.lit 0), .int .i64 (.lit 0), .int .i64 (.lit 0), .bool (.lit false), .int .i64 (.lit 0), .int .i64 (.lit 0), .int .i64 (.lit 0), .int .i64 (.lit 0), .bool (.lit false), .int .i64 (.lit 0), .int .i64 (.lit 0), .int .i64 (.lit 0), .int .i64 (.lit 0), .bool (.lit false), .bool (.lit false), .int .i64 (.lit 0), .int .i64 (.lit 0), .nilsl, .int .i64 (.lit 0), .int .i64 (.lit 0), .int .i64 (.lit 0), .int .i64 (.lit 0), .int .i64 (.lit 0), .bool (.lit false), .bool (.lit false)] 5 0 50)], bk := [(0, yb 0)], nb := [3, 2, 1, 3, 2, 1] }
theorem newR_run : exec tab newRE 8000 [] (cfg0 newRCon.f newRCon.nv knN newRCon.gl newRCon.hp newRCon.args) = newROut := by kernel_rfl
def newRPre (ρ : Env) : Prop := (1 ≤ ρ.iv 0 ∧ ρ.iv 0 ≤ 5) ∧ (0 ≤ ρ.iv 1 ∧ ρ.iv 1 < ρ.iv 2) ∧ (1 ≤ ρ.iv 2 ∧ ρ.iv 2 ≤ 6) ∧ 1 ≤ ρ.iv 3 ∧ ρ.iv 3 ≤ 64
def newRPost (ρ : Env) : Prop := OkR ρ 4 ∧ rsRd ρ 0 4 = RS.new (ρ.iv 0) (ρ.iv 1) (ρ.iv 2) (ρ.iv 3)
theorem newR_sat (ρ : Env) (hpre : newRPre ρ.num) : Sat newRPost [] [] ρ newROut := by
 unfold newROut
 have o1 := True.intro
 refine Sat.fin ⟨⟨okNil rfl rfl, ⟨okNil rfl rfl, Int.le_refl 0, .inl rfl⟩, okNil rfl rfl⟩, RS.ext' rfl rfl rfl rfl rfl rfl (wdRow_nil rfl) (dmRow_nil rfl) rfl rfl rfl rfl (fun i => ?_) rfl (ntRow_nil rfl) rfl rfl⟩
 refine wd_eq'.2 ⟨?_, ?_, ?_, ?_, ?_⟩
 ·show ((_ : List SC).getD (i * 5 + 0 * 0 + 50 + 0) .hole).I ρ = 0
  exact (ex_zero (lo := 50) (by rfl) (by omega)).1
 ·show ((_ : List SC).getD (i * 5 + 0 * 0 + 50 + 1) .hole).I ρ = 0
  exact (ex_zero (lo := 50) (by rfl) (by omega)).1
 ·show ((_ : List SC).getD (i * 5 + 0 * 0 + 50 + 2) .hole).I ρ = 0
  exact (ex_zero (lo := 50) (by rfl) (by omega)).1
 ·show ((_ : List SC).getD (i * 5 + 0 * 0 + 50 + 3) .hole).I ρ = 0
  exact (ex_zero (lo := 50) (by rfl) (by omega)).1
 ·show ((_ : List SC).getD (i * 5 + 0 * 0 + 50 + 4) .hole).B ρ = false
  exact (ex_zero (lo := 50) (by rfl) (by omega)).2
theorem newR_con : ConOK Tryd.prog newRCon newRPre newRPost :=
 con_ok tabOK (E := newRE) (cs := []) rfl (fun k pre post h => by cases h) schedOK rfl newR_run (by kernel_rfl) (fun ρ h p hp => by
   obtain ⟨⟨a1, a2⟩, ⟨b1, b2⟩, ⟨c1, c2⟩, d1, d2⟩ := h
   simp only [knN, List.mem_cons, List.not_mem_nil, or_false] at hp
   rcases hp with rfl | rfl | rfl | rfl | rfl | rfl | rfl | rfl
   · exact decide_eq_false (show ¬ ρ.num.iv 0 < 1 by omega)
   · exact decide_eq_false (show ¬ 5 < ρ.num.iv 0 by omega)
   · exact decide_eq_false (show ¬ ρ.num.iv 2 < 1 by omega)
   · exact decide_eq_false (show ¬ 6 < ρ.num.iv 2 by omega)
   · exact decide_eq_false (show ¬ ρ.num.iv 1 < 0 by omega)
   · exact decide_eq_false (show ¬ ρ.num.iv 2 ≤ ρ.num.iv 1 by omega)
   · exact decide_eq_false (show ¬ ρ.num.iv 3 < 1 by omega)
   · exact decide_eq_false (show ¬ 64 < ρ.num.iv 3 by omega)) newR_sat
/-! ### Notes -/
theorem ntRow_congr {ρ ρ' : Env} {r r' : Nat} {n n' : Int} (hn : n = n') (h : ∀ i : Nat, (i : Int) < n → ntAt ρ r i = ntAt ρ' r' i) : ntRow ρ r n = ntRow ρ' r' n' := by
 subst hn
 exact List.map_congr_left fun i hi => h i (by have := List.mem_range.1 hi; omega)
noncomputable def notesE : Ex := { sched := sched, loops := [], fin := notesCon }
def notesOut : Out :=
 .br (.var 58)
 (.fin { lo := 71, lob := 4, iv := [(137, yv 70), (132, yv 65), (131, yv 64), (130, yv 63), (129, yv 62), (128, yv 61), (127, yv 60), (126, yv 59), (124, yv 57), (123, yv 56), (120, yv 53), (119, yv 52), (136, yv 69), (117, yv 50), (116, yv 49), (114, yv 47), (112, yv 45), (111, yv 44), (110, yv 43), (109, yv 42), (107, yv 40), (106, yv 39), (105, yv 38), (104, yv 37), (102, yv 35), (101, yv 34), (100, yv 33), (99, yv 32), (97, yv 30), (96, yv 29), (95, yv 28), (94, yv 27), (93, yv 26), (92, yv 25), (91, yv 24), (90, yv 23), (89, yv 22), (88, yv 21), (87, yv 20), (86, yv 19), (85, yv 18), (83, yv 16), (82, yv 15), (81, yv 14), (80, yv 13), (78, yv 11), (77, yv 10), (76, yv 9), (75, yv 8), (74, yv 7), (73, yv 6), (72, yv 5), (71, yv 4), (140, .lit 0), (139, .lit 0)], bv := [(134, yw 67), (133, yw 66), (125, yw 58), (122, yw 55), (118, yw 51), (115, yw 48), (113, yw 46), (108, yw 41), (103, yw 36), (98, yw 31), (84, yw 17), (79, yw 12), (138, .lit true)], ct := [(137, yu 70 59 7 yN 0), (136, yu 69 70 7 yN 0), (135, yu 68 49 5 yW 0), (121, yl 54 9 5 50 yW 0)], bk := [(6, yc 3 7), (5, yc 2 7), (4, yc 1 5)], nb := [7] })
 (.ob (.ile (.mul (.var 59) (.lit 56)) (.lit 140737488355328)) <|
  .ob (.ile (.lit 0) (.var 59)) <|
  .new 71 [.be (.and (.ile (.var 59) (.var 71)) (.ile (.var 71) (.lit 9223372036854775807))), .be (.or (.lit true) (.ieq (.var 59) (.lit 0))), .be (.or (.lit true) (.ieq (.var 71) (.lit 0))), .cat 72 (.lit 0) (.ex [] 7 0 0) (.var 59) (yu 70 59 7 yN 0)] <|
  .fin { lo := 71, lob := 4, iv := [(137, yv 70), (132, yv 65), (131, yv 64), (130, yv 63), (129, yv 62), (128, yv 61), (127, yv 60), (126, yv 59), (124, yv 57), (123, yv 56), (120, yv 53), (119, yv 52), (136, yv 69), (117, yv 50), (116, yv 49), (114, yv 47), (112, yv 45), (111, yv 44), (110, yv 43), (109, yv 42), (107, yv 40), (106, yv 39), (105, yv 38), (104, yv 37), (102, yv 35), (101, yv 34), (100, yv 33), (99, yv 32), (97, yv 30), (96, yv 29), (95, yv 28), (94, yv 27), (93, yv 26), (92, yv 25), (91, yv 24), (90, yv 23), (89, yv 22), (88, yv 21), (87, yv 20), (86, yv 19), (85, yv 18), (83, yv 16), (82, yv 15), (81, yv 14), (80, yv 13), (78, yv 11), (77, yv 10), (76, yv 9), (75, yv 8), (74, yv 7), (73, yv 6), (72, yv 5), (71, yv 4), (140, yv 71), (139, yv 59)], bv := [(134, yw 67), (133, yw 66), (125, yw 58), (122, yw 55), (118, yw 51), (115, yw 48), (113, yw 46), (108, yw 41), (103, yw 36), (98, yw 31), (84, yw 17), (79, yw 12), (138, .lit false)], ct := [(141, yu 72 59 7 yN 0), (137, yu 70 59 7 yN 0), (136, yu 69 70 7 yN 0), (135, yu 68 49 5 yW 0), (121, yl 54 9 5 50 yW 0)], bk := [(6, yc 3 7), (5, yc 2 7), (4, yc 1 5), (7, yc 5 7)] })
theorem notes_run : exec tab notesE 8000 [] (cfg0 notesCon.f notesCon.nv [] notesCon.gl notesCon.hp notesCon.args) = notesOut := by kernel_rfl
def notesPre (ρ : Env) : Prop := OkR ρ 4 ∧ ρ.iv 59 ≤ 1000000
def notesPost (ρ : Env) : Prop := OkR ρ 71 ∧ (OkSl ρ 138 ∧ ntRow ρ 141 (ρ.iv 139) = (rsRd ρ 0 4).notes) ∧ rsRd ρ 0 71 = rsRd ρ 0 4
theorem notes_sat (ρ : Env) (hpre : notesPre ρ.num) : Sat notesPost [] [] ρ notesOut := by
 replace hpre : notesPre ρ := hpre
 obtain ⟨⟨o1, o2, o3⟩, hf⟩ := hpre
 have o3' := o3
 obtain ⟨p1, p2, p3, p4⟩ := o3'
 simp only [Nat.reduceAdd] at p1 p2 p3 p4
 unfold notesOut
 refine Sat.br (fun c => ?_) (fun c => ?_)
 ·exact Sat.fin ⟨⟨(by first | exact o1 | exact o2 | exact o3 | exact okNil rfl rfl | assumption), (by first | exact o2 | exact ⟨okNil rfl rfl, Int.le_refl 0, .inl rfl⟩ | assumption), (by first | exact o1 | exact o2 | exact o3 | exact okNil rfl rfl | assumption)⟩, ⟨okNil rfl rfl, (ntRow_nil rfl).trans (ntRow_nil (p1 c)).symm⟩, Eq.trans (b := (rsRd ρ 0 4)) (RS.ext' rfl rfl rfl rfl rfl rfl rW1 rD1 rfl rfl rfl rfl rH1 rfl rN1 rfl rfl) (Eq.symm (rfl))⟩
 ·refine Sat.ob (by simp only [Da]; omega) (Sat.ob (decide_eq_true p2) (Sat.newK (fun q => OkR q 4) (fun e => ⟨o1, o2, o3⟩) fun q hq hf => ?_))
  obtain ⟨o1, o2, o3⟩ := hq
  have h1 := hf _ (List.mem_cons_self ..)
  have h2 := hf _ (List.mem_cons_of_mem _ (List.mem_cons_of_mem _ (List.mem_cons_of_mem _ (List.mem_cons_self ..))))
  simp only [Da, D.be] at h1
  refine Sat.fin ⟨⟨(by first | exact o1 | exact o2 | exact o3 | exact okNil rfl rfl | assumption), (by first | exact o2 | exact ⟨okNil rfl rfl, Int.le_refl 0, .inl rfl⟩ | assumption), (by first | exact o1 | exact o2 | exact o3 | exact okNil rfl rfl | assumption)⟩, ⟨⟨fun h => (by cases h), o3.2.1, h1⟩, ?_⟩, Eq.trans (b := (rsRd q 0 4)) (RS.ext' rfl rfl rfl rfl rfl rfl rW1 rD1 rfl rfl rfl rfl rH1 rfl rN1 rfl rfl) (Eq.symm (rfl))⟩
  have h3 : ∀ i j : Nat, (i : Int) < q.iv 59 → q.ic 72 i 0 j = q.ic 70 i 0 j ∧ q.bc 72 i 0 j = q.bc 70 i 0 j := fun i j hi => by
   have := (h2 i j).2 hi
   simpa [-Int.pred_toNat, Sub.nenv, assoc, CV.I, CV.B, upsI, upsB, Seg.I, Seg.B, SC.I, SC.B, IE.den, BE.den] using this
  refine (ntRow_congr rfl fun i hi => ?_ : ntRow _ 141 _ = ntRow q 70 (q.iv 59))
  replace hi : (i : Int) < q.iv 59 := hi
  obtain ⟨a0, b0⟩ := h3 i 0 hi
  obtain ⟨a1, b1⟩ := h3 i 1 hi
  obtain ⟨a2, b2⟩ := h3 i 2 hi
  obtain ⟨a3, b3⟩ := h3 i 3 hi
  obtain ⟨a4, b4⟩ := h3 i 4 hi
  obtain ⟨a5, b5⟩ := h3 i 5 hi
  obtain ⟨a6, b6⟩ := h3 i 6 hi
  simp [ntAt, mkW, -Int.pred_toNat, Sub.nenv, assoc, CV.I, CV.B, upsI, upsB, Seg.I, Seg.B, SC.I, SC.B, IE.den, BE.den, a0, a1, a2, a3, b4, a5, a6]
theorem notes_con : ConOK Tryd.prog notesCon notesPre notesPost :=
 con_ok tabOK (E := notesE) (cs := []) rfl (fun k pre post h => by cases h) schedOK rfl notes_run (by kernel_rfl) (fun ρ _ p hp => by cases hp) notes_sat
/-! ### Used -/
noncomputable def usedE : Ex := { sched := sched, loops := [Lused], fin := usedCon }
def usedOut : Out :=
 .ob (.ile (.lit 0) (.var 1)) <|
 .loop 12 { lo := 12, lob := 5, iv := [(16, .lit 0), (14, .lit 0), (13, .lit 0)], bv := [(12, .lit true)], nb := [5] } <|
 .br (.ilt (.var 16) (.var 1))
 (.ob (.ile (.lit 0) (.var 16)) <|
  .br (.cell 9 (.var 16) (.lit 0) 1)
  (.ob (.inr .i64 (.add (.var 16) (.lit 1))) <|
   .ob (.ile (.mul (.add (.var 13) (.lit 1)) (.lit 40)) (.lit 140737488355328)) <|
   .ob (.ile (.lit 0) (.var 13)) <|
   .ob (.ile (.var 13) (.var 14)) <|
   .ob (.ile (.var 14) (.lit 9223372036854775807)) <|
   .ob (.or (.not (.var 12)) (.ieq (.var 13) (.lit 0))) <|
   .new 17 [.be (.and (.ile (.add (.var 13) (.lit 1)) (.var 17)) (.ile (.var 17) (.lit 9223372036854775807)))] <|
   .back 0 { lo := 12, lob := 5, iv := [(16, .add (.var 16) (.lit 1)), (14, yv 17), (13, .add (.var 13) (.lit 1))], bv := [(12, .lit false)], ct := [(15, .up { r := 15, n1 := .add (.var 13) (.lit 1), s1 := 5, ks := yW } 0 [⟨0, (.var 13), (.lit 0), 0, .int .i64 (.add (.var 16) (.lit 1))⟩, ⟨0, (.var 13), (.lit 0), 1, .int .i64 (.cell 9 (.var 16) (.lit 0) 0)⟩, ⟨0, (.var 13), (.lit 0), 2, .int .i64 (.lit 0)⟩, ⟨0, (.var 13), (.lit 0), 3, .int .i64 (.lit 0)⟩, ⟨0, (.var 13), (.lit 0), 4, .bool (.lit false)⟩] (.lit 0))], bk := [(5, yc 8 5)] })
  (.ob (.inr .i64 (.add (.var 16) (.lit 1))) <|
   .back 0 { lo := 12, lob := 5, iv := [(16, .add (.var 16) (.lit 1)), (14, yv 14), (13, yv 13)], bv := [(12, yw 12)], ct := [(15, yu 15 13 5 yW 0)], bk := [(5, yc 5 5)] }))
 (.fin { lo := 12, lob := 5, iv := [(16, yv 6), (15, yv 5), (14, yv 4), (13, yv 3), (24, yv 14), (23, yv 13)], bv := [(17, yw 7), (12, yw 2), (22, yw 12)], ct := [(25, yu 15 13 5 yW 0), (21, yu 11 3 1 yI 0), (20, .up { r := 10, n1 := .var 1, s1 := 52, n2 := 10, s2 := 5, lo := 2, ks := yW } 1 [] (.lit 0)), (19, yu 9 1 52 yB 0), (18, yu 8 0 5 yW 0)], bk := [(6, yb 4), (5, yc 3 1), (7, yc 5 5)] })
theorem used_run : exec tab usedE 8000 [] (cfg0 usedCon.f usedCon.nv [] usedCon.gl usedCon.hp usedCon.args) = usedOut := by kernel_rfl
def PS.usedL (p : PS) (n : Nat) : List Wd := (List.range n).filterMap fun i => if p.used i = true then some ⟨(i : Int) + 1, p.gen i, 0, 0, false⟩ else none
def usedPre (ρ : Env) : Prop := OkSl ρ 2 ∧ 0 ≤ ρ.iv 1 ∧ ρ.iv 1 ≤ 1024
def usedPost (ρ : Env) : Prop := OkSl ρ 12 ∧ psRd ρ (ρ.iv 0) (ρ.iv 1) 12 = psRd ρ (ρ.iv 0) (ρ.iv 1) 2 ∧ OkSl ρ 22 ∧ wdRow ρ 25 (ρ.iv 23) = (psRd ρ (ρ.iv 0) (ρ.iv 1) 2).usedL (ρ.iv 1).toNat
def usedInv (ρ : Env) : Prop := usedPre ρ ∧ (0 ≤ ρ.iv 16 ∧ ρ.iv 16 ≤ ρ.iv 1) ∧ (OkSl ρ 12 ∧ ρ.iv 13 ≤ ρ.iv 16) ∧ wdRow ρ 15 (ρ.iv 13) = (psRd ρ (ρ.iv 0) (ρ.iv 1) 2).usedL (ρ.iv 16).toNat
theorem usedL_succ (p : PS) (n : Nat) : p.usedL (n + 1) = p.usedL n ++ if p.used n = true then [⟨(n : Int) + 1, p.gen n, 0, 0, false⟩] else [] := by
 unfold PS.usedL
 rw [List.range_succ, List.filterMap_append]
 congr 1
 by_cases h : p.used n = true <;> simp [h]
theorem used_sat (ρ : Env) (hpre : usedPre ρ.num) : Sat usedPost [] [] ρ usedOut := by
 replace hpre : usedPre ρ := hpre
 have hpre' := hpre
 obtain ⟨o, h1, h2⟩ := hpre
 unfold usedOut
 refine Sat.ob (decide_eq_true h1) (Sat.loopK usedInv (fun r => (r.iv 1 - r.iv 16).toNat) (fun _ => True) ⟨hpre', ⟨Int.le_refl 0, h1⟩, ⟨okNil rfl rfl, Int.le_refl 0⟩, rfl⟩ (fun _ => trivial) fun q _ hI => ?_)
 replace hI : usedInv q := hI
 have hI' := hI
 obtain ⟨⟨o, h1, h2⟩, ⟨i1, i2⟩, ⟨os, hl⟩, hrow⟩ := hI
 obtain ⟨p1, p2, p3, p4⟩ := id os
 simp only [Nat.reduceAdd] at p1 p2 p3 p4
 refine Sat.br (fun c => ?_) (fun c => ?_)
 ·simp only [Da] at c
  refine Sat.ob (decide_eq_true i1) (Sat.br (fun c2 => ?_) (fun c2 => ?_))
  ·refine Sat.ob (by simp only [Da]; omega) (Sat.ob (by simp only [Da]; omega) (Sat.ob (decide_eq_true p2) (Sat.ob (decide_eq_true p3) (Sat.ob (decide_eq_true p4) (Sat.ob (nilOb os) (Sat.newB (fun u => usedInv u ∧ u.iv 16 < u.iv 1 ∧ (u.iv 1 - (u.iv 16 + 1)).toNat < (q.iv 1 - q.iv 16).toNat ∧ u.bc 9 (u.iv 16).toNat 0 1 = true) (fun e => ⟨hI', c, by show (q.iv 1 - (q.iv 16 + 1)).toNat < (q.iv 1 - q.iv 16).toNat; omega, c2⟩) fun u hu hb => ?_))))))
   obtain ⟨⟨⟨o, h1, h2⟩, ⟨i1, i2⟩, ⟨os, hl⟩, hrow⟩, c, hd, hc⟩ := hu
   simp only [Da] at hb
   obtain ⟨p1, p2, p3, p4⟩ := id os
   simp only [Nat.reduceAdd] at p1 p2 p3 p4
   have hn : ∀ i : Nat, (i : Int) < u.iv 13 → ¬ (u.iv 13).toNat = i := fun i hi h => by omega
   refine Sat.back rfl ⟨⟨⟨o, h1, h2⟩, ⟨?_, ?_⟩, ⟨⟨fun h => (by cases h), ?_, hb.1, hb.2⟩, ?_⟩, ?_⟩, hd⟩
   ·show 0 ≤ u.iv 16 + 1; omega
   ·show u.iv 16 + 1 ≤ u.iv 1; omega
   ·show 0 ≤ u.iv 13 + 1; omega
   ·show u.iv 13 + 1 ≤ u.iv 16 + 1; omega
   ·refine (wdRow_push (ρ := u) (r := 15) (n := u.iv 13) (w := ⟨u.iv 16 + 1, u.ic 9 (u.iv 16).toNat 0 0, 0, 0, false⟩) p2 rfl (fun i hi => ?_) ?_).trans ?_
    ·simp [mkW, -Int.pred_toNat, Sub.nenv, assoc, CV.I, CV.B, upsI, upsB, Seg.I, Seg.B, SC.I, SC.B, IE.den, BE.den, hn i hi]
    ·simp [mkW, -Int.pred_toNat, Sub.nenv, assoc, CV.I, CV.B, upsI, upsB, Seg.I, Seg.B, SC.I, SC.B, IE.den, BE.den]
    ·show wdRow u 15 (u.iv 13) ++ _ = (psRd u (u.iv 0) (u.iv 1) 2).usedL (u.iv 16 + 1).toNat
     rw [hrow, show (u.iv 16 + 1).toNat = (u.iv 16).toNat + 1 by omega, usedL_succ, if_pos (show (psRd u (u.iv 0) (u.iv 1) 2).used (u.iv 16).toNat = true from hc), Int.toNat_of_nonneg i1]
     rfl
  ·refine Sat.ob (by simp only [Da]; omega) (Sat.back rfl ⟨⟨⟨o, h1, h2⟩, ⟨?_, ?_⟩, ⟨os, ?_⟩, ?_⟩, ?_⟩)
   ·show 0 ≤ q.iv 16 + 1; omega
   ·show q.iv 16 + 1 ≤ q.iv 1; omega
   ·show q.iv 13 ≤ q.iv 16 + 1; omega
   ·refine (wdRow_same (ρ' := q) (r' := 15) (n' := q.iv 13) rfl fun i => by simp [mkW, -Int.pred_toNat, Sub.nenv, assoc, CV.I, CV.B, upsI, upsB, Seg.I, Seg.B, SC.I, SC.B, IE.den, BE.den]).trans ?_
    show wdRow q 15 (q.iv 13) = (psRd q (q.iv 0) (q.iv 1) 2).usedL (q.iv 16 + 1).toNat
    rw [hrow, show (q.iv 16 + 1).toNat = (q.iv 16).toNat + 1 by omega, usedL_succ, if_neg (show ¬ (psRd q (q.iv 0) (q.iv 1) 2).used (q.iv 16).toNat = true from fun h => by rw [show (psRd q (q.iv 0) (q.iv 1) 2).used (q.iv 16).toNat = false from c2] at h; cases h), List.append_nil]
   ·show (q.iv 1 - (q.iv 16 + 1)).toNat < (q.iv 1 - q.iv 16).toNat
    omega
 ·simp only [Da] at c
  refine Sat.fin ⟨o, PS.ext' rfl rfl rfl rfl rfl rfl (fun i => by simp [psRd, mkW, -Int.pred_toNat, Sub.nenv, assoc, CV.I, CV.B, upsI, upsB, Seg.I, Seg.B, SC.I, SC.B, IE.den, BE.den]) (fun i => by simp [psRd, -Int.pred_toNat, Sub.nenv, assoc, CV.I, CV.B, upsI, upsB, Seg.I, Seg.B, SC.I, SC.B, IE.den, BE.den]) (fun i => by simp [psRd, -Int.pred_toNat, Sub.nenv, assoc, CV.I, CV.B, upsI, upsB, Seg.I, Seg.B, SC.I, SC.B, IE.den, BE.den]) (fun i k => by simp [psRd, mkW, -Int.pred_toNat, Sub.nenv, assoc, CV.I, CV.B, upsI, upsB, Seg.I, Seg.B, SC.I, SC.B, IE.den, BE.den]) (fun i => by simp [psRd, -Int.pred_toNat, Sub.nenv, assoc, CV.I, CV.B, upsI, upsB, Seg.I, Seg.B, SC.I, SC.B, IE.den, BE.den]), os, ?_⟩
  refine (wdRow_same (ρ' := q) (r' := 15) (n' := q.iv 13) rfl fun i => by simp [mkW, -Int.pred_toNat, Sub.nenv, assoc, CV.I, CV.B, upsI, upsB, Seg.I, Seg.B, SC.I, SC.B, IE.den, BE.den]).trans ?_
  show wdRow q 15 (q.iv 13) = (psRd q (q.iv 0) (q.iv 1) 2).usedL (q.iv 1).toNat
  rw [hrow, show q.iv 16 = q.iv 1 by omega]
theorem used_con : ConOK Tryd.prog usedCon usedPre usedPost :=
 con_ok tabOK (E := usedE) (cs := []) rfl (fun k pre post h => by cases h) schedOK rfl used_run (by kernel_rfl) (fun ρ _ p hp => by cases hp) used_sat
/-! ### awake -/
theorem isR_con : ConOK Tryd.prog isR yesP yesP := by
 refine con_pure ⟨_, Tryd.func35, by kernel_rfl, by kernel_rfl⟩ rfl (fun ρ ν w hhp _ _ => ?_) fun _ _ => trivial
 have e0 : SA.den ρ ν { blk := 0 } = ν 0 := by simp [SA.den, SA.off, IE.den, Addr.add_zero]
 have hc := is_same (ν 0) w
 show Calls Tryd.prog 35 #[.iface 177 (.pointer (some (SA.den ρ ν { blk := 0 }))), .iface 177 (.pointer (some (SA.den ρ ν { blk := 0 })))] w _
 rw [e0]
 exact hc
def iSem : CSem := [(isR, yesP, yesP)]
theorem iSem_ok : ∀ k pre post, (k, pre, post) ∈ iSem → conWf k = true ∧ ConOK Tryd.prog k pre post := by
 intro k pre post h
 simp only [iSem, List.mem_cons, List.not_mem_nil, or_false, Prod.mk.injEq] at h
 obtain ⟨rfl, rfl, rfl⟩ := h
 exact ⟨by kernel_rfl, isR_con⟩
noncomputable def awakeRE : Ex := { sched := sched, loops := [], cons := [isR], fin := awakeR }
def awakeROut : Out :=
 .ob (.inr .i64 (.mul (.lit 0) (.lit 9))) <|
 .ob (.inr .i64 (.add (.lit 25) (.mul (.lit 0) (.lit 9)))) <|
 .ob (.inr .i64 (.add (.add (.lit 25) (.mul (.lit 0) (.lit 9))) (.lit 1))) <|
 .call 0 { lo := 0, lob := 0, bk := [(0, yb 1)] } 1 <|
 .fin { lo := 1, lob := 12 }
theorem awakeR_run : exec tab awakeRE 8000 [] (cfg0 awakeR.f awakeR.nv [] awakeR.gl awakeR.hp awakeR.args) = awakeROut := by kernel_rfl
theorem awakeR_con : ConOK Tryd.prog awakeR yesP yesP :=
 con_ok tabOK (E := awakeRE) (cs := iSem) rfl iSem_ok schedOK rfl awakeR_run (by kernel_rfl) (fun ρ _ p hp => by cases hp) fun ρ _ => by
  unfold awakeROut
  refine Sat.ob ?_ (Sat.ob ?_ (Sat.ob ?_ (Sat.callK (c := isR) rfl trivial (fun _ => True) (fun _ _ => trivial) fun q _ => Sat.fin trivial)))
  all_goals simp only [Da]; omega
end Go.Proofs.YthomdlajobnmnaaDoor

set_option linter.unusedSimpArgs false
set_option linter.unusedVariables false
namespace Go.Proofs.YthomdlajobnmnaaDoor
open Go.Rex
def rsLp (ρ : Env) (b : Nat) : RS where
 call := caRd ρ b
 step := ρ.iv (b + 18)
 acc := acRd ρ (b + 19)
 word := wdRd ρ (b + 33)
 clock := wdRd ρ (b + 38)
 index := ρ.iv (b + 43)
 seen := wdRow ρ (b + 47) (ρ.iv (b + 45))
 doomed := dmRow ρ (b + 51) (ρ.iv (b + 51)) (ρ.iv (b + 49))
 engine := ρ.iv (b + 52)
 me := ρ.iv (b + 53)
 threads := ρ.iv (b + 54)
 most := ρ.iv (b + 55)
 holds := fun i => mkW (ρ.ic (b + 70) i 0) (ρ.bc (b + 70) i 0)
 span := ⟨ρ.bv (b + 56), ρ.iv (b + 57), ρ.iv (b + 58)⟩
 notes := ntRow ρ (b + 62) (ρ.iv (b + 60))
 freed := ρ.iv (b + 63)
 reply := rpRd ρ (b + 64)
def OkLp (ρ : Env) (b : Nat) : Prop := OkSl ρ (b + 44) ∧ (OkSl ρ (b + 48) ∧ 0 ≤ ρ.iv (b + 51) ∧ (ρ.iv (b + 49) = 0 ∨ ρ.iv (b + 51) + ρ.iv (b + 49) ≤ ρ.iv (b + 48))) ∧ OkSl ρ (b + 59)
def RS.at (r : RS) (E M T N : Int) : RS := { r with engine := E, me := M, threads := T, most := N }
section
variable {σ : Sub} {ρ q : Env} {m d : Nat}
theorem rs_con2 (h : 71 ≤ m) : rsRd (conEnv σ m d ρ q) 0 m = (rsRd q 0 d).at ((σ.nenv ρ).iv 0) ((σ.nenv ρ).iv 1) ((σ.nenv ρ).iv 2) ((σ.nenv ρ).iv 3) := by
 have h0 := (cE_iv (σ := σ) (ρ := ρ) (q := q) (d := d) (show 0 < m by omega))
 have h1 := (cE_iv (σ := σ) (ρ := ρ) (q := q) (d := d) (show 0 + 1 < m by omega))
 have h2 := (cE_iv (σ := σ) (ρ := ρ) (q := q) (d := d) (show 0 + 2 < m by omega))
 have h3 := (cE_iv (σ := σ) (ρ := ρ) (q := q) (d := d) (show 0 + 3 < m by omega))
 have z0 := con_iv (σ := σ) (ρ := ρ) (ρ' := q) (N := d) m 0
 have z1 := con_bv (σ := σ) (ρ := ρ) (ρ' := q) (N := d) m 0
 rw [Nat.add_zero, Nat.add_zero] at z0 z1
 unfold RS.at rsRd caRd acRd rpRd wdRd wdRow ntRow dmRow
 rw [h0, h1, h2, h3]
 simp only [ntAt_con1, Nat.add_assoc, Nat.reduceAdd, con_iv, con_bv, con_ic, con_bc, z0, z1]
end
section
variable {post : Env → Prop} {cs : CSem} {Γ : List (Env → Prop)} {ρ : Env}
theorem begin_call {g nv : Nat} {σ : Sub} {k : Out} (hg : cs[g]? = some (beginCon, beginPre, beginPost)) (r : RS) (c : Ca) (hr : rsRd (σ.nenv ρ) 0 4 = r) (hc : caRd (σ.nenv ρ) 71 = c) (hok : OkR (σ.nenv ρ) 4)
  (hs : (0 ≤ r.me ∧ r.me < 6) ∧ 1 ≤ r.threads ∧ r.threads ≤ 6) (hf : r.notes.length ≤ 1000000) (h0 : r.step = 0) (hco : c.OK) (K : Env → Prop)
  (hK : ∀ e, OkR (ρ.join nv e) nv → (rsRd (ρ.join nv e) 0 nv).at r.engine r.me r.threads r.most = (r.begin c).1 → K (ρ.join nv e)) (h : ∀ q, K q → Sat post cs Γ q k) : Sat post cs Γ ρ (.call g σ nv k) := by
 subst hr hc
 have hn : ((σ.nenv ρ).iv 59) ≤ 1000000 := by
  have h1 : (ntRow (σ.nenv ρ) 70 ((σ.nenv ρ).iv 59)).length ≤ 1000000 := hf
  rw [ntRow_len] at h1
  omega
 refine Sat.callK (c := beginCon) hg ⟨⟨hok, ⟨hs.1.1, hs.1.2, hs.2.1, hs.2.2⟩, hn⟩, h0, hco⟩ K (fun e hq => ?_) h
 replace hq : beginPost (conEnv σ 89 nv ρ (ρ.join nv e)) := hq
 obtain ⟨q1, q2⟩ := hq
 rw [okR_con1] at q1
 rw [rs_con2 (by decide), rs_con0 (by decide)] at q2
 exact hK e q1 q2
theorem took_call {g nv : Nat} {σ : Sub} {k : Out} (hg : cs[g]? = some (tookCon, tookPre, tookPost)) (r : RS) (x : Rp) (hr : rsRd (σ.nenv ρ) 0 4 = r) (hx : rpRd (σ.nenv ρ) 71 = x) (hok : OkR (σ.nenv ρ) 4) (ht : r.Tk x) (K : Env → Prop)
  (hK : ∀ e, OkR (ρ.join nv e) nv → (rsRd (ρ.join nv e) 0 nv).at r.engine r.me r.threads r.most = (r.took x).1 → K (ρ.join nv e)) (h : ∀ q, K q → Sat post cs Γ q k) : Sat post cs Γ ρ (.call g σ nv k) := by
 subst hr hx
 have hn : ((σ.nenv ρ).iv 59) ≤ 1000000 := by
  have h1 : (ntRow (σ.nenv ρ) 70 ((σ.nenv ρ).iv 59)).length ≤ 1000000 := ht.notes
  rw [ntRow_len] at h1
  omega
 have hn2 : (σ.nenv ρ).iv 22 = 13 → ((σ.nenv ρ).iv 49) ≤ 99999 := fun h13 => by
  have h1 : (wdRow (σ.nenv ρ) 68 ((σ.nenv ρ).iv 49)).length ≤ 99999 := ht.seen h13
  rw [wdRow_len] at h1
  omega
 refine Sat.callK (c := tookCon) hg ⟨⟨hok, ⟨ht.me.1, ht.me.2, ht.threads.1, ht.threads.2⟩, ⟨⟨hn, hn2⟩, ht.clock, ht.index, ht.again⟩, ht.word, ht.freed, ht.doom⟩, ht.step, ht.keep, ht.prot⟩ K (fun e hq => ?_) h
 replace hq : tookPost (conEnv σ 77 nv ρ (ρ.join nv e)) := hq
 obtain ⟨q1, q2⟩ := hq
 rw [okR_con1] at q1
 rw [rs_con2 (by decide), rs_con0 (by decide)] at q2
 refine hK e q1 (q2.trans ?_)
 congr 1
theorem newR_call {g nv : Nat} {σ : Sub} {k : Out} (hg : cs[g]? = some (newRCon, newRPre, newRPost)) {E M T N : Int} (hE : (σ.nenv ρ).iv 0 = E) (hM : (σ.nenv ρ).iv 1 = M) (hT : (σ.nenv ρ).iv 2 = T) (hN : (σ.nenv ρ).iv 3 = N)
  (h1 : 1 ≤ E ∧ E ≤ 5) (h2 : 0 ≤ M ∧ M < T) (h3 : 1 ≤ T ∧ T ≤ 6) (h4 : 1 ≤ N ∧ N ≤ 64) (K : Env → Prop)
  (hK : ∀ e, OkR (ρ.join nv e) nv → (rsRd (ρ.join nv e) 0 nv).at E M T N = RS.new E M T N → K (ρ.join nv e)) (h : ∀ q, K q → Sat post cs Γ q k) : Sat post cs Γ ρ (.call g σ nv k) := by
 subst hE hM hT hN
 refine Sat.callK (c := newRCon) hg ⟨h1, h2, h3, h4.1, h4.2⟩ K (fun e hq => ?_) h
 replace hq : newRPost (conEnv σ 4 nv ρ (ρ.join nv e)) := hq
 obtain ⟨q1, q2⟩ := hq
 have e1 : OkR (conEnv σ 4 nv ρ (ρ.join nv e)) 4 = OkR (ρ.join nv e) nv := okR_con1
 rw [e1] at q1
 refine hK e q1 (Eq.trans ?_ q2)
 have z0 := con_iv (σ := σ) (ρ := ρ) (ρ' := ρ.join nv e) (N := nv) 4 0
 have z1 := con_bv (σ := σ) (ρ := ρ) (ρ' := ρ.join nv e) (N := nv) 4 0
 rw [Nat.add_zero, Nat.add_zero] at z0 z1
 have h0 := (cE_iv (σ := σ) (ρ := ρ) (q := ρ.join nv e) (d := nv) (show 0 < 4 by omega))
 have h1 := (cE_iv (σ := σ) (ρ := ρ) (q := ρ.join nv e) (d := nv) (show 0 + 1 < 4 by omega))
 have h2 := (cE_iv (σ := σ) (ρ := ρ) (q := ρ.join nv e) (d := nv) (show 0 + 2 < 4 by omega))
 have h3 := (cE_iv (σ := σ) (ρ := ρ) (q := ρ.join nv e) (d := nv) (show 0 + 3 < 4 by omega))
 unfold RS.at rsRd caRd acRd rpRd wdRd wdRow ntRow dmRow
 rw [h0, h1, h2, h3]
 simp only [ntAt_con1, Nat.add_assoc, con_iv, con_bv, con_ic, con_bc, z0, z1]
end
end Go.Proofs.YthomdlajobnmnaaDoor
