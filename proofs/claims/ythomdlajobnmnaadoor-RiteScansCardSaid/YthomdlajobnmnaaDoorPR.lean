/- 'New': what it leaves -/
import Derived.Test.YthomdlajobnmnaaDoorPDo
import Derived.Test.YthomdlajobnmnaaDoorSpec
set_option linter.unusedSimpArgs false
set_option linter.unusedVariables false
namespace Go.Proofs.YthomdlajobnmnaaDoor
open Go.Rex
def knNew : Kn := [(.ilt (.var 0) (.lit 0), false), (.ilt (.lit 1024) (.var 0), false), (.ilt (.var 1) (.lit 0), false), (.ilt (.lit 200) (.var 1), false)]
noncomputable def newE : Ex := { sched := sched, loops := [L13], fin := newCon }
def newOut : Out :=
 .alt
 (.ob (.ile (.lit 0) (.var 1)) <|
  .ob (.ile (.mul (.var 1) (.lit 40)) (.lit 281474976710656)) <|
  .ob (.ile (.var 1) (.lit 9223372036854775807)) <|
  .ob (.ile (.lit 0) (.var 0)) <|
  .ob (.ile (.mul (.var 0) (.lit 416)) (.lit 281474976710656)) <|
  .ob (.ile (.var 0) (.lit 9223372036854775807)) <|
  .loop 2 { lo := 2, lob := 3, iv := [(11, .lit 0), (10, .lit 0), (8, .lit 0), (7, .lit 0), (2, yv 0)], bv := [(12, .lit true), (6, .lit true)], ct := [(5, .up { r := 0, n1 := .var 0, s1 := 52, n2 := 10, s2 := 5, lo := 2, ks := yW, z := true } 1 [] (.lit 0)), (4, .up { r := 0, n1 := .var 0, s1 := 52, ks := yB, z := true } 0 [] (.lit 0)), (3, .up { r := 0, n1 := .var 1, s1 := 5, ks := yW, z := true } 0 [] (.lit 0))], nb := [4, 3, 4, 3] } <|
  .br (.ile (.lit 1) (.var 2))
  (.ob (.ile (.mul (.add (.var 7) (.lit 1)) (.lit 8)) (.lit 140737488355328)) <|
   .ob (.ile (.lit 0) (.var 7)) <|
   .ob (.ile (.var 7) (.var 8)) <|
   .ob (.ile (.var 8) (.lit 9223372036854775807)) <|
   .ob (.or (.not (.var 6)) (.ieq (.var 7) (.lit 0))) <|
   .new 13 [.be (.and (.ile (.add (.var 7) (.lit 1)) (.var 13)) (.ile (.var 13) (.lit 9223372036854775807)))] <|
   .ob (.inr .i64 (.sub (.var 2) (.lit 1))) <|
   .back 0 { lo := 2, lob := 3, iv := [(11, yv 11), (10, yv 10), (8, yv 13), (7, .add (.var 7) (.lit 1)), (2, .sub (.var 2) (.lit 1))], bv := [(12, yw 12), (6, .lit false)], ct := [(9, .up { r := 9, n1 := .add (.var 7) (.lit 1), s1 := 1, ks := yI } 0 [⟨0, (.var 7), (.lit 0), 0, .int .i64 (.var 2)⟩] (.lit 0)), (5, .up { r := 5, n1 := .var 0, s1 := 52, n2 := 10, s2 := 5, lo := 2, ks := yW } 1 [] (.lit 0)), (4, yu 4 0 52 yB 0), (3, yu 3 1 5 yW 0)], bk := [(4, yb 4), (3, yc 6 1)] })
  (.fin { lo := 2, lob := 0, iv := [(6, yv 11), (5, yv 10), (4, yv 8), (3, yv 7)], bv := [(7, yw 12), (2, yw 6)], ct := [(11, yu 9 7 1 yI 0), (10, .up { r := 5, n1 := .var 0, s1 := 52, n2 := 10, s2 := 5, lo := 2, ks := yW } 1 [] (.lit 0)), (9, yu 4 0 52 yB 0), (8, yu 3 1 5 yW 0)], bk := [(4, yb 4), (3, yc 3 1), (2, yc 1 52), (1, yc 0 5), (0, yb 2)] }))
 (.ob (.ile (.lit 0) (.var 0)) <|
  .ob (.ile (.mul (.var 0) (.lit 416)) (.lit 281474976710656)) <|
  .ob (.ile (.var 0) (.lit 9223372036854775807)) <|
  .ob (.ile (.lit 0) (.var 1)) <|
  .ob (.ile (.mul (.var 1) (.lit 40)) (.lit 281474976710656)) <|
  .ob (.ile (.var 1) (.lit 9223372036854775807)) <|
  .loop 2 { lo := 2, lob := 3, iv := [(11, .lit 0), (10, .lit 0), (8, .lit 0), (7, .lit 0), (2, yv 0)], bv := [(12, .lit true), (6, .lit true)], ct := [(3, .up { r := 0, n1 := .var 1, s1 := 5, ks := yW, z := true } 0 [] (.lit 0)), (5, .up { r := 0, n1 := .var 0, s1 := 52, n2 := 10, s2 := 5, lo := 2, ks := yW, z := true } 1 [] (.lit 0)), (4, .up { r := 0, n1 := .var 0, s1 := 52, ks := yB, z := true } 0 [] (.lit 0))], nb := [4, 3, 4, 3] } <|
  .br (.ile (.lit 1) (.var 2))
  (.ob (.ile (.mul (.add (.var 7) (.lit 1)) (.lit 8)) (.lit 140737488355328)) <|
   .ob (.ile (.lit 0) (.var 7)) <|
   .ob (.ile (.var 7) (.var 8)) <|
   .ob (.ile (.var 8) (.lit 9223372036854775807)) <|
   .ob (.or (.not (.var 6)) (.ieq (.var 7) (.lit 0))) <|
   .new 13 [.be (.and (.ile (.add (.var 7) (.lit 1)) (.var 13)) (.ile (.var 13) (.lit 9223372036854775807)))] <|
   .ob (.inr .i64 (.sub (.var 2) (.lit 1))) <|
   .back 0 { lo := 2, lob := 3, iv := [(11, yv 11), (10, yv 10), (8, yv 13), (7, .add (.var 7) (.lit 1)), (2, .sub (.var 2) (.lit 1))], bv := [(12, yw 12), (6, .lit false)], ct := [(9, .up { r := 9, n1 := .add (.var 7) (.lit 1), s1 := 1, ks := yI } 0 [⟨0, (.var 7), (.lit 0), 0, .int .i64 (.var 2)⟩] (.lit 0)), (3, yu 3 1 5 yW 0), (5, .up { r := 5, n1 := .var 0, s1 := 52, n2 := 10, s2 := 5, lo := 2, ks := yW } 1 [] (.lit 0)), (4, yu 4 0 52 yB 0)], bk := [(4, yb 4), (3, yc 6 1)] })
  (.fin { lo := 2, lob := 0, iv := [(6, yv 11), (5, yv 10), (4, yv 8), (3, yv 7)], bv := [(7, yw 12), (2, yw 6)], ct := [(11, yu 9 7 1 yI 0), (10, .up { r := 5, n1 := .var 0, s1 := 52, n2 := 10, s2 := 5, lo := 2, ks := yW } 1 [] (.lit 0)), (9, yu 4 0 52 yB 0), (8, yu 3 1 5 yW 0)], bk := [(4, yb 4), (3, yc 3 1), (2, yc 0 52), (1, yc 1 5), (0, yb 2)] }))
theorem new_run : exec tab newE 8000 [] (cfg0 13 2 knNew [] newCon.hp newCon.args) = newOut := by kernel_rfl
def newPre (ρ : Env) : Prop := (0 ≤ ρ.iv 0 ∧ ρ.iv 0 ≤ 1024) ∧ 0 ≤ ρ.iv 1 ∧ ρ.iv 1 ≤ 200
def newPost (ρ : Env) : Prop := OkSl ρ 2 ∧ ∃ p : PS, psRd ρ (ρ.iv 1) (ρ.iv 0) 2 = p ∧ p.nb = ρ.iv 1 ∧ p.ns = ρ.iv 0 ∧ p.nf = ρ.iv 0 ∧ p.steps = 0 ∧ p.made = 0 ∧ p.good = true ∧ (∀ i, p.bd i = Wd.zero) ∧ (∀ i, p.gen i = 0) ∧ (∀ i, p.used i = false) ∧ (∀ i k, p.cell i k = Wd.zero) ∧ ∀ i : Nat, (i : Int) < ρ.iv 0 → p.fr i = ρ.iv 0 - i
def newInv (ρ : Env) : Prop := (0 ≤ ρ.iv 2 ∧ ρ.iv 2 ≤ ρ.iv 0) ∧ OkSl ρ 6 ∧ ρ.iv 7 = ρ.iv 0 - ρ.iv 2 ∧ ρ.iv 10 = 0 ∧ ρ.iv 11 = 0 ∧ ρ.bv 12 = true ∧ (∀ i, mkW (ρ.ic 3 i 0) (ρ.bc 3 i 0) = Wd.zero) ∧ (∀ i, ρ.ic 4 i 0 0 = 0 ∧ ρ.bc 4 i 0 1 = false) ∧ (∀ i k, mkW (ρ.ic 5 i k) (ρ.bc 5 i k) = Wd.zero) ∧ ∀ i : Nat, (i : Int) < ρ.iv 7 → ρ.ic 9 i 0 0 = ρ.iv 0 - i
theorem new_loop {q : Env} (hp : newPre q) {σ : Sub} {k : Out} (h0 : newInv (σ.nenv q)) (hk : ∀ r, newPre r → newInv r → ∀ Γ, Γ = (fun ρ' : Env => newInv ρ' ∧ ρ'.iv 2 + 1 ≤ r.iv 2 ∧ 0 ≤ ρ'.iv 2) → Sat newPost [] [fun ρ' => newInv ρ' ∧ (ρ'.iv 2).toNat < (r.num.iv 2).toNat] r k) : Sat newPost [] [] q (.loop 2 σ k) :=
 Sat.loopK newInv (fun r => (r.iv 2).toNat) newPre h0 (fun _ => hp) fun r hp hI => hk r hp hI _ rfl
set_option maxHeartbeats 1000000 in
theorem new_sat (q : Env) (hpre : newPre q.num) : Sat newPost [] [] q newOut := by
 replace hpre : newPre q := hpre
 obtain ⟨⟨a1, a2⟩, a3, a4⟩ := id hpre
 unfold newOut
 refine Sat.alt ?_ ?_
 all_goals
  refine Sat.ob (by simp only [Da]; omega) (Sat.ob (by simp only [Da]; omega) (Sat.ob (by simp only [Da]; omega) (Sat.ob (by simp only [Da]; omega) (Sat.ob (by simp only [Da]; omega) (Sat.ob (by simp only [Da]; omega) (new_loop hpre ?_ fun r hp hI _ _ => ?_))))))
  ·refine ⟨⟨a1, Int.le_refl _⟩, ⟨fun _ => rfl, Int.le_refl 0, Int.le_refl 0, by show (0 : Int) ≤ _; decide⟩, ?_, rfl, rfl, rfl, fun i => ?_, fun i => ?_, fun i k => ?_, fun i hi => ?_⟩
   ·show (0 : Int) = q.iv 0 - q.iv 0
    omega
   ·simp [mkW, Wd.zero, -Int.pred_toNat, Sub.nenv, assoc, CV.I, CV.B, upsI, upsB, Seg.I, Seg.B, SC.I, SC.B, IE.den, BE.den]
   ·simp [-Int.pred_toNat, Sub.nenv, assoc, CV.I, CV.B, upsI, upsB, Seg.I, Seg.B, SC.I, SC.B, IE.den, BE.den]
   ·simp [mkW, Wd.zero, -Int.pred_toNat, Sub.nenv, assoc, CV.I, CV.B, upsI, upsB, Seg.I, Seg.B, SC.I, SC.B, IE.den, BE.den]
   ·have : (i : Int) < 0 := hi
    omega
  ·obtain ⟨⟨a1, a2⟩, a3, a4⟩ := hp
   obtain ⟨⟨i1, i2⟩, ho, i3, i4, i5, i6, i7, i8, i9, i10⟩ := hI
   refine Sat.br (fun hlt => ?_) (fun hge => ?_)
   ·simp only [Da] at hlt
    refine Sat.ob (by simp only [Da]; omega) (Sat.ob (decide_eq_true ho.2.1) (Sat.ob (decide_eq_true ho.2.2.1) (Sat.ob (decide_eq_true ho.2.2.2) (Sat.ob (nilOb ho) (Sat.newB (fun u => newPre u ∧ newInv u ∧ 1 ≤ u.iv 2 ∧ (u.iv 2 - 1).toNat < (r.num.iv 2).toNat) (fun _ => ⟨⟨⟨a1, a2⟩, a3, a4⟩, ⟨⟨i1, i2⟩, ho, i3, i4, i5, i6, i7, i8, i9, i10⟩, hlt, by show (r.iv 2 - 1).toNat < (r.iv 2).toNat; omega⟩) fun u hu hf => ?_)))))
    obtain ⟨⟨⟨a1, a2⟩, a3, a4⟩, ⟨⟨i1, i2⟩, ho, i3, i4, i5, i6, i7, i8, i9, i10⟩, hlt, hm⟩ := hu
    simp only [Da] at hf
    have h7 : 0 ≤ u.iv 7 := ho.2.1
    refine Sat.ob (by simp only [Da]; omega) (Sat.back rfl ⟨⟨⟨by show 0 ≤ u.iv 2 - 1; omega, by show u.iv 2 - 1 ≤ u.iv 0; omega⟩, ⟨fun h => (by cases h), by show 0 ≤ u.iv 7 + 1; omega, hf.1, hf.2⟩, by show u.iv 7 + 1 = u.iv 0 - (u.iv 2 - 1); omega, i4, i5, i6, fun i => ?_, fun i => ?_, fun i k => ?_, fun i hi => ?_⟩, hm⟩)
    ·rw [← i7 i]
     simp [mkW, -Int.pred_toNat, Sub.nenv, assoc, CV.I, CV.B, upsI, upsB, Seg.I, Seg.B, SC.I, SC.B, IE.den, BE.den]
    ·obtain ⟨x, y⟩ := i8 i
     refine ⟨?_, ?_⟩
     ·simp [-Int.pred_toNat, Sub.nenv, assoc, CV.I, CV.B, upsI, upsB, Seg.I, Seg.B, SC.I, SC.B, IE.den, BE.den, x]
     ·simp [-Int.pred_toNat, Sub.nenv, assoc, CV.I, CV.B, upsI, upsB, Seg.I, Seg.B, SC.I, SC.B, IE.den, BE.den, y]
    ·rw [← i9 i k]
     simp [mkW, -Int.pred_toNat, Sub.nenv, assoc, CV.I, CV.B, upsI, upsB, Seg.I, Seg.B, SC.I, SC.B, IE.den, BE.den]
    ·replace hi : (i : Int) < u.iv 7 + 1 := hi
     by_cases h : i = (u.iv 7).toNat
     ·subst h
      have : (((u.iv 7).toNat : Nat) : Int) = u.iv 7 := by omega
      simp [-Int.pred_toNat, Sub.nenv, assoc, CV.I, CV.B, upsI, upsB, Seg.I, Seg.B, SC.I, SC.B, IE.den, BE.den]
      omega
     ·have hr := i10 i (by omega)
      have hr2 : u.iv 0 - (i : Int) = (u.iv 0 - (i : Int)) := rfl
      simp [-Int.pred_toNat, Sub.nenv, assoc, CV.I, CV.B, upsI, upsB, Seg.I, Seg.B, SC.I, SC.B, IE.den, BE.den, Ne.symm h, hr]
   ·simp only [Da] at hge
    have h2 : r.iv 2 = 0 := by omega
    refine Sat.fin ⟨ho, _, rfl, rfl, rfl, ?_, i4, i5, i6, fun i => ?_, fun i => ?_, fun i => ?_, fun i k => ?_, fun i hi => ?_⟩
    ·show r.iv 7 = r.iv 0
     omega
    ·rw [← i7 i]
     simp [psRd, mkW, -Int.pred_toNat, Sub.nenv, assoc, CV.I, CV.B, upsI, upsB, Seg.I, Seg.B, SC.I, SC.B, IE.den, BE.den]
    ·simp [psRd, -Int.pred_toNat, Sub.nenv, assoc, CV.I, CV.B, upsI, upsB, Seg.I, Seg.B, SC.I, SC.B, IE.den, BE.den, (i8 i).1]
    ·simp [psRd, -Int.pred_toNat, Sub.nenv, assoc, CV.I, CV.B, upsI, upsB, Seg.I, Seg.B, SC.I, SC.B, IE.den, BE.den, (i8 i).2]
    ·rw [← i9 i k]
     simp [psRd, mkW, -Int.pred_toNat, Sub.nenv, assoc, CV.I, CV.B, upsI, upsB, Seg.I, Seg.B, SC.I, SC.B, IE.den, BE.den]
    ·replace hi : (i : Int) < r.iv 0 := hi
     show _ = r.iv 0 - (i : Int)
     rw [← i10 i (by omega)]
     simp [psRd, -Int.pred_toNat, Sub.nenv, assoc, CV.I, CV.B, upsI, upsB, Seg.I, Seg.B, SC.I, SC.B, IE.den, BE.den]
theorem new_con : ConOK Tryd.prog newCon newPre newPost :=
 con_ok tabOK (E := newE) (cs := []) rfl (fun k pre post h => by cases h) schedOK rfl new_run (by kernel_rfl) (fun ρ h p hp => by
   obtain ⟨⟨a1, a2⟩, a3, a4⟩ : newPre ρ.num := h
   simp only [knNew, List.mem_cons, List.not_mem_nil, or_false] at hp
   rcases hp with rfl | rfl | rfl | rfl <;> simp only [Da] <;> omega) new_sat
end Go.Proofs.YthomdlajobnmnaaDoor

namespace Go.Proofs.YthomdlajobnmnaaDoor
open Go.Rex

def kAc : List Kd := [.int .i64, .int .i64, .int .i64, .int .i64, .int .i64, .int .i64, .int .i64, .int .i64, .bool, .int .i64, .int .i64, .int .i64, .int .i64, .bool]
def shI : Bool × List FK := (false, [.int .i64])
def shInts : Bool × List FK := (false, [.sl 3 [.int .i64]])
def shWs : Bool × List FK := (false, [.sl 31 kW])
def shAcs : Bool × List FK := (false, [.sl 39 kAc])
def shW : Bool × List FK := (true, [.int .i64, .int .i64, .int .i64, .int .i64, .bool])
def L3a : LSpec := { f := 3, p := [1, 1, 1, 1, 1, 0, 1, 0], hav := [(8, .au)], kill := [38, 39, 40, 44, 45, 46, 43, 47, 48, 9, 10, 49, 50, 51, 52, 53, 54, 55, 56, 57, 58, 59, 4, 41, 42], deep := [6], ift := 119 }
def L3b : LSpec := { f := 3, p := [1, 1, 1, 1, 1, 1, 1, 0, 1, 0], hav := [(11, .sl 3), (12, .au)], kill := [61, 62, 63, 64, 65, 66, 67, 68, 69, 70, 71, 72, 75, 76, 77, 78, 79, 80, 81, 82, 83, 84, 13, 86, 87, 88, 89, 90, 85, 91, 92, 14, 15, 93, 94, 95, 96, 97, 98, 73, 74], deep := [6], ift := 119 }
def L3c : LSpec := { f := 3, p := [1, 1, 1, 1, 1, 1, 1, 1, 0, 1, 0], hav := [(16, .au)], kill := [102, 103, 107, 108, 109, 106, 110, 111, 17, 18, 112, 113, 114, 115, 116, 117, 118, 119, 4, 104, 105], deep := [6], ift := 119 }
def L4 : LSpec := { f := 4, p := [1, 1, 1, 1, 1, 1, 1, 1, 1, 0, 1, 0], hav := [(13, .au)], kill := [63, 64, 65, 66, 67, 68, 69, 70, 73, 74, 75, 76, 14, 77, 78, 79, 80, 81, 82, 83, 84, 85, 86, 87, 88, 89, 90, 91, 92, 93, 94, 95, 96, 97, 98, 99, 100, 101, 102, 103, 104, 105, 106, 107, 108, 109, 110, 111, 112, 71, 72], deep := [7], ift := 119 }
def L5a : LSpec := { f := 5, p := [1, 1, 1, 1, 1, 0, 1, 0], hav := [(9, .au)], kill := [35, 36, 37, 38, 39, 40, 41, 42, 45, 46, 47, 48, 49, 50, 51, 52, 53, 54, 55, 56, 43, 44], deep := [5], ift := 119 }
def L5b : LSpec := { f := 5, p := [1, 1, 1, 1, 1, 1, 1, 1, 0, 1, 0], hav := [(12, .au)], kill := [70, 71, 75, 76, 77, 78, 79, 80, 81, 74, 82, 83, 13, 14, 84, 15, 85, 86, 87, 88, 89, 90, 91, 92, 93, 94, 95, 4, 72, 73] }
def L6 : LSpec := { f := 6, p := [1, 1, 1, 1, 1, 1, 1, 1, 0, 1, 0], hav := [(7, .sl 31), (9, .au), (10, .au)], kill := [36, 37, 38, 39, 40, 41, 42, 43, 46, 47, 48, 49, 11, 51, 52, 53, 50, 54, 55, 12, 13, 56, 57, 58, 59, 60, 61, 62, 63, 64, 65, 66, 67, 14, 68, 69, 70, 71, 72, 73, 74, 75, 76, 77, 78, 79, 80, 4, 15, 81, 82, 83, 84, 87, 88, 89, 90, 91, 92, 93, 85, 86, 94, 95, 96, 97, 98, 99, 100, 101, 102, 103, 104, 105, 106, 107, 108, 109, 110, 111, 112, 113, 114, 115, 116, 117, 118, 119, 120, 121, 122, 123, 124, 125, 126, 127, 128, 16, 129, 130, 131, 132, 133, 134, 135, 136, 137, 138, 139, 140, 141, 142, 143, 144, 145, 146, 147, 148, 149, 150, 44, 45], deep := [5], ift := 119, mem := [8] }
def L6k : LSpec := { f := 6, p := [1, 1, 1, 1, 1, 1, 1, 1, 0, 1, 0, 0, 1, 0, 0, 1, 1, 1, 0, 1, 0, 1, 1, 0, 1, 0], hav := [(15, .au)], kill := [81, 82, 83, 84, 87, 88, 89, 90, 91, 92, 93, 4, 85, 86] }
def L19 : LSpec := { f := 19, p := [1, 1, 1, 0, 1, 0], hav := [(3, .sln 31), (13, .au)], kill := [14, 15, 16, 17, 5, 4, 18, 19, 20, 21, 22, 23, 24, 25, 26, 27, 28] }
end Go.Proofs.YthomdlajobnmnaaDoor
