/- the sieve's contracts in an engine's words; 'May' -/
import Derived.Test.YthomdlajobnmnaaDoorRC
import Derived.Test.YthomdlajobnmnaaDoorRF
import Derived.Shelf.RegionOpenPlain
import Derived.WalkKit
import Derived.Deep.LoopGhost
import Derived.Deep.RegionLaw
import Derived.Lib.Walk
import Derived.Lib.SliceRun
import Derived.Lib.LazyBuf
import Derived.Deep.OwnRows
set_option linter.unusedSimpArgs false
set_option linter.unusedVariables false
namespace Go.Proofs.YthomdlajobnmnaaDoor
open Go.Rex
theorem con_mono {P : Program} {k : Con} {pre post post' : Env → Prop} (h : ConOK P k pre post) (hp : ∀ ρ, post ρ → post' ρ) : ConOK P k pre post' :=
 ⟨h.fn, fun ρ ν w h1 h2 h3 => (h.run ρ ν w h1 h2 h3).mono fun e w' he => by
   obtain ⟨ρ', ν', a, b, c, d, f, g⟩ := he
   exact ⟨ρ', ν', a, b, c, d, f, hp _ g⟩⟩
def Nt.sv (n : Nt) : Sv.Note := ⟨n.ref.slot, n.ref.gen, n.ref.tag, n.ref.num, n.ref.mark, n.birth, n.death⟩
theorem Nt.sv_inj {a b : Nt} (h : a.sv = b.sv) : a = b := by
 obtain ⟨⟨a1, a2, a3, a4, a5⟩, a6, a7⟩ := a
 obtain ⟨⟨b1, b2, b3, b4, b5⟩, b6, b7⟩ := b
 simp only [Nt.sv, Sv.Note.mk.injEq] at h
 obtain ⟨rfl, rfl, rfl, rfl, rfl, rfl, rfl⟩ := h
 rfl
theorem notes_sv (ρ : Env) (b : Nat) : Sv.notes ρ b = (ntRow ρ (b + 3) (ρ.iv (b + 1))).map Nt.sv := by
 unfold Sv.notes ntRow
 rw [List.map_map]
 rfl
theorem filter_sv {l m : List Nt} {p : Sv.Note → Bool} {q : Nt → Bool} (hq : ∀ n, p n.sv = q n) (h : m.map Nt.sv = (l.map Nt.sv).filter p) : m = l.filter q := by
 rw [List.filter_map] at h
 have e : p ∘ Nt.sv = q := funext hq
 rw [e] at h
 have : ∀ {x y : List Nt}, x.map Nt.sv = y.map Nt.sv → x = y := by
  intro x
  induction x with
  | nil => intro y h; cases y with | nil => rfl | cons => cases h
  | cons a x ih =>
   intro y h
   cases y with
   | nil => cases h
   | cons b y =>
    simp only [List.map_cons, List.cons.injEq] at h
    rw [Nt.sv_inj h.1, ih h.2]
 exact this h
def inRow (ρ : Env) (r : Nat) (n : Int) : List Int := (List.range n.toNat).map fun i => ρ.ic r i 0 0
def spAt (ρ : Env) (r : Nat) (i : Nat) : Sp := ⟨ρ.bc r i 0 0, ρ.ic r i 0 1, ρ.ic r i 0 2⟩
def spRow (ρ : Env) (r : Nat) (n : Int) : List Sp := (List.range n.toNat).map (spAt ρ r)
def slotsP (ρ : Env) : Prop := OkSl ρ 8 ∧ ntRow ρ 11 (ρ.iv 9) = (ntRow ρ 3 (ρ.iv 1)).filter fun n => !((wdRow ρ 7 (ρ.iv 5)).any fun w => RS.keepSlot w n)
def erasP (ρ : Env) : Prop := OkSl ρ 8 ∧ ntRow ρ 11 (ρ.iv 9) = (ntRow ρ 3 (ρ.iv 1)).filter fun n => !((inRow ρ 7 (ρ.iv 5)).any fun e => RS.keepEra e n)
def spansP (ρ : Env) : Prop := OkSl ρ 8 ∧ ntRow ρ 11 (ρ.iv 9) = (ntRow ρ 3 (ρ.iv 1)).filter fun n => !((spRow ρ 7 (ρ.iv 5)).any fun s => RS.keepSpan s n)
def epochsP (ρ : Env) : Prop := OkSl ρ 8 ∧ ntRow ρ 11 (ρ.iv 9) = (ntRow ρ 3 (ρ.iv 1)).filter fun n => !(RS.keepEpoch (ρ.iv 4) n)
theorem slots_con' : ConOK Tryd.prog slotsCon Sv.slotsPre slotsP := con_mono Sv.slots_con fun ρ h => by
 obtain ⟨h1, h2, -⟩ := h
 refine ⟨h1, filter_sv (fun n => ?_) ((notes_sv ρ 8).symm.trans (h2.trans (congrArg _ (notes_sv ρ 0))))⟩
 congr 1
 show (((List.range (ρ.iv 5).toNat).map fun j => ρ.ic 7 j 0 0).any fun s => decide (s = n.ref.slot)) = _
 unfold wdRow
 rw [List.any_map, List.any_map]
 rfl
theorem eras_con' : ConOK Tryd.prog erasCon Sv.erasPre erasP := con_mono Sv.eras_con fun ρ h => by
 obtain ⟨h1, h2, -⟩ := h
 refine ⟨h1, filter_sv (fun n => ?_) ((notes_sv ρ 8).symm.trans (h2.trans (congrArg _ (notes_sv ρ 0))))⟩
 congr 1
 show (((List.range (ρ.iv 5).toNat).map fun j => ρ.ic 7 j 0 0).any fun e => decide ((0 < e ∧ n.birth ≤ e) ∧ e ≤ n.death)) = _
 unfold inRow
 rw [List.any_map, List.any_map]
 congr 1
 funext j
 simp only [Function.comp, RS.keepEra]
 exact decide_eq_decide.2 and_assoc
theorem spans_con' : ConOK Tryd.prog spansCon Sv.spansPre spansP := con_mono Sv.spans_con fun ρ h => by
 obtain ⟨h1, h2, -⟩ := h
 refine ⟨h1, filter_sv (fun n => ?_) ((notes_sv ρ 8).symm.trans (h2.trans (congrArg _ (notes_sv ρ 0))))⟩
 congr 1
 show (((List.range (ρ.iv 5).toNat).map fun j => (ρ.bc 7 j 0 0, ρ.ic 7 j 0 1, ρ.ic 7 j 0 2)).any fun s => decide ((s.1 = true ∧ s.2.1 ≤ n.death) ∧ n.birth ≤ s.2.2)) = _
 unfold spRow
 rw [List.any_map, List.any_map]
 congr 1
 funext j
 simp only [Function.comp, RS.keepSpan, spAt]
 rw [Bool.eq_iff_iff]
 simp [and_assoc]
theorem epochs_con' : ConOK Tryd.prog epochsCon Sv.epochsPre epochsP := con_mono Sv.epochs_con fun ρ h => by
 obtain ⟨h1, h2, -⟩ := h
 refine ⟨h1, filter_sv (fun n => ?_) ((notes_sv ρ 8).symm.trans (h2.trans (congrArg _ (notes_sv ρ 0))))⟩
 refine congrArg (fun b => !b) ?_
 show decide (ρ.iv 4 < -9223372036854775806 ∨ ρ.iv 4 - 2 < n.death) = RS.keepEpoch (ρ.iv 4) n
 unfold RS.keepEpoch
 exact decide_eq_decide.2 (by omega)
/-! ### May -/
noncomputable def mayE : Ex := { sched := sched, loops := [Lmay], fin := mayCon }
def mayOut : Out :=
 .ob (.or (.not (.var 1)) (.ieq (.var 2) (.lit 0))) <|
 .ob (.ile (.lit 0) (.var 2)) <|
 .loop 5 { lo := 5, lob := 1, iv := [(5, .lit 0)] } <|
 .br (.ilt (.var 5) (.var 2))
 (.ob (.not (.var 1)) <|
  .ob (.ile (.lit 0) (.var 5)) <|
  .br (.and (.cell 4 (.var 5) (.lit 0) 0) (.not (.ieq (.cell 4 (.var 5) (.lit 0) 1) (.var 0))))
  (.fin { lo := 5, lob := 1, bv := [(5, .lit false)] })
  (.ob (.inr .i64 (.add (.var 5) (.lit 1))) <|
   .back 0 { lo := 5, lob := 1, iv := [(5, .add (.var 5) (.lit 1))] }))
 (.fin { lo := 5, lob := 1, bv := [(5, .lit true)] })
theorem may_run : exec tab mayE 8000 [] (cfg0 mayCon.f mayCon.nv [] mayCon.gl mayCon.hp mayCon.args) = mayOut := by kernel_rfl
def mayPre (ρ : Env) : Prop := OkSl ρ 1 ∧ ρ.iv 2 ≤ 1000000
def mayPost (ρ : Env) : Prop := ρ.bv 5 = RS.may (ρ.iv 0) (spRow ρ 4 (ρ.iv 2))
def mayInv (ρ : Env) : Prop := mayPre ρ ∧ (0 ≤ ρ.iv 5 ∧ ρ.iv 5 ≤ ρ.iv 2) ∧ RS.may (ρ.iv 0) (spRow ρ 4 (ρ.iv 5)) = true
theorem spRow_succ {ρ : Env} {r : Nat} {n : Int} (h : 0 ≤ n) : spRow ρ r (n + 1) = spRow ρ r n ++ [spAt ρ r n.toNat] := by
 unfold spRow
 rw [show (n + 1).toNat = n.toNat + 1 by omega, List.range_succ, List.map_append]
 rfl
theorem may_sat (ρ : Env) (hpre : mayPre ρ.num) : Sat mayPost [] [] ρ mayOut := by
 replace hpre : mayPre ρ := hpre
 have hpre' := hpre
 obtain ⟨o1, h2⟩ := hpre
 unfold mayOut
 refine Sat.ob (nilOb o1) (Sat.ob (decide_eq_true o1.2.1) (Sat.loopK mayInv (fun r => (r.iv 2 - r.iv 5).toNat) (fun _ => True) ⟨hpre', ⟨Int.le_refl 0, o1.2.1⟩, rfl⟩ (fun _ => trivial) fun q _ hI => ?_))
 replace hI : mayInv q := hI
 obtain ⟨⟨o1, h2⟩, ⟨i1, i2⟩, hI⟩ := hI
 refine Sat.br (fun c => ?_) (fun c => ?_)
 ·simp only [Da] at c
  refine Sat.ob (nilLt o1 (by simp only [Nat.reduceAdd]; omega)) (Sat.ob (decide_eq_true i1) (Sat.br (fun c2 => ?_) (fun c2 => ?_)))
  ·simp only [Da] at c2
   refine Sat.fin ?_
   show false = RS.may (q.iv 0) (spRow q 4 (q.iv 2))
   refine Eq.symm (List.all_eq_false.2 ⟨spAt q 4 (q.iv 5).toNat, List.mem_map.2 ⟨(q.iv 5).toNat, List.mem_range.2 (by omega), rfl⟩, ?_⟩)
   show ¬ (!(q.bc 4 (q.iv 5).toNat 0 0 && q.ic 4 (q.iv 5).toNat 0 1 != q.iv 0)) = true
   simp [c2.1, c2.2]
  ·simp only [Da] at c2
   refine Sat.ob (by simp only [Da]; omega) (Sat.back rfl ⟨⟨⟨o1, h2⟩, ⟨?_, ?_⟩, ?_⟩, ?_⟩)
   ·show 0 ≤ q.iv 5 + 1; omega
   ·show q.iv 5 + 1 ≤ q.iv 2; omega
   ·show RS.may (q.iv 0) (spRow q 4 (q.iv 5 + 1)) = true
    rw [spRow_succ i1]
    unfold RS.may at hI ⊢
    rw [List.all_append, hI, Bool.true_and, List.all_cons, List.all_nil, Bool.and_true]
    show (!(q.bc 4 (q.iv 5).toNat 0 0 && q.ic 4 (q.iv 5).toNat 0 1 != q.iv 0)) = true
    rcases c2 with c2 | c2
    ·simp [c2]
    ·simp [c2]
   ·show (q.iv 2 - (q.iv 5 + 1)).toNat < (q.iv 2 - q.iv 5).toNat
    omega
 ·simp only [Da] at c
  refine Sat.fin ?_
  show true = RS.may (q.iv 0) (spRow q 4 (q.iv 2))
  rw [show q.iv 2 = q.iv 5 by omega]
  exact hI.symm
theorem may_con : ConOK Tryd.prog mayCon mayPre mayPost :=
 con_ok tabOK (E := mayE) (cs := []) rfl (fun k pre post h => by cases h) schedOK rfl may_run (by kernel_rfl) (fun ρ _ p hp => by cases hp) may_sat
end Go.Proofs.YthomdlajobnmnaaDoor

set_option linter.unusedSimpArgs false
set_option linter.unusedVariables false
namespace Go.Proofs.YthomdlajobnmnaaDoor
open Go.Rex
section
variable {σ : Sub} {ρ q : Env} {m d : Nat}
theorem ntRow_con1 (k j : Nat) : ntRow (conEnv σ m d ρ q) (m + k) ((conEnv σ m d ρ q).iv (m + j)) = ntRow q (d + k) (q.iv (d + j)) := by
 unfold ntRow
 rw [ntAt_con1, con_iv]
end
theorem inRow_same {ρ ρ' : Env} {r r' : Nat} {n n' : Int} (hn : n = n') (h : ∀ i, ρ.ic r i 0 0 = ρ'.ic r' i 0 0) : inRow ρ r n = inRow ρ' r' n' := by
 subst hn
 unfold inRow
 congr 1
 funext i
 exact h i
theorem spRow_same {ρ ρ' : Env} {r r' : Nat} {n n' : Int} (hn : n = n') (h : ∀ i, spAt ρ r i = spAt ρ' r' i) : spRow ρ r n = spRow ρ' r' n' := by
 subst hn
 unfold spRow
 congr 1
 funext i
 exact h i
theorem inRow_push {ρ ρ' : Env} {r r' : Nat} {n n' : Int} {w : Int} (h0 : 0 ≤ n) (hn : n' = n + 1) (h : ∀ i : Nat, (i : Int) < n → ρ'.ic r' i 0 0 = ρ.ic r i 0 0) (hw : ρ'.ic r' n.toNat 0 0 = w) :
  inRow ρ' r' n' = inRow ρ r n ++ [w] := by
 subst hn hw
 unfold inRow
 rw [show (n + 1).toNat = n.toNat + 1 by omega, List.range_succ, List.map_append]
 congr 1
 exact List.map_congr_left fun i hi => h i (by have := List.mem_range.1 hi; omega)
theorem dmRow_nt {ρ ρ' : Env} {r r' : Nat} {o n n' : Int} (ho : o = 0) (hn : n = n') (h : ∀ i, ntAt ρ r i = ntAt ρ' r' i) : dmRow ρ r o n = ntRow ρ' r' n' := by
 subst ho
 rw [dmRow_zero]
 exact ntRow_same hn h
theorem spRow_push {ρ ρ' : Env} {r r' : Nat} {n n' : Int} {w : Sp} (h0 : 0 ≤ n) (hn : n' = n + 1) (h : ∀ i : Nat, (i : Int) < n → spAt ρ' r' i = spAt ρ r i) (hw : spAt ρ' r' n.toNat = w) :
  spRow ρ' r' n' = spRow ρ r n ++ [w] := by
 subst hn hw
 unfold spRow
 rw [show (n + 1).toNat = n.toNat + 1 by omega, List.range_succ, List.map_append]
 congr 1
 exact List.map_congr_left fun i hi => h i (by have := List.mem_range.1 hi; omega)
theorem wdRow_take {ρ : Env} {r : Nat} {n : Int} {i : Nat} (h : (i : Int) < n) : (wdRow ρ r n).take (i + 1) = (wdRow ρ r n).take i ++ [mkW (ρ.ic r i 0) (ρ.bc r i 0)] := by
 have hl : i < (wdRow ρ r n).length := by rw [wdRow_len]; omega
 rw [List.take_succ_eq_append_getElem hl]
 simp [wdRow]
theorem wdRow_full {ρ : Env} {r : Nat} {n : Int} {i : Nat} (h : n ≤ i) : (wdRow ρ r n).take i = wdRow ρ r n := List.take_of_length_le (by rw [wdRow_len]; omega)
def siftSem : CSem := [(slotsCon, Sv.slotsPre, slotsP), (erasCon, Sv.erasPre, erasP), (spansCon, Sv.spansPre, spansP), (epochsCon, Sv.epochsPre, epochsP), (reapCon, rPre, reapPost)]
theorem siftSem_ok : ∀ k pre post, (k, pre, post) ∈ siftSem → conWf k = true ∧ ConOK Tryd.prog k pre post := by
 intro k pre post h
 simp only [siftSem, List.mem_cons, List.not_mem_nil, or_false, Prod.mk.injEq] at h
 rcases h with ⟨rfl, rfl, rfl⟩ | ⟨rfl, rfl, rfl⟩ | ⟨rfl, rfl, rfl⟩ | ⟨rfl, rfl, rfl⟩ | ⟨rfl, rfl, rfl⟩
 ·exact ⟨by kernel_rfl, slots_con'⟩
 ·exact ⟨by kernel_rfl, eras_con'⟩
 ·exact ⟨by kernel_rfl, spans_con'⟩
 ·exact ⟨by kernel_rfl, epochs_con'⟩
 ·exact ⟨by kernel_rfl, reap_con⟩
noncomputable def siftE : Ex := { sched := sched, loops := [Lsift, Lspans], cons := [slotsCon, erasCon, spansCon, epochsCon, reapCon], fin := siftCon }
def siftOut : Out :=
 .br (.ieq (.var 0) (.lit 2))
 (.call 0 { lo := 0, lob := 0, iv := [(6, yv 50), (5, yv 49), (2, yv 60), (1, yv 59)], bv := [(4, yw 48), (0, yw 58)], ct := [(7, yu 68 49 5 yW 0), (3, yu 70 59 7 yN 0)], bk := [(1, yc 1 5), (0, yc 3 7)] } 71 <|
  .call 4 { lo := 0, lob := 0, iv := [(70, yv 72), (65, yv 65), (64, yv 64), (63, yv 63), (62, yv 62), (61, yv 61), (60, yv 60), (59, yv 59), (57, yv 57), (56, yv 56), (3, yv 3), (2, yv 2), (1, yv 1), (0, yv 0), (53, yv 73), (52, yv 72), (69, .lit 0), (50, yv 50), (49, yv 49), (47, yv 47), (45, yv 45), (44, yv 44), (43, yv 43), (42, yv 42), (40, yv 40), (39, yv 39), (38, yv 38), (37, yv 37), (35, yv 35), (34, yv 34), (33, yv 33), (32, yv 32), (30, yv 30), (29, yv 29), (28, yv 28), (27, yv 27), (26, yv 26), (25, yv 25), (24, yv 24), (23, yv 23), (22, yv 22), (21, yv 21), (20, yv 20), (19, yv 19), (18, yv 18), (16, yv 16), (15, yv 15), (14, yv 14), (13, yv 13), (11, yv 11), (10, yv 10), (9, yv 9), (8, yv 8), (7, yv 7), (6, yv 6), (5, yv 5), (4, yv 4)], bv := [(67, yw 67), (66, yw 66), (58, yw 58), (55, yw 55), (51, yw 71), (48, yw 48), (46, yw 46), (41, yw 41), (36, yw 36), (31, yw 31), (17, yw 17), (12, yw 12)], ct := [(70, yu 70 59 7 yN 0), (69, yu 74 72 7 yN 0), (68, yu 68 49 5 yW 0), (54, yl 54 9 5 50 yW 0)], bk := [(3, yc 3 7), (2, yc 4 7), (1, yc 1 5), (0, yb 0)] } 79 <|
  .fin { lo := 71, lob := 4, iv := [(137, yv 145), (132, yv 140), (131, yv 139), (130, yv 138), (129, yv 137), (128, yv 136), (127, yv 135), (126, yv 134), (124, yv 132), (123, yv 131), (120, yv 128), (119, yv 127), (136, yv 144), (117, yv 125), (116, yv 124), (114, yv 122), (112, yv 120), (111, yv 119), (110, yv 118), (109, yv 117), (107, yv 115), (106, yv 114), (105, yv 113), (104, yv 112), (102, yv 110), (101, yv 109), (100, yv 108), (99, yv 107), (97, yv 105), (96, yv 104), (95, yv 103), (94, yv 102), (93, yv 101), (92, yv 100), (91, yv 99), (90, yv 98), (89, yv 97), (88, yv 96), (87, yv 95), (86, yv 94), (85, yv 93), (83, yv 91), (82, yv 90), (81, yv 89), (80, yv 88), (78, yv 86), (77, yv 85), (76, yv 84), (75, yv 83), (74, yv 82), (73, yv 81), (72, yv 80), (71, yv 79)], bv := [(134, yw 142), (133, yw 141), (125, yw 133), (122, yw 130), (118, yw 126), (115, yw 123), (113, yw 121), (108, yw 116), (103, yw 111), (98, yw 106), (84, yw 92), (79, yw 87)], ct := [(137, yu 145 134 7 yN 0), (136, yu 144 145 7 yN 0), (135, yu 143 124 5 yW 0), (121, yl 129 9 5 50 yW 0)], bk := [(6, yc 8 7), (5, yc 7 7), (4, yc 6 5)] })
 (.br (.ieq (.var 0) (.lit 3))
  (.ob (.or (.not (.var 48)) (.ieq (.var 49) (.lit 0))) <|
   .ob (.ile (.lit 0) (.var 49)) <|
   .loop 71 { lo := 71, lob := 4, iv := [(75, .lit 0), (73, .lit 0), (72, .lit 0)], bv := [(71, .lit true)], nb := [4] } <|
   .br (.ilt (.var 75) (.var 49))
   (.ob (.not (.var 48)) <|
    .ob (.ile (.lit 0) (.var 75)) <|
    .ob (.ile (.mul (.add (.var 72) (.lit 1)) (.lit 8)) (.lit 140737488355328)) <|
    .ob (.ile (.lit 0) (.var 72)) <|
    .ob (.ile (.var 72) (.var 73)) <|
    .ob (.ile (.var 73) (.lit 9223372036854775807)) <|
    .ob (.or (.not (.var 71)) (.ieq (.var 72) (.lit 0))) <|
    .new 76 [.be (.and (.ile (.add (.var 72) (.lit 1)) (.var 76)) (.ile (.var 76) (.lit 9223372036854775807)))] <|
    .ob (.inr .i64 (.add (.var 75) (.lit 1))) <|
    .back 0 { lo := 71, lob := 4, iv := [(75, .add (.var 75) (.lit 1)), (73, yv 76), (72, .add (.var 72) (.lit 1))], bv := [(71, .lit false)], ct := [(74, .up { r := 74, n1 := .add (.var 72) (.lit 1), s1 := 1, ks := yI } 0 [⟨0, (.var 72), (.lit 0), 0, .int .i64 (.cell 68 (.var 75) (.lit 0) 3)⟩] (.lit 0))], bk := [(4, yc 7 1)] })
   (.call 1 { lo := 0, lob := 0, iv := [(6, yv 73), (5, yv 72), (2, yv 60), (1, yv 59)], bv := [(4, yw 71), (0, yw 58)], ct := [(7, yu 74 72 1 yI 0), (3, yu 70 59 7 yN 0)], bk := [(1, yc 4 1), (0, yc 3 7)] } 76 <|
    .call 4 { lo := 0, lob := 0, iv := [(70, yv 77), (65, yv 65), (64, yv 64), (63, yv 63), (62, yv 62), (61, yv 61), (60, yv 60), (59, yv 59), (57, yv 57), (56, yv 56), (3, yv 3), (2, yv 2), (1, yv 1), (0, yv 0), (53, yv 78), (52, yv 77), (69, .lit 0), (50, yv 50), (49, yv 49), (47, yv 47), (45, yv 45), (44, yv 44), (43, yv 43), (42, yv 42), (40, yv 40), (39, yv 39), (38, yv 38), (37, yv 37), (35, yv 35), (34, yv 34), (33, yv 33), (32, yv 32), (30, yv 30), (29, yv 29), (28, yv 28), (27, yv 27), (26, yv 26), (25, yv 25), (24, yv 24), (23, yv 23), (22, yv 22), (21, yv 21), (20, yv 20), (19, yv 19), (18, yv 18), (16, yv 16), (15, yv 15), (14, yv 14), (13, yv 13), (11, yv 11), (10, yv 10), (9, yv 9), (8, yv 8), (7, yv 7), (6, yv 6), (5, yv 5), (4, yv 4)], bv := [(67, yw 67), (66, yw 66), (58, yw 58), (55, yw 55), (51, yw 76), (48, yw 48), (46, yw 46), (41, yw 41), (36, yw 36), (31, yw 31), (17, yw 17), (12, yw 12)], ct := [(70, yu 70 59 7 yN 0), (69, yu 79 77 7 yN 0), (68, yu 68 49 5 yW 0), (54, yl 54 9 5 50 yW 0)], bk := [(3, yc 3 7), (2, yc 5 7), (1, yc 1 5), (0, yb 0)] } 84 <|
    .fin { lo := 71, lob := 4, iv := [(137, yv 150), (132, yv 145), (131, yv 144), (130, yv 143), (129, yv 142), (128, yv 141), (127, yv 140), (126, yv 139), (124, yv 137), (123, yv 136), (120, yv 133), (119, yv 132), (136, yv 149), (117, yv 130), (116, yv 129), (114, yv 127), (112, yv 125), (111, yv 124), (110, yv 123), (109, yv 122), (107, yv 120), (106, yv 119), (105, yv 118), (104, yv 117), (102, yv 115), (101, yv 114), (100, yv 113), (99, yv 112), (97, yv 110), (96, yv 109), (95, yv 108), (94, yv 107), (93, yv 106), (92, yv 105), (91, yv 104), (90, yv 103), (89, yv 102), (88, yv 101), (87, yv 100), (86, yv 99), (85, yv 98), (83, yv 96), (82, yv 95), (81, yv 94), (80, yv 93), (78, yv 91), (77, yv 90), (76, yv 89), (75, yv 88), (74, yv 87), (73, yv 86), (72, yv 85), (71, yv 84)], bv := [(134, yw 147), (133, yw 146), (125, yw 138), (122, yw 135), (118, yw 131), (115, yw 128), (113, yw 126), (108, yw 121), (103, yw 116), (98, yw 111), (84, yw 97), (79, yw 92)], ct := [(137, yu 150 139 7 yN 0), (136, yu 149 150 7 yN 0), (135, yu 148 129 5 yW 0), (121, yl 134 9 5 50 yW 0)], bk := [(6, yc 9 7), (5, yc 8 7), (4, yc 7 5)] }))
  (.br (.ieq (.var 0) (.lit 5))
   (.ob (.or (.not (.var 48)) (.ieq (.var 49) (.lit 0))) <|
    .ob (.ile (.lit 0) (.var 49)) <|
    .loop 71 { lo := 71, lob := 4, iv := [(75, .lit 0), (73, .lit 0), (72, .lit 0)], bv := [(71, .lit true)], nb := [4] } <|
    .br (.ilt (.var 75) (.var 49))
    (.ob (.not (.var 48)) <|
     .ob (.ile (.lit 0) (.var 75)) <|
     .br (.not (.cell 68 (.var 75) (.lit 0) 4))
     (.ob (.ile (.mul (.add (.var 72) (.lit 1)) (.lit 24)) (.lit 140737488355328)) <|
      .ob (.ile (.lit 0) (.var 72)) <|
      .ob (.ile (.var 72) (.var 73)) <|
      .ob (.ile (.var 73) (.lit 9223372036854775807)) <|
      .ob (.or (.not (.var 71)) (.ieq (.var 72) (.lit 0))) <|
      .new 76 [.be (.and (.ile (.add (.var 72) (.lit 1)) (.var 76)) (.ile (.var 76) (.lit 9223372036854775807)))] <|
      .ob (.inr .i64 (.add (.var 75) (.lit 1))) <|
      .back 0 { lo := 71, lob := 4, iv := [(75, .add (.var 75) (.lit 1)), (73, yv 76), (72, .add (.var 72) (.lit 1))], bv := [(71, .lit false)], ct := [(74, .up { r := 74, n1 := .add (.var 72) (.lit 1), s1 := 3, ks := [.bool, .int .i64, .int .i64] } 0 [⟨0, (.var 72), (.lit 0), 0, .bool (.lit false)⟩, ⟨0, (.var 72), (.lit 0), 1, .int .i64 (.lit 0)⟩, ⟨0, (.var 72), (.lit 0), 2, .int .i64 (.lit 0)⟩] (.lit 0))], bk := [(4, yc 9 3)] })
     (.ob (.ile (.mul (.add (.var 72) (.lit 1)) (.lit 24)) (.lit 140737488355328)) <|
      .ob (.ile (.lit 0) (.var 72)) <|
      .ob (.ile (.var 72) (.var 73)) <|
      .ob (.ile (.var 73) (.lit 9223372036854775807)) <|
      .ob (.or (.not (.var 71)) (.ieq (.var 72) (.lit 0))) <|
      .new 76 [.be (.and (.ile (.add (.var 72) (.lit 1)) (.var 76)) (.ile (.var 76) (.lit 9223372036854775807)))] <|
      .ob (.inr .i64 (.add (.var 75) (.lit 1))) <|
      .back 0 { lo := 71, lob := 4, iv := [(75, .add (.var 75) (.lit 1)), (73, yv 76), (72, .add (.var 72) (.lit 1))], bv := [(71, .lit false)], ct := [(74, .up { r := 74, n1 := .add (.var 72) (.lit 1), s1 := 3, ks := [.bool, .int .i64, .int .i64] } 0 [⟨0, (.var 72), (.lit 0), 0, .bool (.lit true)⟩, ⟨0, (.var 72), (.lit 0), 1, .int .i64 (.cell 68 (.var 75) (.lit 0) 3)⟩, ⟨0, (.var 72), (.lit 0), 2, .int .i64 (.cell 68 (.var 75) (.lit 0) 2)⟩] (.lit 0))], bk := [(4, yc 9 3)] }))
    (.call 2 { lo := 0, lob := 0, iv := [(6, yv 73), (5, yv 72), (2, yv 60), (1, yv 59)], bv := [(4, yw 71), (0, yw 58)], ct := [(7, .up { r := 74, n1 := .var 72, s1 := 3, ks := [.bool, .int .i64, .int .i64] } 0 [] (.lit 0)), (3, yu 70 59 7 yN 0)], bk := [(1, yc 4 3), (0, yc 3 7)] } 76 <|
     .call 4 { lo := 0, lob := 0, iv := [(70, yv 77), (65, yv 65), (64, yv 64), (63, yv 63), (62, yv 62), (61, yv 61), (60, yv 60), (59, yv 59), (57, yv 57), (56, yv 56), (3, yv 3), (2, yv 2), (1, yv 1), (0, yv 0), (53, yv 78), (52, yv 77), (69, .lit 0), (50, yv 50), (49, yv 49), (47, yv 47), (45, yv 45), (44, yv 44), (43, yv 43), (42, yv 42), (40, yv 40), (39, yv 39), (38, yv 38), (37, yv 37), (35, yv 35), (34, yv 34), (33, yv 33), (32, yv 32), (30, yv 30), (29, yv 29), (28, yv 28), (27, yv 27), (26, yv 26), (25, yv 25), (24, yv 24), (23, yv 23), (22, yv 22), (21, yv 21), (20, yv 20), (19, yv 19), (18, yv 18), (16, yv 16), (15, yv 15), (14, yv 14), (13, yv 13), (11, yv 11), (10, yv 10), (9, yv 9), (8, yv 8), (7, yv 7), (6, yv 6), (5, yv 5), (4, yv 4)], bv := [(67, yw 67), (66, yw 66), (58, yw 58), (55, yw 55), (51, yw 76), (48, yw 48), (46, yw 46), (41, yw 41), (36, yw 36), (31, yw 31), (17, yw 17), (12, yw 12)], ct := [(70, yu 70 59 7 yN 0), (69, yu 79 77 7 yN 0), (68, yu 68 49 5 yW 0), (54, yl 54 9 5 50 yW 0)], bk := [(3, yc 3 7), (2, yc 5 7), (1, yc 1 5), (0, yb 0)] } 84 <|
     .fin { lo := 71, lob := 4, iv := [(137, yv 150), (132, yv 145), (131, yv 144), (130, yv 143), (129, yv 142), (128, yv 141), (127, yv 140), (126, yv 139), (124, yv 137), (123, yv 136), (120, yv 133), (119, yv 132), (136, yv 149), (117, yv 130), (116, yv 129), (114, yv 127), (112, yv 125), (111, yv 124), (110, yv 123), (109, yv 122), (107, yv 120), (106, yv 119), (105, yv 118), (104, yv 117), (102, yv 115), (101, yv 114), (100, yv 113), (99, yv 112), (97, yv 110), (96, yv 109), (95, yv 108), (94, yv 107), (93, yv 106), (92, yv 105), (91, yv 104), (90, yv 103), (89, yv 102), (88, yv 101), (87, yv 100), (86, yv 99), (85, yv 98), (83, yv 96), (82, yv 95), (81, yv 94), (80, yv 93), (78, yv 91), (77, yv 90), (76, yv 89), (75, yv 88), (74, yv 87), (73, yv 86), (72, yv 85), (71, yv 84)], bv := [(134, yw 147), (133, yw 146), (125, yw 138), (122, yw 135), (118, yw 131), (115, yw 128), (113, yw 126), (108, yw 121), (103, yw 116), (98, yw 111), (84, yw 97), (79, yw 92)], ct := [(137, yu 150 139 7 yN 0), (136, yu 149 150 7 yN 0), (135, yu 148 129 5 yW 0), (121, yl 134 9 5 50 yW 0)], bk := [(6, yc 9 7), (5, yc 8 7), (4, yc 7 5)] }))
   (.br (.ieq (.var 0) (.lit 4))
    (.call 3 { lo := 0, lob := 0, iv := [(4, yv 45), (2, yv 60), (1, yv 59)], bv := [(0, yw 58)], ct := [(3, yu 70 59 7 yN 0)], bk := [(0, yc 3 7)] } 71 <|
     .call 4 { lo := 0, lob := 0, iv := [(70, yv 72), (65, yv 65), (64, yv 64), (63, yv 63), (62, yv 62), (61, yv 61), (60, yv 60), (59, yv 59), (57, yv 57), (56, yv 56), (3, yv 3), (2, yv 2), (1, yv 1), (0, yv 0), (53, yv 73), (52, yv 72), (69, .lit 0), (50, yv 50), (49, yv 49), (47, yv 47), (45, yv 45), (44, yv 44), (43, yv 43), (42, yv 42), (40, yv 40), (39, yv 39), (38, yv 38), (37, yv 37), (35, yv 35), (34, yv 34), (33, yv 33), (32, yv 32), (30, yv 30), (29, yv 29), (28, yv 28), (27, yv 27), (26, yv 26), (25, yv 25), (24, yv 24), (23, yv 23), (22, yv 22), (21, yv 21), (20, yv 20), (19, yv 19), (18, yv 18), (16, yv 16), (15, yv 15), (14, yv 14), (13, yv 13), (11, yv 11), (10, yv 10), (9, yv 9), (8, yv 8), (7, yv 7), (6, yv 6), (5, yv 5), (4, yv 4)], bv := [(67, yw 67), (66, yw 66), (58, yw 58), (55, yw 55), (51, yw 71), (48, yw 48), (46, yw 46), (41, yw 41), (36, yw 36), (31, yw 31), (17, yw 17), (12, yw 12)], ct := [(70, yu 70 59 7 yN 0), (69, yu 74 72 7 yN 0), (68, yu 68 49 5 yW 0), (54, yl 54 9 5 50 yW 0)], bk := [(3, yc 3 7), (2, yc 4 7), (1, yc 1 5), (0, yb 0)] } 79 <|
     .fin { lo := 71, lob := 4, iv := [(137, yv 145), (132, yv 140), (131, yv 139), (130, yv 138), (129, yv 137), (128, yv 136), (127, yv 135), (126, yv 134), (124, yv 132), (123, yv 131), (120, yv 128), (119, yv 127), (136, yv 144), (117, yv 125), (116, yv 124), (114, yv 122), (112, yv 120), (111, yv 119), (110, yv 118), (109, yv 117), (107, yv 115), (106, yv 114), (105, yv 113), (104, yv 112), (102, yv 110), (101, yv 109), (100, yv 108), (99, yv 107), (97, yv 105), (96, yv 104), (95, yv 103), (94, yv 102), (93, yv 101), (92, yv 100), (91, yv 99), (90, yv 98), (89, yv 97), (88, yv 96), (87, yv 95), (86, yv 94), (85, yv 93), (83, yv 91), (82, yv 90), (81, yv 89), (80, yv 88), (78, yv 86), (77, yv 85), (76, yv 84), (75, yv 83), (74, yv 82), (73, yv 81), (72, yv 80), (71, yv 79)], bv := [(134, yw 142), (133, yw 141), (125, yw 133), (122, yw 130), (118, yw 126), (115, yw 123), (113, yw 121), (108, yw 116), (103, yw 111), (98, yw 106), (84, yw 92), (79, yw 87)], ct := [(137, yu 145 134 7 yN 0), (136, yu 144 145 7 yN 0), (135, yu 143 124 5 yW 0), (121, yl 129 9 5 50 yW 0)], bk := [(6, yc 8 7), (5, yc 7 7), (4, yc 6 5)] })
    (.call 4 { lo := 0, lob := 0, iv := [(70, yv 70), (65, yv 65), (64, yv 64), (63, yv 63), (62, yv 62), (61, yv 61), (60, yv 60), (59, yv 59), (57, yv 57), (56, yv 56), (3, yv 3), (2, yv 2), (1, yv 1), (0, yv 0), (53, yv 53), (52, yv 52), (69, yv 69), (50, yv 50), (49, yv 49), (47, yv 47), (45, yv 45), (44, yv 44), (43, yv 43), (42, yv 42), (40, yv 40), (39, yv 39), (38, yv 38), (37, yv 37), (35, yv 35), (34, yv 34), (33, yv 33), (32, yv 32), (30, yv 30), (29, yv 29), (28, yv 28), (27, yv 27), (26, yv 26), (25, yv 25), (24, yv 24), (23, yv 23), (22, yv 22), (21, yv 21), (20, yv 20), (19, yv 19), (18, yv 18), (16, yv 16), (15, yv 15), (14, yv 14), (13, yv 13), (11, yv 11), (10, yv 10), (9, yv 9), (8, yv 8), (7, yv 7), (6, yv 6), (5, yv 5), (4, yv 4)], bv := [(67, yw 67), (66, yw 66), (58, yw 58), (55, yw 55), (51, yw 51), (48, yw 48), (46, yw 46), (41, yw 41), (36, yw 36), (31, yw 31), (17, yw 17), (12, yw 12)], ct := [(70, yu 70 59 7 yN 0), (69, yu 69 70 7 yN 0), (68, yu 68 49 5 yW 0), (54, yl 54 9 5 50 yW 0)], bk := [(3, yc 3 7), (2, yc 2 7), (1, yc 1 5), (0, yb 0)] } 71 <|
     .fin { lo := 71, lob := 4, iv := [(137, yv 137), (132, yv 132), (131, yv 131), (130, yv 130), (129, yv 129), (128, yv 128), (127, yv 127), (126, yv 126), (124, yv 124), (123, yv 123), (120, yv 120), (119, yv 119), (136, yv 136), (117, yv 117), (116, yv 116), (114, yv 114), (112, yv 112), (111, yv 111), (110, yv 110), (109, yv 109), (107, yv 107), (106, yv 106), (105, yv 105), (104, yv 104), (102, yv 102), (101, yv 101), (100, yv 100), (99, yv 99), (97, yv 97), (96, yv 96), (95, yv 95), (94, yv 94), (93, yv 93), (92, yv 92), (91, yv 91), (90, yv 90), (89, yv 89), (88, yv 88), (87, yv 87), (86, yv 86), (85, yv 85), (83, yv 83), (82, yv 82), (81, yv 81), (80, yv 80), (78, yv 78), (77, yv 77), (76, yv 76), (75, yv 75), (74, yv 74), (73, yv 73), (72, yv 72), (71, yv 71)], bv := [(134, yw 134), (133, yw 133), (125, yw 125), (122, yw 122), (118, yw 118), (115, yw 115), (113, yw 113), (108, yw 108), (103, yw 103), (98, yw 98), (84, yw 84), (79, yw 79)], ct := [(137, yu 137 126 7 yN 0), (136, yu 136 137 7 yN 0), (135, yu 135 116 5 yW 0), (121, yl 121 9 5 50 yW 0)], bk := [(6, yc 6 7), (5, yc 5 7), (4, yc 4 5)] }))))
theorem sift_run : exec tab siftE 8000 [] (cfg0 siftCon.f siftCon.nv [] siftCon.gl siftCon.hp siftCon.args) = siftOut := by kernel_rfl
def siftPre (ρ : Env) : Prop := OkR ρ 4 ∧ (ρ.iv 59 ≤ 1000000 ∧ (ρ.iv 0 = 4 ∨ ρ.iv 49 ≤ 100000)) ∧ (ρ.iv 0 = 4 → SmW ρ 42)
def siftPost (ρ : Env) : Prop := OkR ρ 71 ∧ rsRd ρ 0 71 = (rsRd ρ 0 4).sift
theorem sift_eq {r : RS} (h : 2 ≤ r.engine ∧ r.engine ≤ 5) {l : List Nt} (hl : l = r.notes.filter fun n => !r.kept n) : r.sift = ({ r with doomed := l } : RS).reap := by
 subst hl
 unfold RS.sift
 rw [if_pos h]
def erInv (ρ : Env) : Prop := (siftPre ρ ∧ ρ.iv 0 = 3) ∧ (0 ≤ ρ.iv 75 ∧ ρ.iv 75 ≤ ρ.iv 49) ∧ (OkSl ρ 71 ∧ ρ.iv 72 = ρ.iv 75) ∧ inRow ρ 74 (ρ.iv 72) = ((wdRow ρ 68 (ρ.iv 49)).take (ρ.iv 75).toNat).map Wd.num
def spInv (ρ : Env) : Prop := (siftPre ρ ∧ ρ.iv 0 = 5) ∧ (0 ≤ ρ.iv 75 ∧ ρ.iv 75 ≤ ρ.iv 49) ∧ (OkSl ρ 71 ∧ ρ.iv 72 = ρ.iv 75) ∧ spRow ρ 74 (ρ.iv 72) = ((wdRow ρ 68 (ρ.iv 49)).take (ρ.iv 75).toNat).map RS.hear
set_option maxHeartbeats 4000000 in
theorem sift_sat (ρ : Env) (hpre : siftPre ρ.num) : Sat siftPost siftSem [] ρ siftOut := by
 replace hpre : siftPre ρ := hpre
 have hpre' := hpre
 obtain ⟨⟨o1, o2, o3⟩, ⟨f1, f2⟩, hw⟩ := hpre
 unfold siftOut
 refine Sat.br (fun c => ?_) (fun c => ?_)
 ·simp only [Da] at c
  have e0 : (rsRd ρ 0 4).engine = 2 := c
  refine Sat.callK (c := slotsCon) rfl ⟨o3, f1, o1, by show ρ.iv 49 ≤ 1000000; omega⟩ (fun q => (OkR q 4) ∧ OkSl q 71 ∧ (rsRd q 0 4).sift = ({ rsRd q 0 4 with doomed := ntRow q 74 (q.iv 72) } : RS).reap) (fun e hq => ?_) fun q hq => ?_
  ·replace hq : slotsP (conEnv _ 8 71 ρ (ρ.join 71 e)) := hq
   obtain ⟨q1, q2⟩ := hq
   rw [show OkSl (conEnv _ 8 71 ρ (ρ.join 71 e)) 8 = OkSl (ρ.join 71 e) 71 from okSl_con1 (m := 8) 0] at q1
   rw [show ntRow (conEnv _ 8 71 ρ (ρ.join 71 e)) 11 ((conEnv _ 8 71 ρ (ρ.join 71 e)).iv 9) = ntRow (ρ.join 71 e) 74 ((ρ.join 71 e).iv 72) from ntRow_con1 (m := 8) 3 1] at q2
   refine ⟨⟨o1, o2, o3⟩, q1, sift_eq (r := rsRd ρ 0 4) ⟨by rw [e0]; decide, by rw [e0]; decide⟩ (q2.trans ?_)⟩
   refine congr (congrArg List.filter ?_) ?_
   ·funext n
    refine congrArg (fun b => !b) ?_
    unfold RS.kept
    rw [if_pos e0]
    refine congrArg (fun l : List Wd => l.any fun w => RS.keepSlot w n) ?_
    exact wdRow_same rfl fun i => by simp [mkW, conEnv, -Int.pred_toNat, Sub.nenv, assoc, CV.I, CV.B, upsI, upsB, Seg.I, Seg.B, SC.I, SC.B, IE.den, BE.den]
   ·exact ntRow_same rfl fun i => by simp [ntAt, mkW, conEnv, -Int.pred_toNat, Sub.nenv, assoc, CV.I, CV.B, upsI, upsB, Seg.I, Seg.B, SC.I, SC.B, IE.den, BE.den]
  obtain ⟨⟨o1, o2, o3⟩, od, hm⟩ := hq
  refine r_call (c := reapCon) rfl ({ rsRd q 0 4 with doomed := ntRow q 74 (q.iv 72) } : RS) ({ rsRd q 0 4 with doomed := ntRow q 74 (q.iv 72) } : RS).reap (by decide) (by decide) (st4 rfl rfl rfl rfl) ⟨o1, ⟨od, Int.le_refl 0, .inr (by show (0 : Int) + _ ≤ _; rw [Int.zero_add]; exact Int.le_refl _)⟩, o3⟩ (RS.ext' rfl rfl rfl rfl rfl rfl rW1 (dmRow_nt rfl rfl fun i => by simp [ntAt, mkW, -Int.pred_toNat, Sub.nenv, assoc, CV.I, CV.B, upsI, upsB, Seg.I, Seg.B, SC.I, SC.B, IE.den, BE.den]) rfl rfl rfl rfl rH1 rfl rN1 rfl rfl) (fun e hq hr => ⟨hq.1, by rw [← hr]; exact hq.2⟩) (fun u => (OkR u 79) ∧ rsRd u 0 79 = (rsRd u 0 4).sift) (fun e h1 h2 => ⟨h1, h2.trans hm.symm⟩) fun u hu => ?_
  obtain ⟨⟨o1, o2, o3⟩, hm⟩ := hu
  exact Sat.fin ⟨⟨(by first | exact o1 | exact o2 | exact o3 | exact okNil rfl rfl | assumption), (by first | exact o2 | exact ⟨okNil rfl rfl, Int.le_refl 0, .inl rfl⟩ | assumption), (by first | exact o1 | exact o2 | exact o3 | exact okNil rfl rfl | assumption)⟩, Eq.trans (b := (rsRd u 0 79)) (RS.ext' rfl rfl rfl rfl rfl rfl rW1 rD1 rfl rfl rfl rfl rH1 rfl rN1 rfl rfl) (Eq.symm (hm.symm))⟩
 simp only [Da] at c
 refine Sat.br (fun c3 => ?_) (fun c3 => ?_)
 ·simp only [Da] at c3
  refine Sat.ob (nilOb o1) (Sat.ob (decide_eq_true o1.2.1) (Sat.loopK erInv (fun r => (r.iv 49 - r.iv 75).toNat) (fun _ => True) ⟨⟨hpre', c3⟩, ⟨Int.le_refl 0, o1.2.1⟩, ⟨okNil rfl rfl, rfl⟩, rfl⟩ (fun _ => trivial) fun q _ hI => ?_))
  replace hI : erInv q := hI
  have hI' := hI
  obtain ⟨⟨hpre', he⟩, ⟨i1, i2⟩, ⟨os, hl⟩, hrow⟩ := hI
  have hpre := hpre'
  obtain ⟨⟨o1, o2, o3⟩, ⟨f1, f2⟩, hw⟩ := hpre
  refine Sat.br (fun c => ?_) (fun c => ?_)
  ·simp only [Da] at c
   refine Sat.ob (nilLt o1 (by simp only [Nat.reduceAdd]; omega)) (Sat.ob (decide_eq_true i1) ?_)
   obtain ⟨p1, p2, p3, p4⟩ := id os
   refine Sat.ob (by simp only [Da]; omega) (Sat.ob (decide_eq_true p2) (Sat.ob (decide_eq_true p3) (Sat.ob (decide_eq_true p4) (Sat.ob (nilOb os) (Sat.newB (fun u => erInv u ∧ u.iv 75 < u.iv 49 ∧ (u.iv 49 - (u.iv 75 + 1)).toNat < (q.iv 49 - q.iv 75).toNat) (fun e => ⟨hI', c, by show (q.iv 49 - (q.iv 75 + 1)).toNat < (q.iv 49 - q.iv 75).toNat; omega⟩) fun u hu hb => ?_)))))
   obtain ⟨⟨⟨hpre', he⟩, ⟨i1, i2⟩, ⟨os, hl⟩, hrow⟩, c, hd⟩ := hu
   simp only [Da] at hb
   obtain ⟨p1, p2, p3, p4⟩ := id os
   replace p2 : 0 ≤ u.iv 72 := p2
   have hf2 := hpre'.2.1.2
   refine Sat.ob (by simp only [Da]; omega) (Sat.back rfl ⟨⟨⟨hpre', he⟩, ⟨?_, ?_⟩, ⟨⟨fun h => (by cases h), ?_, hb.1, hb.2⟩, ?_⟩, ?_⟩, hd⟩)
   ·show 0 ≤ u.iv 75 + 1; omega
   ·show u.iv 75 + 1 ≤ u.iv 49; omega
   ·show 0 ≤ u.iv 72 + 1; omega
   ·show u.iv 72 + 1 = u.iv 75 + 1; omega
   ·refine (inRow_push (ρ := u) (r := 74) (n := u.iv 72) (w := Wd.num (mkW (u.ic 68 (u.iv 75).toNat 0) (u.bc 68 (u.iv 75).toNat 0))) p2 rfl (fun i hi => ?_) ?_).trans ?_
    ·have hn : ¬ (u.iv 72).toNat = i := fun h => by omega
     simp [spAt, mkW, -Int.pred_toNat, Sub.nenv, assoc, CV.I, CV.B, upsI, upsB, Seg.I, Seg.B, SC.I, SC.B, IE.den, BE.den, hn]
    ·simp [mkW, -Int.pred_toNat, Sub.nenv, assoc, CV.I, CV.B, upsI, upsB, Seg.I, Seg.B, SC.I, SC.B, IE.den, BE.den, hl]
    ·show inRow u 74 (u.iv 72) ++ _ = ((wdRow u 68 (u.iv 49)).take (u.iv 75 + 1).toNat).map Wd.num
     rw [hrow, show (u.iv 75 + 1).toNat = (u.iv 75).toNat + 1 by omega, wdRow_take (by omega), List.map_append]
     rfl
  ·simp only [Da] at c
   have e0 : (rsRd q 0 4).engine = 3 := he
   rw [wdRow_full (by omega)] at hrow
   refine Sat.callK (c := erasCon) rfl ⟨o3, f1, os, by show q.iv 72 ≤ 1000000; omega⟩ (fun u => (OkR u 4) ∧ OkSl u 76 ∧ (rsRd u 0 4).sift = ({ rsRd u 0 4 with doomed := ntRow u 79 (u.iv 77) } : RS).reap) (fun e hq => ?_) fun u hu => ?_
   ·replace hq : erasP (conEnv _ 8 76 q (q.join 76 e)) := hq
    obtain ⟨q1, q2⟩ := hq
    rw [show OkSl (conEnv _ 8 76 q (q.join 76 e)) 8 = OkSl (q.join 76 e) 76 from okSl_con1 (m := 8) 0] at q1
    rw [show ntRow (conEnv _ 8 76 q (q.join 76 e)) 11 ((conEnv _ 8 76 q (q.join 76 e)).iv 9) = ntRow (q.join 76 e) 79 ((q.join 76 e).iv 77) from ntRow_con1 (m := 8) 3 1] at q2
    refine ⟨⟨o1, o2, o3⟩, q1, sift_eq (r := rsRd q 0 4) ⟨by rw [e0]; decide, by rw [e0]; decide⟩ (q2.trans ?_)⟩
    refine congr (congrArg List.filter ?_) ?_
    ·funext n
     refine congrArg (fun b => !b) ?_
     unfold RS.kept
     rw [if_neg (show ¬ (rsRd q 0 4).engine = 2 by rw [e0]; decide), if_pos e0]
     refine (congrArg (fun l : List Int => l.any fun e => RS.keepEra e n) (Eq.trans (b := inRow q 74 (q.iv 72)) (inRow_same rfl fun i => by simp [conEnv, -Int.pred_toNat, Sub.nenv, assoc, CV.I, CV.B, upsI, upsB, Seg.I, Seg.B, SC.I, SC.B, IE.den, BE.den]) hrow)).trans ?_
     rw [List.any_map]
     rfl
    ·exact ntRow_same rfl fun i => by simp [ntAt, mkW, conEnv, -Int.pred_toNat, Sub.nenv, assoc, CV.I, CV.B, upsI, upsB, Seg.I, Seg.B, SC.I, SC.B, IE.den, BE.den]
   obtain ⟨⟨o1, o2, o3⟩, od, hm⟩ := hu
   refine r_call (c := reapCon) rfl ({ rsRd u 0 4 with doomed := ntRow u 79 (u.iv 77) } : RS) ({ rsRd u 0 4 with doomed := ntRow u 79 (u.iv 77) } : RS).reap (by decide) (by decide) (st4 rfl rfl rfl rfl) ⟨o1, ⟨od, Int.le_refl 0, .inr (by show (0 : Int) + _ ≤ _; rw [Int.zero_add]; exact Int.le_refl _)⟩, o3⟩ (RS.ext' rfl rfl rfl rfl rfl rfl rW1 (dmRow_nt rfl rfl fun i => by simp [ntAt, mkW, -Int.pred_toNat, Sub.nenv, assoc, CV.I, CV.B, upsI, upsB, Seg.I, Seg.B, SC.I, SC.B, IE.den, BE.den]) rfl rfl rfl rfl rH1 rfl rN1 rfl rfl) (fun e hq hr => ⟨hq.1, by rw [← hr]; exact hq.2⟩) (fun u => (OkR u 84) ∧ rsRd u 0 84 = (rsRd u 0 4).sift) (fun e h1 h2 => ⟨h1, h2.trans hm.symm⟩) fun u hu => ?_
   obtain ⟨⟨o1, o2, o3⟩, hm⟩ := hu
   exact Sat.fin ⟨⟨(by first | exact o1 | exact o2 | exact o3 | exact okNil rfl rfl | assumption), (by first | exact o2 | exact ⟨okNil rfl rfl, Int.le_refl 0, .inl rfl⟩ | assumption), (by first | exact o1 | exact o2 | exact o3 | exact okNil rfl rfl | assumption)⟩, Eq.trans (b := (rsRd u 0 84)) (RS.ext' rfl rfl rfl rfl rfl rfl rW1 rD1 rfl rfl rfl rfl rH1 rfl rN1 rfl rfl) (Eq.symm (hm.symm))⟩
 simp only [Da] at c3
 refine Sat.br (fun c5 => ?_) (fun c5 => ?_)
 ·simp only [Da] at c5
  refine Sat.ob (nilOb o1) (Sat.ob (decide_eq_true o1.2.1) (Sat.loopK spInv (fun r => (r.iv 49 - r.iv 75).toNat) (fun _ => True) ⟨⟨hpre', c5⟩, ⟨Int.le_refl 0, o1.2.1⟩, ⟨okNil rfl rfl, rfl⟩, rfl⟩ (fun _ => trivial) fun q _ hI => ?_))
  replace hI : spInv q := hI
  have hI' := hI
  obtain ⟨⟨hpre', he⟩, ⟨i1, i2⟩, ⟨os, hl⟩, hrow⟩ := hI
  have hpre := hpre'
  obtain ⟨⟨o1, o2, o3⟩, ⟨f1, f2⟩, hw⟩ := hpre
  refine Sat.br (fun c => ?_) (fun c => ?_)
  ·simp only [Da] at c
   refine Sat.ob (nilLt o1 (by simp only [Nat.reduceAdd]; omega)) (Sat.ob (decide_eq_true i1) ?_)
   obtain ⟨p1, p2, p3, p4⟩ := id os
   refine Sat.br (fun c2 => ?_) (fun c2 => ?_)
   ·simp only [Da] at c2
    refine Sat.ob (by simp only [Da]; omega) (Sat.ob (decide_eq_true p2) (Sat.ob (decide_eq_true p3) (Sat.ob (decide_eq_true p4) (Sat.ob (nilOb os) (Sat.newB (fun u => spInv u ∧ u.iv 75 < u.iv 49 ∧ (u.iv 49 - (u.iv 75 + 1)).toNat < (q.iv 49 - q.iv 75).toNat ∧ u.bc 68 (u.iv 75).toNat 0 4 = false) (fun e => ⟨hI', c, by show (q.iv 49 - (q.iv 75 + 1)).toNat < (q.iv 49 - q.iv 75).toNat; omega, c2⟩) fun u hu hb => ?_)))))
    obtain ⟨⟨⟨hpre', he⟩, ⟨i1, i2⟩, ⟨os, hl⟩, hrow⟩, c, hd, hc⟩ := hu
    simp only [Da] at hb
    obtain ⟨p1, p2, p3, p4⟩ := id os
    replace p2 : 0 ≤ u.iv 72 := p2
    have hf2 := hpre'.2.1.2
    refine Sat.ob (by simp only [Da]; omega) (Sat.back rfl ⟨⟨⟨hpre', he⟩, ⟨?_, ?_⟩, ⟨⟨fun h => (by cases h), ?_, hb.1, hb.2⟩, ?_⟩, ?_⟩, hd⟩)
    ·show 0 ≤ u.iv 75 + 1; omega
    ·show u.iv 75 + 1 ≤ u.iv 49; omega
    ·show 0 ≤ u.iv 72 + 1; omega
    ·show u.iv 72 + 1 = u.iv 75 + 1; omega
    ·refine (spRow_push (ρ := u) (r := 74) (n := u.iv 72) (w := RS.hear (mkW (u.ic 68 (u.iv 75).toNat 0) (u.bc 68 (u.iv 75).toNat 0))) p2 rfl (fun i hi => ?_) ?_).trans ?_
     ·have hn : ¬ (u.iv 72).toNat = i := fun h => by omega
      simp [spAt, mkW, -Int.pred_toNat, Sub.nenv, assoc, CV.I, CV.B, upsI, upsB, Seg.I, Seg.B, SC.I, SC.B, IE.den, BE.den, hn]
     ·simp [spAt, mkW, RS.hear, Sp.zero, -Int.pred_toNat, Sub.nenv, assoc, CV.I, CV.B, upsI, upsB, Seg.I, Seg.B, SC.I, SC.B, IE.den, BE.den, hl, hc]
     ·show spRow u 74 (u.iv 72) ++ _ = ((wdRow u 68 (u.iv 49)).take (u.iv 75 + 1).toNat).map RS.hear
      rw [hrow, show (u.iv 75 + 1).toNat = (u.iv 75).toNat + 1 by omega, wdRow_take (by omega), List.map_append]
      rfl
   ·simp only [Da] at c2
    refine Sat.ob (by simp only [Da]; omega) (Sat.ob (decide_eq_true p2) (Sat.ob (decide_eq_true p3) (Sat.ob (decide_eq_true p4) (Sat.ob (nilOb os) (Sat.newB (fun u => spInv u ∧ u.iv 75 < u.iv 49 ∧ (u.iv 49 - (u.iv 75 + 1)).toNat < (q.iv 49 - q.iv 75).toNat ∧ u.bc 68 (u.iv 75).toNat 0 4 = true) (fun e => ⟨hI', c, by show (q.iv 49 - (q.iv 75 + 1)).toNat < (q.iv 49 - q.iv 75).toNat; omega, c2⟩) fun u hu hb => ?_)))))
    obtain ⟨⟨⟨hpre', he⟩, ⟨i1, i2⟩, ⟨os, hl⟩, hrow⟩, c, hd, hc⟩ := hu
    simp only [Da] at hb
    obtain ⟨p1, p2, p3, p4⟩ := id os
    replace p2 : 0 ≤ u.iv 72 := p2
    have hf2 := hpre'.2.1.2
    refine Sat.ob (by simp only [Da]; omega) (Sat.back rfl ⟨⟨⟨hpre', he⟩, ⟨?_, ?_⟩, ⟨⟨fun h => (by cases h), ?_, hb.1, hb.2⟩, ?_⟩, ?_⟩, hd⟩)
    ·show 0 ≤ u.iv 75 + 1; omega
    ·show u.iv 75 + 1 ≤ u.iv 49; omega
    ·show 0 ≤ u.iv 72 + 1; omega
    ·show u.iv 72 + 1 = u.iv 75 + 1; omega
    ·refine (spRow_push (ρ := u) (r := 74) (n := u.iv 72) (w := RS.hear (mkW (u.ic 68 (u.iv 75).toNat 0) (u.bc 68 (u.iv 75).toNat 0))) p2 rfl (fun i hi => ?_) ?_).trans ?_
     ·have hn : ¬ (u.iv 72).toNat = i := fun h => by omega
      simp [spAt, mkW, -Int.pred_toNat, Sub.nenv, assoc, CV.I, CV.B, upsI, upsB, Seg.I, Seg.B, SC.I, SC.B, IE.den, BE.den, hn]
     ·simp [spAt, mkW, RS.hear, -Int.pred_toNat, Sub.nenv, assoc, CV.I, CV.B, upsI, upsB, Seg.I, Seg.B, SC.I, SC.B, IE.den, BE.den, hl, hc]
     ·show spRow u 74 (u.iv 72) ++ _ = ((wdRow u 68 (u.iv 49)).take (u.iv 75 + 1).toNat).map RS.hear
      rw [hrow, show (u.iv 75 + 1).toNat = (u.iv 75).toNat + 1 by omega, wdRow_take (by omega), List.map_append]
      rfl
  ·simp only [Da] at c
   have e0 : (rsRd q 0 4).engine = 5 := he
   rw [wdRow_full (by omega)] at hrow
   refine Sat.callK (c := spansCon) rfl ⟨o3, f1, os, by show q.iv 72 ≤ 1000000; omega⟩ (fun u => (OkR u 4) ∧ OkSl u 76 ∧ (rsRd u 0 4).sift = ({ rsRd u 0 4 with doomed := ntRow u 79 (u.iv 77) } : RS).reap) (fun e hq => ?_) fun u hu => ?_
   ·replace hq : spansP (conEnv _ 8 76 q (q.join 76 e)) := hq
    obtain ⟨q1, q2⟩ := hq
    rw [show OkSl (conEnv _ 8 76 q (q.join 76 e)) 8 = OkSl (q.join 76 e) 76 from okSl_con1 (m := 8) 0] at q1
    rw [show ntRow (conEnv _ 8 76 q (q.join 76 e)) 11 ((conEnv _ 8 76 q (q.join 76 e)).iv 9) = ntRow (q.join 76 e) 79 ((q.join 76 e).iv 77) from ntRow_con1 (m := 8) 3 1] at q2
    refine ⟨⟨o1, o2, o3⟩, q1, sift_eq (r := rsRd q 0 4) ⟨by rw [e0]; decide, by rw [e0]; decide⟩ (q2.trans ?_)⟩
    refine congr (congrArg List.filter ?_) ?_
    ·funext n
     refine congrArg (fun b => !b) ?_
     unfold RS.kept
     rw [if_neg (show ¬ (rsRd q 0 4).engine = 2 by rw [e0]; decide), if_neg (show ¬ (rsRd q 0 4).engine = 3 by rw [e0]; decide), if_pos e0]
     refine (congrArg (fun l : List Sp => l.any fun s => RS.keepSpan s n) (Eq.trans (b := spRow q 74 (q.iv 72)) (spRow_same rfl fun i => by simp [spAt, conEnv, -Int.pred_toNat, Sub.nenv, assoc, CV.I, CV.B, upsI, upsB, Seg.I, Seg.B, SC.I, SC.B, IE.den, BE.den]) hrow)).trans ?_
     rw [List.any_map]
     rfl
    ·exact ntRow_same rfl fun i => by simp [ntAt, mkW, conEnv, -Int.pred_toNat, Sub.nenv, assoc, CV.I, CV.B, upsI, upsB, Seg.I, Seg.B, SC.I, SC.B, IE.den, BE.den]
   obtain ⟨⟨o1, o2, o3⟩, od, hm⟩ := hu
   refine r_call (c := reapCon) rfl ({ rsRd u 0 4 with doomed := ntRow u 79 (u.iv 77) } : RS) ({ rsRd u 0 4 with doomed := ntRow u 79 (u.iv 77) } : RS).reap (by decide) (by decide) (st4 rfl rfl rfl rfl) ⟨o1, ⟨od, Int.le_refl 0, .inr (by show (0 : Int) + _ ≤ _; rw [Int.zero_add]; exact Int.le_refl _)⟩, o3⟩ (RS.ext' rfl rfl rfl rfl rfl rfl rW1 (dmRow_nt rfl rfl fun i => by simp [ntAt, mkW, -Int.pred_toNat, Sub.nenv, assoc, CV.I, CV.B, upsI, upsB, Seg.I, Seg.B, SC.I, SC.B, IE.den, BE.den]) rfl rfl rfl rfl rH1 rfl rN1 rfl rfl) (fun e hq hr => ⟨hq.1, by rw [← hr]; exact hq.2⟩) (fun u => (OkR u 84) ∧ rsRd u 0 84 = (rsRd u 0 4).sift) (fun e h1 h2 => ⟨h1, h2.trans hm.symm⟩) fun u hu => ?_
   obtain ⟨⟨o1, o2, o3⟩, hm⟩ := hu
   exact Sat.fin ⟨⟨(by first | exact o1 | exact o2 | exact o3 | exact okNil rfl rfl | assumption), (by first | exact o2 | exact ⟨okNil rfl rfl, Int.le_refl 0, .inl rfl⟩ | assumption), (by first | exact o1 | exact o2 | exact o3 | exact okNil rfl rfl | assumption)⟩, Eq.trans (b := (rsRd u 0 84)) (RS.ext' rfl rfl rfl rfl rfl rfl rW1 rD1 rfl rfl rfl rfl rH1 rfl rN1 rfl rfl) (Eq.symm (hm.symm))⟩
 simp only [Da] at c5
 refine Sat.br (fun c4 => ?_) (fun c4 => ?_)
 ·simp only [Da] at c4
  have e0 : (rsRd ρ 0 4).engine = 4 := c4
  obtain ⟨⟨w1, w2⟩, w3, w4⟩ := hw c4
  simp only [Nat.reduceAdd] at w1 w2 w3 w4
  refine Sat.callK (c := epochsCon) rfl ⟨o3, f1, by show -9223372036854775808 ≤ ρ.iv 45; omega, by show ρ.iv 45 ≤ 9223372036854775807; omega⟩ (fun q => (OkR q 4) ∧ OkSl q 71 ∧ (rsRd q 0 4).sift = ({ rsRd q 0 4 with doomed := ntRow q 74 (q.iv 72) } : RS).reap) (fun e hq => ?_) fun q hq => ?_
  ·replace hq : epochsP (conEnv _ 8 71 ρ (ρ.join 71 e)) := hq
   obtain ⟨q1, q2⟩ := hq
   rw [show OkSl (conEnv _ 8 71 ρ (ρ.join 71 e)) 8 = OkSl (ρ.join 71 e) 71 from okSl_con1 (m := 8) 0] at q1
   rw [show ntRow (conEnv _ 8 71 ρ (ρ.join 71 e)) 11 ((conEnv _ 8 71 ρ (ρ.join 71 e)).iv 9) = ntRow (ρ.join 71 e) 74 ((ρ.join 71 e).iv 72) from ntRow_con1 (m := 8) 3 1] at q2
   refine ⟨⟨o1, o2, o3⟩, q1, sift_eq (r := rsRd ρ 0 4) ⟨by rw [e0]; decide, by rw [e0]; decide⟩ (q2.trans ?_)⟩
   refine congr (congrArg List.filter ?_) ?_
   ·funext n
    refine congrArg (fun b => !b) ?_
    unfold RS.kept
    rw [if_neg (show ¬ (rsRd ρ 0 4).engine = 2 by rw [e0]; decide), if_neg (show ¬ (rsRd ρ 0 4).engine = 3 by rw [e0]; decide), if_neg (show ¬ (rsRd ρ 0 4).engine = 5 by rw [e0]; decide), if_pos e0]
    rfl
   ·exact ntRow_same rfl fun i => by simp [ntAt, mkW, conEnv, -Int.pred_toNat, Sub.nenv, assoc, CV.I, CV.B, upsI, upsB, Seg.I, Seg.B, SC.I, SC.B, IE.den, BE.den]
  obtain ⟨⟨o1, o2, o3⟩, od, hm⟩ := hq
  refine r_call (c := reapCon) rfl ({ rsRd q 0 4 with doomed := ntRow q 74 (q.iv 72) } : RS) ({ rsRd q 0 4 with doomed := ntRow q 74 (q.iv 72) } : RS).reap (by decide) (by decide) (st4 rfl rfl rfl rfl) ⟨o1, ⟨od, Int.le_refl 0, .inr (by show (0 : Int) + _ ≤ _; rw [Int.zero_add]; exact Int.le_refl _)⟩, o3⟩ (RS.ext' rfl rfl rfl rfl rfl rfl rW1 (dmRow_nt rfl rfl fun i => by simp [ntAt, mkW, -Int.pred_toNat, Sub.nenv, assoc, CV.I, CV.B, upsI, upsB, Seg.I, Seg.B, SC.I, SC.B, IE.den, BE.den]) rfl rfl rfl rfl rH1 rfl rN1 rfl rfl) (fun e hq hr => ⟨hq.1, by rw [← hr]; exact hq.2⟩) (fun u => (OkR u 79) ∧ rsRd u 0 79 = (rsRd u 0 4).sift) (fun e h1 h2 => ⟨h1, h2.trans hm.symm⟩) fun u hu => ?_
  obtain ⟨⟨o1, o2, o3⟩, hm⟩ := hu
  exact Sat.fin ⟨⟨(by first | exact o1 | exact o2 | exact o3 | exact okNil rfl rfl | assumption), (by first | exact o2 | exact ⟨okNil rfl rfl, Int.le_refl 0, .inl rfl⟩ | assumption), (by first | exact o1 | exact o2 | exact o3 | exact okNil rfl rfl | assumption)⟩, Eq.trans (b := (rsRd u 0 79)) (RS.ext' rfl rfl rfl rfl rfl rfl rW1 rD1 rfl rfl rfl rfl rH1 rfl rN1 rfl rfl) (Eq.symm (hm.symm))⟩
 ·simp only [Da] at c4
  have hm : (rsRd ρ 0 4).sift = (rsRd ρ 0 4).reap := by
   unfold RS.sift
   rw [if_neg (show ¬ (2 ≤ (rsRd ρ 0 4).engine ∧ (rsRd ρ 0 4).engine ≤ 5) by show ¬ (2 ≤ ρ.iv 0 ∧ ρ.iv 0 ≤ 5); omega)]
  refine r_call (c := reapCon) rfl (rsRd ρ 0 4) (rsRd ρ 0 4).reap (by decide) (by decide) (st4 rfl rfl rfl rfl) ⟨o1, o2, o3⟩ (RS.ext' rfl rfl rfl rfl rfl rfl rW1 rD1 rfl rfl rfl rfl rH1 rfl rN1 rfl rfl) (fun e hq hr => ⟨hq.1, by rw [← hr]; exact hq.2⟩) (fun u => (OkR u 71) ∧ rsRd u 0 71 = (rsRd u 0 4).sift) (fun e h1 h2 => ⟨h1, h2.trans hm.symm⟩) fun u hu => ?_
  obtain ⟨⟨o1, o2, o3⟩, hm⟩ := hu
  exact Sat.fin ⟨⟨(by first | exact o1 | exact o2 | exact o3 | exact okNil rfl rfl | assumption), (by first | exact o2 | exact ⟨okNil rfl rfl, Int.le_refl 0, .inl rfl⟩ | assumption), (by first | exact o1 | exact o2 | exact o3 | exact okNil rfl rfl | assumption)⟩, Eq.trans (b := (rsRd u 0 71)) (RS.ext' rfl rfl rfl rfl rfl rfl rW1 rD1 rfl rfl rfl rfl rH1 rfl rN1 rfl rfl) (Eq.symm (hm.symm))⟩
theorem sift_con : ConOK Tryd.prog siftCon siftPre siftPost :=
 con_ok tabOK (E := siftE) (cs := siftSem) rfl siftSem_ok schedOK rfl sift_run (by kernel_rfl) (fun ρ _ p hp => by cases hp) sift_sat
end Go.Proofs.YthomdlajobnmnaaDoor

set_option linter.unusedSimpArgs false
set_option linter.unusedVariables false
namespace Go.Proofs.YthomdlajobnmnaaDoor
open Go.Rex Go.Lib Go.RowKit
/-! ### Index -/
noncomputable def indexE : Ex := { sched := sched, loops := [Lindex], fin := indexCon }
def indexOut : Out :=
 .ob (.or (.not (.var 0)) (.ieq (.var 1) (.lit 0))) <|
 .ob (.ile (.lit 0) (.var 1)) <|
 .loop 11 { lo := 11, lob := 2, iv := [(11, .lit 0)] } <|
 .br (.ilt (.var 11) (.var 1))
 (.ob (.not (.var 0)) <|
  .ob (.ile (.lit 0) (.var 11)) <|
  .br (.and (.and (.ieq (.var 4) (.cell 3 (.var 11) (.lit 0) 0)) (.and (.ieq (.var 5) (.cell 3 (.var 11) (.lit 0) 1)) (.and (.ieq (.var 6) (.cell 3 (.var 11) (.lit 0) 2)) (.and (.ieq (.var 7) (.cell 3 (.var 11) (.lit 0) 3)) (.beq (.var 8) (.cell 3 (.var 11) (.lit 0) 4)))))) (.and (.ieq (.var 9) (.cell 3 (.var 11) (.lit 0) 5)) (.ieq (.var 10) (.cell 3 (.var 11) (.lit 0) 6))))
  (.fin { lo := 11, lob := 1, iv := [(11, yv 11)] })
  (.ob (.inr .i64 (.add (.var 11) (.lit 1))) <|
   .back 0 { lo := 11, lob := 2, iv := [(11, .add (.var 11) (.lit 1))] }))
 (.fin { lo := 11, lob := 1, iv := [(11, .lit (-1))] })
theorem index_run : exec tab indexE 8000 [] (cfg0 indexCon.f indexCon.nv [] indexCon.gl indexCon.hp indexCon.args) = indexOut := by kernel_rfl
def ntRd (ρ : Env) (v : Nat) : Nt := ⟨wdRd ρ v, ρ.iv (v + 5), ρ.iv (v + 6)⟩
def indexPre (ρ : Env) : Prop := (OkSl ρ 0 ∧ ρ.iv 1 ≤ 1000000) ∧ ntRd ρ 4 ∈ ntRow ρ 3 (ρ.iv 1)
def indexPost (ρ : Env) : Prop := (0 ≤ ρ.iv 11 ∧ ρ.iv 11 < ρ.iv 1) ∧ (ntRow ρ 3 (ρ.iv 1)).erase (ntRd ρ 4) = (ntRow ρ 3 (ρ.iv 1)).take (ρ.iv 11).toNat ++ (ntRow ρ 3 (ρ.iv 1)).drop ((ρ.iv 11).toNat + 1)
def indexInv (ρ : Env) : Prop := indexPre ρ ∧ (0 ≤ ρ.iv 11 ∧ ρ.iv 11 ≤ ρ.iv 1) ∧ ∀ j : Nat, (j : Int) < ρ.iv 11 → ntAt ρ 3 j ≠ ntRd ρ 4
theorem nt_eq' {a b : Nt} : a = b ↔ (a.ref.slot = b.ref.slot ∧ a.ref.gen = b.ref.gen ∧ a.ref.tag = b.ref.tag ∧ a.ref.num = b.ref.num ∧ a.ref.mark = b.ref.mark) ∧ a.birth = b.birth ∧ a.death = b.death := by
 obtain ⟨⟨a1, a2, a3, a4, a5⟩, a6, a7⟩ := a
 obtain ⟨⟨b1, b2, b3, b4, b5⟩, b6, b7⟩ := b
 simp only [Nt.mk.injEq, Wd.mk.injEq]
theorem erase_at {α : Type} [DecidableEq α] {x : α} : ∀ {l : List α} {i : Nat}, l[i]? = some x → (∀ j, j < i → l[j]? ≠ some x) → l.erase x = l.take i ++ l.drop (i + 1)
 | [], i, h, _ => by simp at h
 | a :: l, 0, h, _ => by
  simp at h
  subst h
  simp
 | a :: l, i + 1, h, hn => by
  have h0 := hn 0 (by omega)
  simp only [List.getElem?_cons_zero, ne_eq, Option.some.injEq] at h0
  rw [List.erase_cons_tail (by simpa using h0), erase_at (l := l) (i := i) (by simpa using h) (fun j hj => by simpa using hn (j + 1) (by omega))]
  rfl
theorem ntRow_get {ρ : Env} {r : Nat} {n : Int} {i : Nat} (h : (i : Int) < n) : (ntRow ρ r n)[i]? = some (ntAt ρ r i) := by
 unfold ntRow
 rw [List.getElem?_map, List.getElem?_range (by omega)]
 rfl
theorem index_sat (ρ : Env) (hpre : indexPre ρ.num) : Sat indexPost [] [] ρ indexOut := by
 replace hpre : indexPre ρ := hpre
 have hpre' := hpre
 obtain ⟨⟨o1, h2⟩, -⟩ := hpre
 unfold indexOut
 refine Sat.ob (nilOb o1) (Sat.ob (decide_eq_true o1.2.1) (Sat.loopK indexInv (fun r => (r.iv 1 - r.iv 11).toNat) (fun _ => True) ⟨hpre', ⟨Int.le_refl 0, o1.2.1⟩, fun j hj => ?_⟩ (fun _ => trivial) fun q _ hI => ?_))
 ·exfalso
  replace hj : (j : Int) < 0 := hj
  omega
 replace hI : indexInv q := hI
 obtain ⟨⟨⟨o1, h2⟩, hx⟩, ⟨i1, i2⟩, hI⟩ := hI
 refine Sat.br (fun c => ?_) (fun c => ?_)
 ·simp only [Da] at c
  refine Sat.ob (nilLt o1 (by simp only [Nat.reduceAdd]; omega)) (Sat.ob (decide_eq_true i1) (Sat.br (fun c2 => ?_) (fun c2 => ?_)))
  ·simp only [Da] at c2
   refine Sat.fin ⟨⟨i1, c⟩, ?_⟩
   show (ntRow q 3 (q.iv 1)).erase (ntRd q 4) = (ntRow q 3 (q.iv 1)).take (q.iv 11).toNat ++ (ntRow q 3 (q.iv 1)).drop ((q.iv 11).toNat + 1)
   refine erase_at ?_ fun j hj => ?_
   ·rw [ntRow_get (by omega)]
    refine congrArg some (nt_eq'.2 ?_)
    simp only [ntAt, ntRd, mkW, wdRd]
    simp only [and_assoc] at c2 ⊢
    obtain ⟨a1, a2, a3, a4, a5, a6, a7⟩ := c2
    exact ⟨a1.symm, a2.symm, a3.symm, a4.symm, a5.symm, a6.symm, a7.symm⟩
   ·rw [ntRow_get (by omega)]
    intro h
    exact hI j (by omega) (Option.some.inj h)
  ·simp only [Da] at c2
   have hne : ntAt q 3 (q.iv 11).toNat ≠ ntRd q 4 := fun h => by
    have h' := nt_eq'.1 h
    simp only [ntAt, ntRd, mkW, wdRd] at h'
    obtain ⟨⟨a1, a2, a3, a4, a5⟩, a6, a7⟩ := h'
    simp_all
   refine Sat.ob (by simp only [Da]; omega) (Sat.back rfl ⟨⟨⟨⟨o1, h2⟩, hx⟩, ⟨?_, ?_⟩, fun j hj => ?_⟩, ?_⟩)
   ·show 0 ≤ q.iv 11 + 1; omega
   ·show q.iv 11 + 1 ≤ q.iv 1; omega
   ·replace hj : (j : Int) < q.iv 11 + 1 := hj
    show ntAt q 3 j ≠ ntRd q 4
    by_cases h : j = (q.iv 11).toNat
    ·subst h; exact hne
    ·exact hI j (by omega)
   ·show (q.iv 1 - (q.iv 11 + 1)).toNat < (q.iv 1 - q.iv 11).toNat
    omega
 ·simp only [Da] at c
  exfalso
  unfold ntRow at hx
  obtain ⟨j, hj, he⟩ := List.mem_map.1 hx
  have := List.mem_range.1 hj
  exact hI j (by omega) he
theorem index_con : ConOK Tryd.prog indexCon indexPre indexPost :=
 con_ok tabOK (E := indexE) (cs := []) rfl (fun k pre post h => by cases h) schedOK rfl index_run (by kernel_rfl) (fun ρ _ p hp => by cases hp) index_sat
/-! ### Delete -/
def ntZero : List Value := [.int .i64 0, .int .i64 0, .int .i64 0, .int .i64 0, .bool false, .int .i64 0, .int .i64 0]
theorem note_size : (Tryd.prog.info? 82).map (·.size) = some 7 := by kernel_rfl
theorem run_clear1 (w : World) (ty : TypeId) (b o c : Nat) (hc : ∀ j, j < 7 → (w.cell? ⟨b, o + j, none⟩).isSome = true) (hf : ∀ j, j < 7 → w.frozen? ⟨b, o + j, none⟩ = false) :
  (Builtin.clear_ #[66] ty #[.slice (some ⟨b, o, none⟩) 1 c]).run Tryd.prog w = .ok (.tuple #[]) (w.setCells b o ntZero) := by
 have hst := run_storeCells_cells (P := Tryd.prog) b o ntZero 0 w (by simpa [ntZero] using hc) (by simpa [ntZero] using hf) (by intro v hv; simp [ntZero] at hv; rcases hv with rfl | rfl | rfl <;> rfl)
 simp only [Nat.add_zero] at hst
 have hz : (Builtin.zeroCells (Value.agg #[Value.int IntKind.i64 0, Value.int IntKind.i64 0, Value.int IntKind.i64 0, Value.int IntKind.i64 0, Value.bool false, Value.int IntKind.i64 0, Value.int IntKind.i64 0]).cells 1).toList = ntZero := by kernel_rfl
 simp [Builtin.clear_, run_underlying Tryd.underlying66, Tryd.zeroValue82, hz, hst]
theorem oneCell_int (n : Int) : (Value.int .i64 n).oneCell' = true := rfl
set_option maxHeartbeats 4000000 in
set_option maxRecDepth 1000000 in
theorem del_walk (b n cap i j : Nat) (hje : j = i + 1) (f : Nat → Value) (w : World) (hr : w.rowIs b 82 (cap * 7) f) (hj : j ≤ n) (hn : n ≤ cap) (hm : cap ≤ 9223372036854775807) (h1 : ∀ p, p < n * 7 → (f p).oneCell' = true) :
  Calls Tryd.prog 87 #[.slice (some ⟨b, 0, none⟩) n cap, .int .i64 i, .int .i64 j] w fun e w' => e = .returned (.slice (some ⟨b, 0, none⟩) (n - 1) cap) ∧
   w' = (w.drew.setCells b (i * 7) ((List.range ((n - j) * 7)).map fun t => f (j * 7 + t))).setCells b ((n - 1) * 7) ntZero := by
 have mixed : Tryd.prog.follows .mixedOrders = true := tabOK.mixed
 obtain ⟨i0, hi0, hz1⟩ : ∃ i0, Tryd.prog.info? 82 = some i0 ∧ i0.size = 7 := by
  have := note_size
  simpa using this
 have hij : i < j := by omega
 obtain ⟨news, hnews⟩ : ∃ news, news = (List.range ((n - j) * 7)).map fun t => f (j * 7 + t) := ⟨_, rfl⟩
 have hlen : news.length = (n - j) * 7 := by rw [hnews]; simp
 have hget : ∀ t, t < (n - j) * 7 → news[t]? = some (f (j * 7 + t)) := by
  intro t ht
  rw [hnews, List.getElem?_map, List.getElem?_range ht]
  rfl
 have hcell : ∀ p, p < cap * 7 → w.drew.cell? ⟨b, p, none⟩ = some (f p) := fun p hp => hr.cell hp
 have hfroz : ∀ p, p < cap * 7 → w.drew.frozen? ⟨b, p, none⟩ = false := fun p hp => hr.frozen p
 obtain ⟨A, hA, hsrc⟩ : ∃ A : Addr, (if cap = j then some (⟨b, 0, none⟩ : Addr) else some ⟨b, j * 7, none⟩) = some A ∧ Hid (∀ t u, news[t]? = some u → w.drew.cell? (A.add t) = some u) := by
  by_cases h : cap = j
  ·refine ⟨⟨b, 0, none⟩, by simp [h], fun t u hu => ?_⟩
   have h0 : news.length = 0 := by rw [hlen]; omega
   rw [List.length_eq_zero_iff.1 h0] at hu
   simp at hu
  ·refine ⟨⟨b, j * 7, none⟩, by simp [h], fun t u hu => ?_⟩
   have ht : t < (n - j) * 7 := by
    have := (List.getElem?_eq_some_iff.1 hu).1
    rwa [hlen] at this
   rw [hget t ht] at hu
   rw [Addr.add_lit]
   exact (hcell _ (by omega)).trans hu
 have s1 : Hid (news.length = (n - j) * 7) := hlen
 have s2 : Hid (∀ u ∈ news, u.oneCell' = true) := by
  intro u hu
  rw [hnews] at hu
  obtain ⟨x, hx, rfl⟩ := List.mem_map.1 hu
  have := List.mem_range.1 hx
  exact h1 _ (by omega)
 have s3 : Hid (∀ t, t < news.length → (w.drew.cell? ⟨b, 0 + i * 7 + t, none⟩).isSome = true ∧ w.drew.frozen? ⟨b, 0 + i * 7 + t, none⟩ = false) := by
  intro t ht
  rw [hlen] at ht
  rw [Nat.zero_add]
  exact ⟨by rw [hcell _ (by omega)]; rfl, hfroz _ (by omega)⟩
 obtain ⟨W1, hW1⟩ : ∃ W1, W1 = w.drew.setCells b (0 + i * 7) news := ⟨_, rfl⟩
 have hr1 := rowIs_setCells news (0 + i * 7) w.drew f hr.drew
 rw [← hW1] at hr1
 have hcl : ∀ ty, (Builtin.clear_ #[66] ty #[.slice (some ⟨b, (i + (n - j)) * 7, none⟩) (n - (i + (n - j))) (cap - (i + (n - j)))]).run Tryd.prog W1 = .ok (.tuple #[]) (W1.setCells b ((n - 1) * 7) ntZero) := by
  intro ty
  rw [show n - (i + (n - j)) = 1 by omega, show i + (n - j) = n - 1 by omega]
  exact run_clear1 W1 ty b ((n - 1) * 7) _ (fun t ht => by rw [hr1.cell (by omega)]; rfl) (fun t ht => hr1.frozen _)
 have hW : Hid (W1 = w.drew.setCells b (0 + i * 7) news) := hW1
 have X : Hid (W1 = w.drew.setCells b (i * 7) ((List.range ((n - j) * 7)).map fun t => f (j * 7 + t))) := by
  show W1 = _
  rw [← hnews, hW1, Nat.zero_add]
 have hic : i ≤ cap := by omega
 have hjc : j ≤ cap := by omega
 have Y : Hid (j = i + 1) := hje
 clear hW1 hr1 hget hnews hlen hcell hfroz hr h1 hje
 go_enter Tryd.func87, Tryd.ntmps87
 go_wp2_with fail
 go_region_law_o (refine step_append_room rfl (.tmp 22) (.tmp 25) 66 rfl 82 i0 7 Tryd.underlying66 hi0 hz1 b 0 i cap (by simp [Act.eval, Act.put]) A (n - j) (cap - j) news (by simp [Act.eval, Act.put]) s1.out hsrc.out s2.out (by omega) s3.out ?_; rw [← hW.out])
 go_wp2
 go_ret
 refine ⟨?_, ?_⟩
 ·have := Y.out
  rw [show n - 1 = i + (n - j) by omega]
  rfl
 ·rw [← X.out]
theorem setCells_wrt (b : Nat) : ∀ (vs : List Value) (o : Nat) (w : World), (w.setCells b o vs).os = w.os ∧ (w.setCells b o vs).tape = w.tape ∧ (w.setCells b o vs).output = w.output ∧ (w.setCells b o vs).heap.size = w.heap.size ∧ ∀ k, k ≠ b → (w.setCells b o vs).heap[k]? = w.heap[k]?
 | [], _, _ => ⟨rfl, rfl, rfl, rfl, fun _ _ => rfl⟩
 | v :: r, o, w => by
  obtain ⟨h1, h2, h3, h4, h5⟩ := setCells_wrt b r (o + 1) (w.setCell ⟨b, o, none⟩ v)
  refine ⟨h1, h2, h3, h4.trans (by simp [World.setCell]), fun k hk => (h5 k hk).trans ?_⟩
  simp only [World.setCell]
  rw [Array.getElem?_modify, if_neg (fun h => hk h.symm)]
def deletePre (ρ : Env) : Prop := OkSl ρ 0 ∧ (0 ≤ ρ.iv 4 ∧ ρ.iv 4 < ρ.iv 1) ∧ ρ.iv 5 = ρ.iv 4 + 1
def deletePost (ρ : Env) : Prop := ntRow ρ 6 (ρ.iv 1 - 1) = (ntRow ρ 3 (ρ.iv 1)).take (ρ.iv 4).toNat ++ (ntRow ρ 3 (ρ.iv 1)).drop ((ρ.iv 4).toNat + 1)
def delEnv (ρ : Env) : Env where
 iv := ρ.iv
 bv := ρ.bv
 vv := ρ.vv
 ic := fun r => if r = 6 then fun a _ c => if a < (ρ.iv 4).toNat then ρ.ic 3 a 0 c else ρ.ic 3 (a + 1) 0 c else ρ.ic r
 bc := fun r => if r = 6 then fun a _ c => if a < (ρ.iv 4).toNat then ρ.bc 3 a 0 c else ρ.bc 3 (a + 1) 0 c else ρ.bc r
 vc := ρ.vc
theorem delEnv_post {ρ : Env} (h : deletePre ρ) : deletePost (delEnv ρ) := by
 obtain ⟨o, ⟨i1, i2⟩, i3⟩ := h
 show ntRow (delEnv ρ) 6 (ρ.iv 1 - 1) = (ntRow (delEnv ρ) 3 (ρ.iv 1)).take (ρ.iv 4).toNat ++ (ntRow (delEnv ρ) 3 (ρ.iv 1)).drop ((ρ.iv 4).toNat + 1)
 have e3 : ∀ i, ntAt (delEnv ρ) 3 i = ntAt ρ 3 i := fun i => rfl
 have e6 : ∀ i, ntAt (delEnv ρ) 6 i = if i < (ρ.iv 4).toNat then ntAt ρ 3 i else ntAt ρ 3 (i + 1) := fun i => by
  by_cases h : i < (ρ.iv 4).toNat
  ·simp only [ntAt, mkW, delEnv, if_true, if_pos h]
  ·simp only [ntAt, mkW, delEnv, if_true, if_neg h]
 refine List.ext_getElem? fun k => ?_
 by_cases hk : (k : Int) < ρ.iv 1 - 1
 ·rw [ntRow_get hk, e6]
  by_cases h : k < (ρ.iv 4).toNat
  ·rw [if_pos h, List.getElem?_append_left (by rw [List.length_take, ntRow_len]; omega), List.getElem?_take, if_pos h, ntRow_get (by omega), e3]
  ·have hl : ((ntRow (delEnv ρ) 3 (ρ.iv 1)).take (ρ.iv 4).toNat).length = (ρ.iv 4).toNat := by rw [List.length_take, ntRow_len]; omega
   rw [if_neg h, List.getElem?_append_right (by rw [hl]; omega), hl, List.getElem?_drop, show (ρ.iv 4).toNat + 1 + (k - (ρ.iv 4).toNat) = k + 1 by omega, ntRow_get (by omega), e3]
 ·rw [List.getElem?_eq_none (by rw [ntRow_len]; omega), List.getElem?_eq_none (by rw [List.length_append, List.length_take, List.length_drop, ntRow_len]; omega)]
theorem ks_one (ρ : Env) (r a c : Nat) (i1 i2 j : Nat) (g : Seg) (hg : g.ks = kN) (hj : j < 7) : (g.base ρ i1 i2 j).oneCell' = true := by
 unfold Seg.base
 rw [hg]
 match j, hj with
 | 0, _ => rfl
 | 1, _ => rfl
 | 2, _ => rfl
 | 3, _ => rfl
 | 4, _ => rfl
 | 5, _ => rfl
 | 6, _ => rfl
set_option maxRecDepth 4000 in
set_option maxHeartbeats 400000 in
theorem delete_con : ConOK Tryd.prog deleteCon deletePre deletePost := by
 refine ⟨⟨_, Tryd.func87, by kernel_rfl, by kernel_rfl⟩, fun ρ ν w hhp _ hpre => ?_⟩
 replace hpre : deletePre ρ := hpre
 have hpre' := hpre
 obtain ⟨⟨n0, n1, n2, n3⟩, ⟨i1, i2⟩, i3⟩ := hpre
 replace n0 : ρ.bv 0 = true → ρ.iv 1 = 0 := n0
 replace n1 : 0 ≤ ρ.iv 1 := n1
 replace n2 : ρ.iv 1 ≤ ρ.iv 2 := n2
 replace n3 : ρ.iv 2 ≤ 9223372036854775807 := n3
 have hb : ρ.bv 0 = false := by
  cases h : ρ.bv 0
  ·rfl
  ·have := n0 h; omega
 obtain ⟨hν, cs, hobj, hhas⟩ := hhp.blk 0 _ rfl (by simp [outB, SB.dead, BE.den, hb]) rfl
 replace hobj := hobj.cells rfl
 obtain ⟨-, hsz⟩ := hhas.cap (.var 2) 7 rfl
 replace hsz : cs.size = (ρ.iv 2).toNat * 7 := hsz
 have hsg := hhas.sg 0 _ rfl
 generalize hbk : (ν 0).block = b at *
 have hcell : ∀ a c : Nat, (a : Int) < ρ.iv 1 → c < 7 → cs[a * 7 + c]? = some (({ r := 3, n1 := .var 1, s1 := 7, ks := kN } : Seg).base ρ a 0 c) := fun a c ha hc => by
  have := hsg a 0 c ha (by decide) hc
  rw [show a * 7 + c = a * 7 + 0 * 0 + 0 + c by omega]
  exact this
 have hrow : w.rowIs b 82 ((ρ.iv 2).toNat * 7) (fun p => cs[p]?.getD default) := ⟨cs, hobj, hsz, fun p hp => by
   show cs[p]? = some (cs[p]?.getD default)
   rw [Array.getElem?_eq_getElem (by omega)]
   rfl⟩
 have hwalk := del_walk b (ρ.iv 1).toNat (ρ.iv 2).toNat (ρ.iv 4).toNat (ρ.iv 5).toNat (by omega) _ w hrow (by omega) (by omega) (by omega) (fun p hp => by
   have h7 := Nat.div_add_mod p 7
   have hm7 := Nat.mod_lt p (show 0 < 7 by decide)
   have := hcell (p / 7) (p % 7) (by omega) hm7
   rw [show p / 7 * 7 + p % 7 = p by omega] at this
   simp only [this, Option.getD_some]
   exact ks_one ρ 0 0 0 _ _ _ _ rfl hm7)
 have hargs : (deleteCon.args.map (·.den ρ ν)).toArray = #[.slice (some ⟨b, 0, none⟩) (ρ.iv 1).toNat (ρ.iv 2).toNat, .int .i64 (ρ.iv 4).toNat, .int .i64 (ρ.iv 5).toNat] := by
  have e4 : ((ρ.iv 4).toNat : Int) = ρ.iv 4 := Int.toNat_of_nonneg i1
  have e5 : ((ρ.iv 5).toNat : Int) = ρ.iv 5 := Int.toNat_of_nonneg (by omega)
  rw [e4, e5]
  simp [deleteCon, rowW, slC, SW.den, SC.den, SA.den, SA.off, IE.den, BE.den, hb, iv, hν, Addr.add]
 rw [hargs]
 have hf : deleteCon.f = 87 := rfl
 rw [hf]
 refine hwalk.mono ?_
 clear hwalk hargs hf
 intro e w' hw
 obtain ⟨he, hw⟩ := hw
 -- the row behind it
 have hr1 := rowIs_setCells ((List.range (((ρ.iv 1).toNat - (ρ.iv 5).toNat) * 7)).map fun t => (fun p => cs[p]?.getD default) ((ρ.iv 5).toNat * 7 + t)) ((ρ.iv 4).toNat * 7) w.drew _ hrow.drew
 have hr2 := rowIs_setCells ntZero (((ρ.iv 1).toNat - 1) * 7) _ _ hr1
 rw [← hw] at hr2
 obtain ⟨cs', hc1, hc2, hc3⟩ := hr2
 have hA : Agr deleteCon.nv deleteCon.hp.length ρ (delEnv ρ) ν ν := by
  refine ⟨fun i hi => rfl, fun i hi => rfl, fun i hi => rfl, fun i hi => ?_, fun i hi => ?_, fun i hi => rfl, fun i hi => rfl⟩
  ·exact if_neg (fun h : i = 6 => absurd hi (by rw [h]; decide))
  ·exact if_neg (fun h : i = 6 => absurd hi (by rw [h]; decide))
 have hw1 := setCells_wrt b ((List.range (((ρ.iv 1).toNat - (ρ.iv 5).toNat) * 7)).map fun t => (fun p => cs[p]?.getD default) ((ρ.iv 5).toNat * 7 + t)) ((ρ.iv 4).toNat * 7) w.drew
 have hw2 := setCells_wrt b ntZero (((ρ.iv 1).toNat - 1) * 7) (w.drew.setCells b ((ρ.iv 4).toNat * 7) ((List.range (((ρ.iv 1).toNat - (ρ.iv 5).toNat) * 7)).map fun t => (fun p => cs[p]?.getD default) ((ρ.iv 5).toNat * 7 + t)))
 rw [← hw] at hw2
 obtain ⟨a1, a2, a3, a4, a5⟩ := hw1
 obtain ⟨b1, b2, b3, b4, b5⟩ := hw2
 have hown : ownW ρ ν deleteCon.hp b := ⟨0, _, rfl, rfl, by simp [outB, SB.dead, BE.den, hb], hbk.symm⟩
 refine ⟨delEnv ρ, ν, hA, ?_, ⟨fun i j x y hi hj dx dy rx he' => ?_, fun k sb hk hd hro => ?_, fun k sb hk hd hro => ?_⟩, ⟨b1.trans a1, b2.trans a2, b3.trans a3, by rw [b4, a4]; exact Nat.le_refl _, fun k hk hn => ?_⟩, fun k sb hk ho hd => ?_, delEnv_post hpre'⟩
 ·rw [he]
  have e1 : (ρ.iv 1 - 1).toNat = (ρ.iv 1).toNat - 1 := by omega
  simp [deleteCon, SV.den, SW.den, SC.den, SA.den, SA.off, IE.den, BE.den, delEnv, hb, hν, Addr.add, -Int.pred_toNat, e1]
 ·have ht : i = 0 ∧ j = 0 := by
   have l1 := (List.getElem?_eq_some_iff.1 hi).1
   have l2 := (List.getElem?_eq_some_iff.1 hj).1
   simp [deleteCon] at l1 l2
   omega
  rw [ht.1, ht.2]
 ·have ht : k = 0 := by
   have l1 := (List.getElem?_eq_some_iff.1 hk).1
   simp [deleteCon] at l1
   exact l1
  subst ht
  simp [deleteCon] at hk
  subst hk
  refine ⟨by rw [hbk]; exact hν, cs', by rw [hbk, hc1]; exact IsObj.of_cells rfl, ⟨fun u hu => (by cases hu), fun h => (by cases h), fun e n h => ?_, fun p c h => (by simp at h), fun gi g hg x1 x2 j h1 h2 h3 => ?_⟩⟩
  ·cases h
   exact ⟨by show 0 ≤ ρ.iv 2; omega, hc2⟩
  ·have hgi : gi = 0 := by
    have l1 := (List.getElem?_eq_some_iff.1 hg).1
    simpa using l1
   subst hgi
   simp at hg
   subst hg
   replace h1 : (x1 : Int) < ρ.iv 1 - 1 := h1
   replace h2 : x2 < 1 := h2
   replace h3 : j < 7 := h3
   obtain rfl : x2 = 0 := by omega
   show cs'[x1 * 7 + 0 * 0 + 0 + j]? = some (Seg.base (delEnv ρ) { r := 6, n1 := .sub (.var 1) (.lit 1), s1 := 7, ks := kN } x1 0 j)
   rw [show x1 * 7 + 0 * 0 + 0 + j = x1 * 7 + j by omega, hc3 _ (by omega)]
   dsimp only
   have eb : ∀ y : Nat, y = (if x1 < (ρ.iv 4).toNat then x1 else x1 + 1) → Seg.base (delEnv ρ) { r := 6, n1 := .sub (.var 1) (.lit 1), s1 := 7, ks := kN } x1 0 j = Seg.base ρ { r := 3, n1 := .var 1, s1 := 7, ks := kN } y 0 j := by
    intro y hy
    subst hy
    by_cases h : x1 < (ρ.iv 4).toNat
    ·rw [if_pos h]
     match j, h3 with
     | 0, _ | 1, _ | 2, _ | 3, _ | 4, _ | 5, _ | 6, _ => simp [Seg.base, delEnv, kN, -Int.lt_toNat, h]
    ·rw [if_neg h]
     match j, h3 with
     | 0, _ | 1, _ | 2, _ | 3, _ | 4, _ | 5, _ | 6, _ => simp [Seg.base, delEnv, kN, -Int.lt_toNat, h]
   rw [if_neg (by omega)]
   by_cases h : x1 < (ρ.iv 4).toNat
   ·rw [if_neg (by omega)]
    show some (cs[x1 * 7 + j]?.getD default) = _
    rw [hcell x1 j (by omega) h3, eb x1 (if_pos h).symm]
    rfl
   ·rw [if_pos (by simp only [List.length_map, List.length_range]; omega), List.getElem?_map, List.getElem?_range (by omega)]
    show some (cs[(ρ.iv 5).toNat * 7 + (x1 * 7 + j - (ρ.iv 4).toNat * 7)]?.getD default) = _
    rw [show (ρ.iv 5).toNat * 7 + (x1 * 7 + j - (ρ.iv 4).toNat * 7) = (x1 + 1) * 7 + j by omega, hcell (x1 + 1) j (by omega) h3, eb (x1 + 1) (if_neg h).symm]
    rfl
 ·have ht : k = 0 := by
   have l1 := (List.getElem?_eq_some_iff.1 hk).1
   simp [deleteCon] at l1
   exact l1
  subst ht
  simp [deleteCon] at hk
  subst hk
  cases hro
 ·have hkb : k ≠ b := fun h => hn (h ▸ hown)
  rw [b5 k hkb, a5 k hkb]
  rfl
 ·have ht : k = 0 := by
   have l1 := (List.getElem?_eq_some_iff.1 hk).1
   simp [deleteCon] at l1
   exact l1
  subst ht
  rw [hbk]
  exact .inr hown
end Go.Proofs.YthomdlajobnmnaaDoor
