/- the document's 'Rows': what it leaves -/
import Derived.Test.YtjhnfmfajbghbaaDoorXRows
import Derived.Test.YtjhnfmfajbghbaaDoorRexZ0
set_option linter.unusedSimpArgs false
set_option linter.unusedVariables false
namespace Go.Proofs.YtjhnfmfajbghbaaDoor
open Go.Rex
noncomputable def underE : Ex := { sched := sched, loops := [L27], fin := underCon }
def underOut : Out :=
  .loop 5 { lo := 5, lob := 1, iv := [(5, (.lit 0))] } <|
   .ob (.or (.not (.var 0)) (.ieq (.var 1) (.lit 0))) <|
   .ob (.ile (.lit 0) (.var 1)) <|
   .br (.ilt (.var 5) (.var 1))
   (.ob (.not (.var 0)) <|
    .ob (.ile (.lit 0) (.var 5)) <|
    .br (.and (.ieq (.cell 3 (.var 5) (.lit 0) 0) (.var 4)) (.not (.cell 3 (.var 5) (.lit 0) 9)))
    (.fin { lo := 5, lob := 1, iv := [(5, (.var 5))] })
    (.ob (.inr .i64 (.add (.var 5) (.lit 1))) <|
     .back 0 { lo := 5, lob := 1, iv := [(5, (.add (.var 5) (.lit 1)))] }))
   (.fin { lo := 5, lob := 1, iv := [(5, (.lit (-1)))] })
theorem under_run : exec tab underE 8000 [] (cfg0 27 5 [] [] underCon.hp underCon.args) = underOut := by kernel_rfl
def underV (rows : List Rw) (t : Int) : Int := match openAt rows t with | some k => (k : Int) | none => -1
def underPre (ρ : Env) : Prop := OkSl ρ 0
def underPost (ρ : Env) : Prop := ρ.iv 5 = underV (recs mkRw ρ 0) (ρ.iv 4)
def underInv (ρ : Env) : Prop := (0 ≤ ρ.iv 5 ∧ ρ.iv 5 ≤ ρ.iv 1) ∧ ∀ j : Nat, (j : Int) < ρ.iv 5 → isOpen (ρ.iv 4) (recAt mkRw ρ 3 j) = false
theorem under_at {ρ : Env} {k : Nat} (hk : k < (ρ.iv 1).toNat) (h1 : isOpen (ρ.iv 4) (recAt mkRw ρ 3 k) = true) (h2 : ∀ j, j < k → isOpen (ρ.iv 4) (recAt mkRw ρ 3 j) = false) : openAt (recs mkRw ρ 0) (ρ.iv 4) = some k := by
  unfold openAt
  have hl : k < (recs mkRw ρ 0).length := by rw [recs_length]; exact hk
  refine List.findIdx?_eq_some_iff_getElem.2 ⟨hl, ?_, fun j hj => ?_⟩
  · simpa [recs] using h1
  · simpa [recs] using h2 j hj
theorem under_no {ρ : Env} (h2 : ∀ j, j < (ρ.iv 1).toNat → isOpen (ρ.iv 4) (recAt mkRw ρ 3 j) = false) : openAt (recs mkRw ρ 0) (ρ.iv 4) = none := by
  unfold openAt
  refine List.findIdx?_eq_none_iff.2 fun x hx => ?_
  simp only [recs, List.mem_map, List.mem_range] at hx
  obtain ⟨j, hj, rfl⟩ := hx
  exact h2 j (by simpa using hj)
theorem under_sat (ρ : Env) (hpre : underPre ρ.num) : Sat underPost [] [] ρ underOut := by
  replace hpre : underPre ρ := hpre
  unfold underOut
  refine Sat.loopK underInv (fun r => (r.iv 1 - r.iv 5).toNat) underPre ?_ (fun _ => hpre) fun r hp hI => Sat.ob (nilOb hp) (Sat.ob (decide_eq_true hp.2.1) (Sat.br (fun hlt => ?_) (fun hge => ?_)))
  · have h2 := hpre.2.1
    refine ⟨⟨Int.le_refl 0, h2⟩, fun j hj => ?_⟩
    have : (j : Int) < 0 := hj
    omega
  · replace hI : underInv r := hI
    replace hlt : r.iv 5 < r.iv 1 := of_decide_eq_true hlt
    rw [show (r.num.iv 1 - r.num.iv 5).toNat = (r.iv 1 - r.iv 5).toNat from rfl]
    obtain ⟨⟨i1, i2⟩, i3⟩ := hI
    have hm : (r.iv 1 - (r.iv 5 + 1)).toNat < (r.iv 1 - r.iv 5).toNat := by omega
    obtain ⟨q1, q2, q3, q4⟩ := id hp
    simp only [Nat.zero_add] at q2 q3 q4
    refine Sat.ob (nilLt hp (by simp only [Nat.zero_add]; omega)) (Sat.ob (decide_eq_true i1) (Sat.br (fun hb => ?_) (fun hb => ?_)))
    · have hb1 : isOpen (r.iv 4) (recAt mkRw r 3 (r.iv 5).toNat) = true := by
        simp [BE.den, IE.den] at hb
        simp [isOpen, recAt, mkRw, hb]
      refine Sat.fin ?_
      show r.iv 5 = underV (recs mkRw r 0) (r.iv 4)
      unfold underV
      rw [under_at (k := (r.iv 5).toNat) (by omega) hb1 fun j hj => i3 j (by omega)]
      simp only
      omega
    · have hb1 : isOpen (r.iv 4) (recAt mkRw r 3 (r.iv 5).toNat) = false := by
        have hb' : r.ic 3 (r.iv 5).toNat 0 0 = r.iv 4 → r.bc 3 (r.iv 5).toNat 0 9 = true := by simpa [BE.den, IE.den] using hb
        by_cases h : r.ic 3 (r.iv 5).toNat 0 0 = r.iv 4
        · simp [isOpen, recAt, mkRw, h, hb' h]
        · simp [isOpen, recAt, mkRw, h]
      refine Sat.ob (by simp only [D.le, D.lef, D.lt, D.ltf, D.eq, D.eqf, D.not, D.notf, D.and, D.andf, D.or, D.orf, D.inr, D.var, D.lit, D.cellB, D.beq, D.beqf, D.litI, D.varI, D.add, D.sub, D.mul, D.min, D.max, D.cellI, D.i64min, D.i64max, Int.toNat_zero]; omega) (Sat.back rfl ⟨⟨⟨?_, ?_⟩, fun j hj => ?_⟩, hm⟩)
      · show 0 ≤ r.iv 5 + 1
        omega
      · show r.iv 5 + 1 ≤ r.iv 1
        omega
      · replace hj : (j : Int) < r.iv 5 + 1 := hj
        show isOpen (r.iv 4) (recAt mkRw r 3 j) = false
        by_cases h : (j : Int) < r.iv 5
        · exact i3 j h
        · rw [show j = (r.iv 5).toNat by omega]
          exact hb1
  · replace hge : ¬ r.iv 5 < r.iv 1 := of_decide_eq_false hge
    replace hI : underInv r := hI
    obtain ⟨⟨i1, i2⟩, i3⟩ := hI
    refine Sat.fin ?_
    show (-1 : Int) = underV (recs mkRw r 0) (r.iv 4)
    unfold underV
    rw [under_no fun j hj => i3 j (by omega)]
theorem under_con : ConOK Tryd.prog underCon underPre underPost :=
  con_ok tabOK (E := underE) (cs := []) rfl (fun k pre post h => by cases h) schedOK rfl under_run (by kernel_rfl) (fun ρ _ p hp => by cases hp) under_sat
end Go.Proofs.YtjhnfmfajbghbaaDoor

set_option linter.unusedSimpArgs false
set_option linter.unusedVariables false
namespace Go.Proofs.YtjhnfmfajbghbaaDoor
open Go.Rex
noncomputable def rrowsE : Ex := { sched := sched, loops := [L16], cons := [underCon], fin := rRowsCon }
def rrowsOut : Out :=
  .loop 4 { lo := 4, lob := 2, iv := [(8, (.lit 0)), (6, (.lit 0)), (5, (.lit 0))], bv := [(4, (.lit false))], ct := [(7, .ex [] 10 0 0)], bk := [(2, { blk := 1, i1 := (.lit 0), s1 := 10 })] } <|
   .ob (.or (.not (.var 0)) (.ieq (.var 1) (.lit 0))) <|
   .ob (.ile (.lit 0) (.var 1)) <|
   .br (.ilt (.var 8) (.var 1))
   (.ob (.not (.var 0)) <|
    .ob (.ile (.lit 0) (.var 8)) <|
    .call 0 { lo := 0, lob := 0, iv := [(4, (.cell 3 (.var 8) (.lit 0) 0)), (2, (.var 6)), (1, (.var 5))], bv := [(0, (.var 4))], ct := [(3, .up { r := 7, n1 := (.var 5), s1 := 10, ks := [.int .i64, .int .i64, .int .i64, .int .i64, .int .i64, .int .i64, .int .i64, .int .i64, .int .i64, .bool] } 0 [] (.lit 0))], bk := [(0, { blk := 2, i1 := (.lit 0), s1 := 10 })] } 9 <|
    .br (.not (.and (.cell 3 (.var 8) (.lit 0) 1) (.not (.and (.ieq (.cell 3 (.var 8) (.lit 0) 6) (.lit 0)) (.ieq (.cell 3 (.var 8) (.lit 0) 7) (.lit 0))))))
    (.br (.not (.cell 3 (.var 8) (.lit 0) 1))
     (.br (.not (.and (.ieq (.cell 3 (.var 8) (.lit 0) 2) (.lit 0)) (.and (.ieq (.cell 3 (.var 8) (.lit 0) 3) (.lit 0)) (.and (.ieq (.cell 3 (.var 8) (.lit 0) 4) (.lit 0)) (.ieq (.cell 3 (.var 8) (.lit 0) 5) (.lit 0))))))
      (.fin { lo := 4, lob := 1, iv := [(8, (.lit 1)), (6, (.lit 0)), (5, (.lit 0))], bv := [(4, (.lit true))], nb := [1] })
      (.br (.beq (.cell 3 (.var 8) (.lit 0) 1) (.ile (.lit 0) (.var 9)))
       (.fin { lo := 4, lob := 1, iv := [(8, (.lit 5)), (6, (.lit 0)), (5, (.lit 0))], bv := [(4, (.lit true))], nb := [1] })
       (.ob (.not (.var 4)) <|
        .ob (.ile (.lit 0) (.var 9)) <|
        .ob (.ilt (.var 9) (.var 5)) <|
        .ob (.inr .i64 (.add (.var 8) (.lit 1))) <|
        .back 0 { lo := 4, lob := 2, iv := [(8, (.add (.var 8) (.lit 1))), (6, (.var 6)), (5, (.var 5))], bv := [(4, (.var 4))], ct := [(7, .up { r := 7, n1 := (.var 5), s1 := 10, ks := [.int .i64, .int .i64, .int .i64, .int .i64, .int .i64, .int .i64, .int .i64, .int .i64, .int .i64, .bool] } 0 [⟨0, (.var 9), (.lit 0), 6, .int .i64 (.cell 3 (.var 8) (.lit 0) 7)⟩, ⟨0, (.var 9), (.lit 0), 5, .int .i64 (.cell 3 (.var 8) (.lit 0) 6)⟩, ⟨0, (.var 9), (.lit 0), 9, .bool (.lit true)⟩, ⟨0, (.var 9), (.lit 0), 8, .int .i64 (.var 8)⟩] (.lit 0))], bk := [(2, { blk := 2, i1 := (.lit 0), s1 := 10 })] })))
     (.br (.beq (.cell 3 (.var 8) (.lit 0) 1) (.ile (.lit 0) (.var 9)))
      (.fin { lo := 4, lob := 1, iv := [(8, (.lit 5)), (6, (.lit 0)), (5, (.lit 0))], bv := [(4, (.lit true))], nb := [1] })
      (.ob (.ile (.mul (.add (.var 5) (.lit 1)) (.lit 80)) (.lit 140737488355328)) <|
       .ob (.ile (.lit 0) (.var 5)) <|
       .ob (.ile (.var 5) (.var 6)) <|
       .ob (.ile (.var 6) (.lit 9223372036854775807)) <|
       .ob (.or (.not (.var 4)) (.ieq (.var 5) (.lit 0))) <|
       .new 10 [.be (.and (.ile (.add (.var 5) (.lit 1)) (.var 10)) (.ile (.var 10) (.lit 9223372036854775807)))] <|
       .ob (.inr .i64 (.add (.var 8) (.lit 1))) <|
       .back 0 { lo := 4, lob := 2, iv := [(8, (.add (.var 8) (.lit 1))), (6, (.var 10)), (5, (.add (.var 5) (.lit 1)))], bv := [(4, (.lit false))], ct := [(7, .up { r := 7, n1 := (.add (.var 5) (.lit 1)), s1 := 10, ks := [.int .i64, .int .i64, .int .i64, .int .i64, .int .i64, .int .i64, .int .i64, .int .i64, .int .i64, .bool] } 0 [⟨0, (.var 5), (.lit 0), 0, .int .i64 (.cell 3 (.var 8) (.lit 0) 0)⟩, ⟨0, (.var 5), (.lit 0), 1, .int .i64 (.cell 3 (.var 8) (.lit 0) 2)⟩, ⟨0, (.var 5), (.lit 0), 2, .int .i64 (.cell 3 (.var 8) (.lit 0) 3)⟩, ⟨0, (.var 5), (.lit 0), 3, .int .i64 (.cell 3 (.var 8) (.lit 0) 4)⟩, ⟨0, (.var 5), (.lit 0), 4, .int .i64 (.cell 3 (.var 8) (.lit 0) 5)⟩, ⟨0, (.var 5), (.lit 0), 5, .int .i64 (.lit 0)⟩, ⟨0, (.var 5), (.lit 0), 6, .int .i64 (.lit 0)⟩, ⟨0, (.var 5), (.lit 0), 7, .int .i64 (.var 8)⟩, ⟨0, (.var 5), (.lit 0), 8, .int .i64 (.lit 0)⟩, ⟨0, (.var 5), (.lit 0), 9, .bool (.lit false)⟩] (.lit 0))], bk := [(2, { blk := 5, i1 := (.lit 0), s1 := 10 })] })))
    (.fin { lo := 4, lob := 1, iv := [(8, (.lit 1)), (6, (.lit 0)), (5, (.lit 0))], bv := [(4, (.lit true))], nb := [1] }))
   (.fin { lo := 4, lob := 1, iv := [(8, (.lit 0)), (6, (.var 6)), (5, (.var 5))], bv := [(4, (.var 4))], ct := [(7, .up { r := 7, n1 := (.var 5), s1 := 10, ks := [.int .i64, .int .i64, .int .i64, .int .i64, .int .i64, .int .i64, .int .i64, .int .i64, .int .i64, .bool] } 0 [] (.lit 0))], bk := [(1, { blk := 2, i1 := (.lit 0), s1 := 10 })] })
theorem rrows_run : exec tab rrowsE 8000 [] (cfg0 16 4 [] [] rRowsCon.hp rRowsCon.args) = rrowsOut := by kernel_rfl
def rrPre (ρ : Env) : Prop := OkSl ρ 0 ∧ ρ.iv 1 ≤ 1000000
def rrPost (ρ : Env) : Prop := ρ.iv 8 = errOf (recs mkEv ρ 0) ∧ OkSl ρ 4 ∧ (ρ.iv 8 = 0 → rowsOf (recs mkEv ρ 0) = some (recs mkRw ρ 4)) ∧ (ρ.iv 8 ≠ 0 → ρ.iv 5 = 0)
def rrInv (ρ : Env) : Prop := (0 ≤ ρ.iv 8 ∧ ρ.iv 8 ≤ ρ.iv 1) ∧ OkSl ρ 4 ∧ rowsOf ((recs mkEv ρ 0).take (ρ.iv 8).toNat) = some (recs mkRw ρ 4) ∧ Uniq (recs mkRw ρ 4)
def rrAt (ρ : Env) : Prop := rrPre ρ ∧ rrInv ρ ∧ ρ.iv 8 < ρ.iv 1
theorem rrAt.len {ρ : Env} (h : rrAt ρ) : ρ.iv 5 ≤ ρ.iv 8 := by
  obtain ⟨_, ⟨⟨i1, i2⟩, o, n, _⟩, hlt⟩ := h
  have := rowsOf_len n
  rw [recs_length, List.length_take, recs_length] at this
  have := o.2.1
  simp only [Nat.reduceAdd] at *
  omega
theorem rrAt.take {ρ : Env} (h : rrAt ρ) : rowsOf ((recs mkEv ρ 0).take (ρ.iv 8 + 1).toNat) = stepRows (ρ.iv 8) (recs mkRw ρ 4) (recAt mkEv ρ 3 (ρ.iv 8).toNat) := by
  obtain ⟨_, ⟨⟨i1, i2⟩, o, n, _⟩, hlt⟩ := h
  rw [show (ρ.iv 8 + 1).toNat = (ρ.iv 8).toNat + 1 by omega, recs_take (by simp only [Nat.zero_add]; omega), rowsOf_snoc, n]
  simp only [Option.bind_some]
  rw [List.length_take, recs_length]
  simp only [Nat.zero_add]
  rw [show ((min (ρ.iv 8).toNat (ρ.iv 1).toNat : Nat) : Int) = ρ.iv 8 by omega]
/-- a step that ends in an error -/
theorem rrAt.bad {ρ : Env} (h : rrAt ρ) (hs : stepRows (ρ.iv 8) (recs mkRw ρ 4) (recAt mkEv ρ 3 (ρ.iv 8).toNat) = none) : rowsOf (recs mkEv ρ 0) = none := by
  have h1 := h.take
  rw [hs] at h1
  have := rowsOf_none h1 ((recs mkEv ρ 0).drop (ρ.iv 8 + 1).toNat)
  rwa [List.take_append_drop] at this
theorem rrAt.step {ρ ρ' : Env} (h : rrAt ρ) (h1 : ρ'.iv 1 = ρ.iv 1) (h3 : ρ'.ic 3 = ρ.ic 3) (h4 : ρ'.bc 3 = ρ.bc 3) (h8 : ρ'.iv 8 = ρ.iv 8 + 1) (ho : OkSl ρ' 4)
    (hs : stepRows (ρ.iv 8) (recs mkRw ρ 4) (recAt mkEv ρ 3 (ρ.iv 8).toNat) = some (recs mkRw ρ' 4)) (hu : Uniq (recs mkRw ρ' 4)) : rrInv ρ' := by
  have ht := h.take
  obtain ⟨_, ⟨⟨i1, i2⟩, o, n, _⟩, hlt⟩ := h
  have e : recs mkEv ρ' 0 = recs mkEv ρ 0 := recs_same (by simpa using h1) fun i _ => by simp [recAt, h3, h4]
  refine ⟨⟨by omega, by omega⟩, ho, ?_, hu⟩
  rw [e, h8, ht, hs]
theorem rrAt.err {ρ : Env} (h : rrAt ρ) (hs : stepRows (ρ.iv 8) (recs mkRw ρ 4) (recAt mkEv ρ 3 (ρ.iv 8).toNat) = none) : errOf (recs mkEv ρ 0) = if wrongEv (recAt mkEv ρ 3 (ρ.iv 8).toNat) then 1 else 5 := by
  obtain ⟨_, ⟨⟨i1, i2⟩, o, n, _⟩, hlt⟩ := h
  have hl : (ρ.iv 8).toNat < (recs mkEv ρ 0).length := by rw [recs_length]; simp only [Nat.zero_add]; omega
  have e := (List.take_append_drop (ρ.iv 8).toNat (recs mkEv ρ 0)).symm
  unfold errOf
  rw [e, errFrom_append _ _ _ _ _ n, List.drop_eq_getElem_cons hl]
  simp only [errFrom]
  have hg : (recs mkEv ρ 0)[(ρ.iv 8).toNat] = recAt mkEv ρ 3 (ρ.iv 8).toNat := by simp [recs]
  rw [hg, List.length_take, recs_length]
  simp only [Nat.zero_add]
  rw [show (0 : Int) + ((min (ρ.iv 8).toNat (ρ.iv 1).toNat : Nat) : Int) = ρ.iv 8 by omega, hs]
def rrSem : CSem := [(underCon, underPre, underPost)]
theorem rrSem_ok : ∀ k pre post, (k, pre, post) ∈ rrSem → conWf k = true ∧ ConOK Tryd.prog k pre post := by
  intro k pre post h
  simp only [rrSem, List.mem_cons, List.not_mem_nil, or_false, Prod.mk.injEq] at h
  obtain ⟨rfl, rfl, rfl⟩ := h
  exact ⟨by kernel_rfl, under_con⟩
theorem underV_some {rows : List Rw} {t : Int} : (0 ≤ underV rows t ↔ ∃ k, openAt rows t = some k) := by
  unfold underV
  cases openAt rows t with
  | none => simp
  | some k => simp
theorem underV_at {rows : List Rw} {t : Int} {k : Nat} (h : openAt rows t = some k) : underV rows t = k := by simp [underV, h]
theorem under_call {σ : Sub} {ρ ρ' : Env} (h : underPost (conEnv σ 5 9 ρ ρ')) (h4 : (σ.nenv ρ).iv 4 = ρ'.ic 3 (ρ'.iv 8).toNat 0 0) (h1 : (σ.nenv ρ).iv 1 = ρ'.iv 5) (h2 : ∀ i, recAt mkRw (σ.nenv ρ) 3 i = recAt mkRw ρ' 7 i) : ρ'.iv 9 = underV (recs mkRw ρ' 4) (ρ'.ic 3 (ρ'.iv 8).toNat 0 0) := by
  have e1 : recs mkRw (conEnv σ 5 9 ρ ρ') 0 = recs mkRw ρ' 4 := recs_same (by simpa [conEnv] using h1) fun i _ => by
    rw [← h2 i]
    simp [recAt, conEnv]
  have e5 : (conEnv σ 5 9 ρ ρ').iv 5 = ρ'.iv 9 := by simp [conEnv]
  have e4 : (conEnv σ 5 9 ρ ρ').iv 4 = ρ'.ic 3 (ρ'.iv 8).toNat 0 0 := by simpa [conEnv] using h4
  have h : (conEnv σ 5 9 ρ ρ').iv 5 = underV (recs mkRw (conEnv σ 5 9 ρ ρ') 0) ((conEnv σ 5 9 ρ ρ').iv 4) := h
  rwa [e1, e5, e4] at h
theorem beq_den {q : Env} : (BE.beq (.cell 3 (.var 8) (.lit 0) 1) (.ile (.lit 0) (.var 9))).den q = (q.bc 3 (q.iv 8).toNat 0 1 == decide (0 ≤ q.iv 9)) := rfl
theorem rr_err {r ρ' : Env} {c : Int} (hE : errOf (recs mkEv r 0) = c) (e : recs mkEv ρ' 0 = recs mkEv r 0) (hc : c ≠ 0) (h8 : ρ'.iv 8 = c) (h4 : ρ'.bv 4 = true) (h5 : ρ'.iv 5 = 0) (h6 : ρ'.iv 6 = 0) : rrPost ρ' := by
  refine ⟨by rw [h8, e, hE], ⟨fun _ => h5, ?_, ?_, ?_⟩, fun h => ?_, fun _ => h5⟩
  · simp only [Nat.reduceAdd]; omega
  · simp only [Nat.reduceAdd]; omega
  · simp only [Nat.reduceAdd]; omega
  · exact absurd (h8.symm.trans h) hc
set_option maxHeartbeats 2000000 in
theorem rrows_sat (ρ : Env) (hpre : rrPre ρ.num) : Sat rrPost rrSem [] ρ rrowsOut := by
  replace hpre : rrPre ρ := hpre
  unfold rrowsOut
  refine Sat.loopK rrInv (fun r => (r.iv 1 - r.iv 8).toNat) rrPre ?_ (fun _ => hpre) fun r hp hI => Sat.ob (nilOb hp.1) (Sat.ob (decide_eq_true hp.1.2.1) (Sat.br (fun hlt => ?_) (fun hge => ?_)))
  · have h2 := hpre.1.2.1
    simp only [Nat.zero_add] at h2
    refine ⟨⟨Int.le_refl 0, h2⟩, ⟨fun _ => rfl, Int.le_refl 0, Int.le_refl 0, by show (0 : Int) ≤ _; decide⟩, rfl, fun i j r s hi => (by simp [recs, -Int.pred_toNat, Sub.nenv, assoc, CV.I, CV.B, upsI, upsB, Seg.I, Seg.B, SC.I, SC.B, IE.den, BE.den] at hi)⟩
  · replace hI : rrInv r := hI
    replace hlt : r.iv 8 < r.iv 1 := of_decide_eq_true hlt
    rw [show (r.num.iv 1 - r.num.iv 8).toNat = (r.iv 1 - r.iv 8).toNat from rfl]
    have hat : rrAt r := ⟨hp, hI, hlt⟩
    have hm : (r.iv 1 - (r.iv 8 + 1)).toNat < (r.iv 1 - r.iv 8).toNat := by omega
    have i8 := hI.1.1
    refine Sat.ob (nilLt hp.1 (by simp only [Nat.zero_add]; omega)) (Sat.ob (decide_eq_true hI.1.1) (Sat.callK (c := underCon) rfl hI.2.1 (fun q => rrAt q ∧ (q.iv 1 - (q.iv 8 + 1)).toNat < (r.iv 1 - r.iv 8).toNat ∧ q.iv 9 = underV (recs mkRw q 4) (q.ic 3 (q.iv 8).toNat 0 0)) (fun e hq => ⟨hat, hm, under_call hq rfl rfl fun i => ?_⟩) fun q hq => ?_))
    · simp [recAt, mkRw, -Int.pred_toNat, Sub.nenv, assoc, CV.I, CV.B, upsI, upsB, Seg.I, Seg.B, SC.I, SC.B, IE.den, BE.den, Env.join]
    obtain ⟨hat, hm, h9⟩ := hq
    have hlen := hat.len
    have hp := hat.1
    obtain ⟨⟨i1, i2⟩, ⟨o1, o2, o3, o4⟩, -, hu⟩ := hat.2.1
    have hlt := hat.2.2
    have hp2 := hp.2
    simp only [Nat.reduceAdd] at o1 o2 o3 o4
    refine Sat.br (fun ha => ?_) (fun ha => ?_)
    · refine Sat.br (fun hb => ?_) (fun hb => ?_)
      · have hb0 : q.bc 3 (q.iv 8).toNat 0 1 = false := by simpa [BE.den, IE.den] using hb
        replace hb : (recAt mkEv q 3 (q.iv 8).toNat).begins = false := hb0
        refine Sat.br (fun hc => ?_) (fun hc => ?_)
        · have hc0 : ¬ (q.ic 3 (q.iv 8).toNat 0 2 = 0 ∧ q.ic 3 (q.iv 8).toNat 0 3 = 0 ∧ q.ic 3 (q.iv 8).toNat 0 4 = 0 ∧ q.ic 3 (q.iv 8).toNat 0 5 = 0) := by
            rintro ⟨c1, c2, c3, c4⟩
            simp [BE.den, IE.den, c1, c2, c3, c4] at hc
          have hw : wrongEv (recAt mkEv q 3 (q.iv 8).toNat) = true := (wrong_op hb).2 hc0
          have hE := hat.err (step_wrong hw)
          rw [hw] at hE
          exact Sat.fin (rr_err (r := q) hE rfl (by decide) rfl rfl rfl rfl)
        · have hc0 : q.ic 3 (q.iv 8).toNat 0 2 = 0 ∧ q.ic 3 (q.iv 8).toNat 0 3 = 0 ∧ q.ic 3 (q.iv 8).toNat 0 4 = 0 ∧ q.ic 3 (q.iv 8).toNat 0 5 = 0 := by simpa [BE.den, IE.den] using hc
          have hw : wrongEv (recAt mkEv q 3 (q.iv 8).toNat) = false := Bool.eq_false_iff.2 fun h => (wrong_op hb).1 h hc0
          refine Sat.br (fun hd => ?_) (fun hd => ?_)
          · have hd0 : ¬ 0 ≤ q.iv 9 := by
              intro h
              rw [beq_den, hb0, decide_eq_true h] at hd
              cases hd
            have hk : openAt (recs mkRw q 4) (q.ic 3 (q.iv 8).toNat 0 0) = none := by
              cases h : openAt (recs mkRw q 4) (q.ic 3 (q.iv 8).toNat 0 0) with
              | none => rfl
              | some k => exact absurd (by rw [h9, underV_at h]; omega) hd0
            have hE := hat.err (step_endno hw hb hk)
            rw [hw] at hE
            exact Sat.fin (rr_err (r := q) hE rfl (by decide) rfl rfl rfl rfl)
          · have hd0 : 0 ≤ q.iv 9 := by
              by_cases h : 0 ≤ q.iv 9
              · exact h
              · rw [beq_den, hb0, decide_eq_false h] at hd
                cases hd
            obtain ⟨k, hk⟩ := underV_some.1 (h9 ▸ hd0)
            have hk9 : q.iv 9 = k := h9.trans (underV_at hk)
            obtain ⟨x, x1, x2, x3⟩ := openAt_some hk
            have hkl := (List.getElem?_eq_some_iff.1 x1).1
            rw [recs_length] at hkl
            simp only [Nat.reduceAdd] at hkl
            have hst := step_end (i := q.iv 8) hw hb hk
            refine Sat.ob (nilLt hat.2.1.2.1 (by simp only [Nat.reduceAdd]; omega)) (Sat.ob (decide_eq_true hd0) (Sat.ob (decide_eq_true (by show q.iv 9 < q.iv 5; omega)) (Sat.ob (by simp only [D.le, D.lef, D.lt, D.ltf, D.eq, D.eqf, D.not, D.notf, D.and, D.andf, D.or, D.orf, D.inr, D.var, D.lit, D.cellB, D.beq, D.beqf, D.litI, D.varI, D.add, D.sub, D.mul, D.min, D.max, D.cellI, D.i64min, D.i64max, Int.toNat_zero]; omega) (Sat.back rfl ?_))))
            generalize hv : Sub.nenv _ q = v
            have v7 : ∀ i, i ≠ k → recAt mkRw v 7 i = recAt mkRw q 7 i := fun i hi => by
              rw [← hv]
              simp [recAt, mkRw, -Int.pred_toNat, Sub.nenv, assoc, CV.I, CV.B, upsI, upsB, Seg.I, Seg.B, SC.I, SC.B, IE.den, BE.den, hk9, Ne.symm hi]
            have v7k : recAt mkRw v 7 k = endRw (q.iv 8) (recAt mkEv q 3 (q.iv 8).toNat) (recAt mkRw q 7 k) := by
              rw [← hv]
              simp [recAt, mkRw, endRw, mkEv, -Int.pred_toNat, Sub.nenv, assoc, CV.I, CV.B, upsI, upsB, Seg.I, Seg.B, SC.I, SC.B, IE.den, BE.den, hk9]
            have v5 : v.iv 5 = q.iv 5 := by rw [← hv]; rfl
            have hr' : recs mkRw v 4 = (recs mkRw q 4).modify k (endRw (q.iv 8) (recAt mkEv q 3 (q.iv 8).toNat)) := recs_modify (b := 4) (b' := 4) v5 (fun i _ hi => v7 i hi) v7k
            exact ⟨hat.step (by rw [← hv]; rfl) (by rw [← hv]; rfl) (by rw [← hv]; rfl) (by rw [← hv]; rfl) (by rw [← hv]; exact ⟨o1, o2, o3, o4⟩) (by rw [hr']; exact hst) (by rw [hr']; exact uniq_end hu), by rw [← hv]; exact hm⟩
      · have hb2 : q.bc 3 (q.iv 8).toNat 0 1 = true := by simpa [BE.den, IE.den] using hb
        replace hb : (recAt mkEv q 3 (q.iv 8).toNat).begins = true := hb2
        have ha0 : q.ic 3 (q.iv 8).toNat 0 6 = 0 ∧ q.ic 3 (q.iv 8).toNat 0 7 = 0 := by simpa [BE.den, IE.den, hb2] using ha
        have hw : wrongEv (recAt mkEv q 3 (q.iv 8).toNat) = false := Bool.eq_false_iff.2 fun h => (wrong_ans hb).1 h ha0
        refine Sat.br (fun hd => ?_) (fun hd => ?_)
        · have hd0 : 0 ≤ q.iv 9 := by
            by_cases h : 0 ≤ q.iv 9
            · exact h
            · rw [beq_den, hb2, decide_eq_false h] at hd
              cases hd
          obtain ⟨k, hk⟩ := underV_some.1 (h9 ▸ hd0)
          have hE := hat.err (step_busy hw hb hk)
          rw [hw] at hE
          exact Sat.fin (rr_err (r := q) hE rfl (by decide) rfl rfl rfl rfl)
        · have hd0 : ¬ 0 ≤ q.iv 9 := by
            intro h
            rw [beq_den, hb2, decide_eq_true h] at hd
            cases hd
          have hk : openAt (recs mkRw q 4) (q.ic 3 (q.iv 8).toNat 0 0) = none := by
            cases h : openAt (recs mkRw q 4) (q.ic 3 (q.iv 8).toNat 0 0) with
            | none => rfl
            | some k => exact absurd (by rw [h9, underV_at h]; omega) hd0
          have hst := step_beg (i := q.iv 8) hw hb hk
          refine Sat.ob (by simp only [D.le, D.lef, D.lt, D.ltf, D.eq, D.eqf, D.not, D.notf, D.and, D.andf, D.or, D.orf, D.inr, D.var, D.lit, D.cellB, D.beq, D.beqf, D.litI, D.varI, D.add, D.sub, D.mul, D.min, D.max, D.cellI, D.i64min, D.i64max, Int.toNat_zero]; omega) (Sat.ob (decide_eq_true o2) (Sat.ob (decide_eq_true o3) (Sat.ob (decide_eq_true o4) (Sat.ob (nilOb hat.2.1.2.1) (Sat.newB (fun u => rrAt u ∧ stepRows (u.iv 8) (recs mkRw u 4) (recAt mkEv u 3 (u.iv 8).toNat) = some (recs mkRw u 4 ++ [begRw (u.iv 8) (recAt mkEv u 3 (u.iv 8).toNat)]) ∧ openAt (recs mkRw u 4) (u.ic 3 (u.iv 8).toNat 0 0) = none ∧ (u.iv 1 - (u.iv 8 + 1)).toNat < (r.iv 1 - r.iv 8).toNat) (fun _ => ⟨hat, hst, hk, hm⟩) fun u hu' hf => ?_)))))
          obtain ⟨hat, hst, hk, hm⟩ := hu'
          simp only [D.le, D.lef, D.lt, D.ltf, D.eq, D.eqf, D.not, D.notf, D.and, D.andf, D.or, D.orf, D.inr, D.var, D.lit, D.cellB, D.beq, D.beqf, D.litI, D.varI, D.add, D.sub, D.mul, D.min, D.max, D.cellI, D.i64min, D.i64max, Int.toNat_zero] at hf
          obtain ⟨⟨i1, i2⟩, ⟨o1, o2, o3, o4⟩, -, hu⟩ := hat.2.1
          have hlt := hat.2.2
          have hp2 := hat.1.2
          simp only [Nat.reduceAdd] at o1 o2 o3 o4
          have n1 : ∀ i, i < (u.iv 5).toNat → ¬ (u.iv 5).toNat = i := fun i hi => by omega
          refine Sat.ob (by simp only [D.le, D.lef, D.lt, D.ltf, D.eq, D.eqf, D.not, D.notf, D.and, D.andf, D.or, D.orf, D.inr, D.var, D.lit, D.cellB, D.beq, D.beqf, D.litI, D.varI, D.add, D.sub, D.mul, D.min, D.max, D.cellI, D.i64min, D.i64max, Int.toNat_zero]; omega) (Sat.back rfl ?_)
          generalize hv : Sub.nenv _ u = v
          have v7 : ∀ i, i < (u.iv 5).toNat → recAt mkRw v 7 i = recAt mkRw u 7 i := fun i hi => by
            rw [← hv]
            simp [recAt, mkRw, -Int.pred_toNat, Sub.nenv, assoc, CV.I, CV.B, upsI, upsB, Seg.I, Seg.B, SC.I, SC.B, IE.den, BE.den, n1 i hi]
          have v7k : recAt mkRw v 7 (u.iv 5).toNat = begRw (u.iv 8) (recAt mkEv u 3 (u.iv 8).toNat) := by
            rw [← hv]
            simp [recAt, mkRw, begRw, mkEv, -Int.pred_toNat, Sub.nenv, assoc, CV.I, CV.B, upsI, upsB, Seg.I, Seg.B, SC.I, SC.B, IE.den, BE.den]
          have v5 : v.iv 5 = u.iv 5 + 1 := by rw [← hv]; rfl
          have hrr : recs mkRw v 4 = recs mkRw u 4 ++ [begRw (u.iv 8) (recAt mkEv u 3 (u.iv 8).toNat)] := recs_push (b := 4) (b' := 4) o2 v5 v7 v7k
          exact ⟨hat.step (by rw [← hv]; rfl) (by rw [← hv]; rfl) (by rw [← hv]; rfl) (by rw [← hv]; rfl) (by rw [← hv]; exact ⟨fun h => (by cases h), by show 0 ≤ u.iv 5 + 1; omega, hf.1, hf.2⟩) (by rw [hrr]; exact hst) (by rw [hrr]; exact uniq_push hu hk), by rw [← hv]; exact hm⟩
    · have hx : q.bc 3 (q.iv 8).toNat 0 1 = true ∧ ¬ (q.ic 3 (q.iv 8).toNat 0 6 = 0 ∧ q.ic 3 (q.iv 8).toNat 0 7 = 0) := by
        refine ⟨?_, ?_⟩
        · cases h : q.bc 3 (q.iv 8).toNat 0 1
          · simp [BE.den, IE.den, h] at ha
          · rfl
        · rintro ⟨c1, c2⟩
          simp [BE.den, IE.den, c1, c2] at ha
      have hw : wrongEv (recAt mkEv q 3 (q.iv 8).toNat) = true := (wrong_ans hx.1).2 hx.2
      have hE := hat.err (step_wrong hw)
      rw [hw] at hE
      exact Sat.fin (rr_err (r := q) hE rfl (by decide) rfl rfl rfl rfl)
  · replace hge : ¬ r.iv 8 < r.iv 1 := of_decide_eq_false hge
    replace hI : rrInv r := hI
    obtain ⟨⟨i1, i2⟩, ho, hn, -⟩ := hI
    have e1 := recs_full (mk := mkEv) r 0 (n := (r.iv 8).toNat) (by simp only [Nat.zero_add]; omega)
    rw [e1] at hn
    refine Sat.fin ⟨(errOf_zero.2 ⟨_, hn⟩).symm, ho, fun _ => hn.trans (congrArg some (Eq.symm (recs_same (ρ := r) (b := 4) rfl fun i _ => ?_))), fun h => (h rfl).elim⟩
    simp [recAt, mkRw, -Int.pred_toNat, Sub.nenv, assoc, CV.I, CV.B, upsI, upsB, Seg.I, Seg.B, SC.I, SC.B, IE.den, BE.den]
theorem rrows_con : ConOK Tryd.prog rRowsCon rrPre rrPost :=
  con_ok tabOK (E := rrowsE) (cs := rrSem) rfl rrSem_ok schedOK rfl rrows_run (by kernel_rfl) (fun ρ _ p hp => by cases hp) rrows_sat
end Go.Proofs.YtjhnfmfajbghbaaDoor
