/- 'AnnalsWhole': the rows that were answered -/
import Derived.Test.YtjhnfmfajbghbaaDoorABack
set_option linter.unusedSimpArgs false
set_option linter.unusedVariables false
namespace Go.Proofs.YtjhnfmfajbghbaaDoor
open Go.Rex
noncomputable def wlawE : Ex := { sched := sched, loops := [L5a, L5b, L5c, L5d], cons := [isCon, awakeCon, rowsCon, wholeCon], fin := lawConG 26 ssB 5 [shEv] }
def wlawOut : Out :=
  .call 1 { lo := 0, lob := 0, bk := [(1, { blk := 3 }), (0, { blk := 2 })] } 4 <|
   .ob (.or (.not (.var 0)) (.ieq (.var 1) (.lit 0))) <|
   .ob (.ile (.lit 0) (.var 1)) <|
   .br (.ilt (.lit 100) (.var 1))
   (.fin { lo := 4, lob := 5, bv := [(4, (.lit true))] })
   (.call 2 { lo := 0, lob := 0, iv := [(2, (.var 2)), (1, (.var 1))], bv := [(0, (.var 0))], ct := [(3, .up { r := 3, n1 := (.var 1), s1 := 8, ks := [.int .i64, .bool, .int .i64, .int .i64, .int .i64, .int .i64, .int .i64, .int .i64] } 0 [] (.lit 0))], bk := [(3, { blk := 3 }), (1, { blk := 1 }), (2, { blk := 2 }), (0, { blk := 0 }), (4, { blk := 4, i1 := (.lit 0), s1 := 8 })] } 4 <|
    .br (.not (.var 8))
    (.fin { lo := 4, lob := 5, bv := [(4, (.lit true))] })
    (.call 3 { lo := 0, lob := 0, iv := [(2, (.var 6)), (1, (.var 5))], bv := [(0, (.var 4))], ct := [(3, .up { r := 7, n1 := (.var 5), s1 := 10, ks := [.int .i64, .int .i64, .int .i64, .int .i64, .int .i64, .int .i64, .int .i64, .int .i64, .int .i64, .bool] } 0 [] (.lit 0))], bk := [(0, { blk := 5, i1 := (.lit 0), s1 := 10 })] } 9 <|
     .loop 13 { lo := 13, lob := 9, iv := [(16, (.lit 0)), (14, (.lit 0)), (13, (.lit 0))], ct := [(15, .ex [] 8 0 0)], bk := [(9, { blk := 8, i1 := (.lit 0), s1 := 8 })] } <|
     .br (.ilt (.var 16) (.var 1))
     (.loop 17 { lo := 17, lob := 10, iv := [(18, (.lit 0))], bv := [(17, (.lit false))] } <|
      .ob (.or (.not (.var 4)) (.ieq (.var 5) (.lit 0))) <|
      .ob (.ile (.lit 0) (.var 5)) <|
      .br (.ilt (.var 18) (.var 5))
      (.ob (.or (.var 17) (.not (.var 4))) <|
       .ob (.or (.var 17) (.ile (.lit 0) (.var 18))) <|
       .ob (.or (.not (.and (.not (.var 17)) (.ieq (.cell 7 (.var 18) (.lit 0) 7) (.var 16)))) (.not (.var 4))) <|
       .ob (.or (.not (.and (.not (.var 17)) (.ieq (.cell 7 (.var 18) (.lit 0) 7) (.var 16)))) (.ile (.lit 0) (.var 18))) <|
       .ob (.inr .i64 (.add (.var 18) (.lit 1))) <|
       .back 0 { lo := 17, lob := 10, iv := [(18, (.add (.var 18) (.lit 1)))], bv := [(17, (.or (.var 17) (.and (.ieq (.cell 7 (.var 18) (.lit 0) 7) (.var 16)) (.not (.cell 7 (.var 18) (.lit 0) 9)))))] })
      (.br (.not (.var 17))
       (.ob (.not (.var 0)) <|
        .ob (.ile (.lit 0) (.var 16)) <|
        .ob (.ile (.mul (.add (.var 13) (.lit 1)) (.lit 64)) (.lit 140737488355328)) <|
        .ob (.ile (.lit 0) (.var 13)) <|
        .ob (.ile (.var 13) (.var 14)) <|
        .ob (.ile (.var 14) (.lit 9223372036854775807)) <|
        .new 19 [.be (.and (.ile (.add (.var 13) (.lit 1)) (.var 19)) (.ile (.var 19) (.lit 9223372036854775807)))] <|
        .ob (.inr .i64 (.add (.var 16) (.lit 1))) <|
        .back 1 { lo := 13, lob := 9, iv := [(16, (.add (.var 16) (.lit 1))), (14, (.var 19)), (13, (.add (.var 13) (.lit 1)))], ct := [(15, .up { r := 15, n1 := (.add (.var 13) (.lit 1)), s1 := 8, ks := [.int .i64, .bool, .int .i64, .int .i64, .int .i64, .int .i64, .int .i64, .int .i64] } 0 [⟨0, (.var 13), (.lit 0), 0, .int .i64 (.cell 3 (.var 16) (.lit 0) 0)⟩, ⟨0, (.var 13), (.lit 0), 1, .bool (.cell 3 (.var 16) (.lit 0) 1)⟩, ⟨0, (.var 13), (.lit 0), 2, .int .i64 (.cell 3 (.var 16) (.lit 0) 2)⟩, ⟨0, (.var 13), (.lit 0), 3, .int .i64 (.cell 3 (.var 16) (.lit 0) 3)⟩, ⟨0, (.var 13), (.lit 0), 4, .int .i64 (.cell 3 (.var 16) (.lit 0) 4)⟩, ⟨0, (.var 13), (.lit 0), 5, .int .i64 (.cell 3 (.var 16) (.lit 0) 5)⟩, ⟨0, (.var 13), (.lit 0), 6, .int .i64 (.cell 3 (.var 16) (.lit 0) 6)⟩, ⟨0, (.var 13), (.lit 0), 7, .int .i64 (.cell 3 (.var 16) (.lit 0) 7)⟩] (.lit 0))], bk := [(9, { blk := 11, i1 := (.lit 0), s1 := 8 })] })
       (.ob (.inr .i64 (.add (.var 16) (.lit 1))) <|
        .back 1 { lo := 13, lob := 9, iv := [(16, (.add (.var 16) (.lit 1))), (14, (.var 14)), (13, (.var 13))], ct := [(15, .up { r := 15, n1 := (.var 13), s1 := 8, ks := [.int .i64, .bool, .int .i64, .int .i64, .int .i64, .int .i64, .int .i64, .int .i64] } 0 [] (.lit 0))], bk := [(9, { blk := 9, i1 := (.lit 0), s1 := 8 })] })))
     (.call 2 { lo := 0, lob := 0, iv := [(2, (.var 14)), (1, (.var 13))], bv := [(0, (.lit false))], ct := [(3, .up { r := 15, n1 := (.var 13), s1 := 8, ks := [.int .i64, .bool, .int .i64, .int .i64, .int .i64, .int .i64, .int .i64, .int .i64] } 0 [] (.lit 0))], bk := [(3, { blk := 3 }), (1, { blk := 1 }), (2, { blk := 2 }), (0, { blk := 0 }), (4, { blk := 9, i1 := (.lit 0), s1 := 8 })] } 17 <|
      .ob (.or (.not (.var 21)) (.or (.not (.var 17)) (.ieq (.var 18) (.lit 0)))) <|
      .ob (.or (.not (.var 21)) (.ile (.lit 0) (.var 18))) <|
      .ob (.or (.not (.var 21)) (.or (.not (.var 9)) (.ieq (.var 10) (.lit 0)))) <|
      .ob (.or (.not (.var 21)) (.ile (.lit 0) (.var 10))) <|
      .br (.not (.var 21))
      (.fin { lo := 4, lob := 5, bv := [(4, (.lit false))] })
      (.br (.not (.ieq (.var 18) (.var 10)))
       (.fin { lo := 4, lob := 5, bv := [(4, (.lit false))] })
       (.loop 22 { lo := 22, lob := 12, iv := [(22, (.lit 0))] } <|
        .ob (.or (.not (.var 17)) (.ieq (.var 18) (.lit 0))) <|
        .ob (.ile (.lit 0) (.var 18)) <|
        .br (.ilt (.var 22) (.var 18))
        (.ob (.not (.var 17)) <|
         .ob (.ile (.lit 0) (.var 22)) <|
         .ob (.not (.var 9)) <|
         .ob (.ilt (.var 22) (.var 10)) <|
         .br (.not (.ieq (.cell 20 (.var 22) (.lit 0) 0) (.cell 12 (.var 22) (.lit 0) 0)))
         (.fin { lo := 4, lob := 5, bv := [(4, (.lit false))] })
         (.br (.not (.and (.ieq (.cell 20 (.var 22) (.lit 0) 1) (.cell 12 (.var 22) (.lit 0) 1)) (.and (.ieq (.cell 20 (.var 22) (.lit 0) 2) (.cell 12 (.var 22) (.lit 0) 2)) (.and (.ieq (.cell 20 (.var 22) (.lit 0) 3) (.cell 12 (.var 22) (.lit 0) 3)) (.ieq (.cell 20 (.var 22) (.lit 0) 4) (.cell 12 (.var 22) (.lit 0) 4))))))
          (.fin { lo := 4, lob := 5, bv := [(4, (.lit false))] })
          (.br (.not (.and (.ieq (.cell 20 (.var 22) (.lit 0) 5) (.cell 12 (.var 22) (.lit 0) 5)) (.ieq (.cell 20 (.var 22) (.lit 0) 6) (.cell 12 (.var 22) (.lit 0) 6))))
           (.fin { lo := 4, lob := 5, bv := [(4, (.lit false))] })
           (.br (.not (.cell 20 (.var 22) (.lit 0) 9))
            (.fin { lo := 4, lob := 5, bv := [(4, (.lit false))] })
            (.br (.not (.cell 12 (.var 22) (.lit 0) 9))
             (.fin { lo := 4, lob := 5, bv := [(4, (.lit false))] })
             (.loop 23 { lo := 23, lob := 12, iv := [(23, (.lit 0))] } <|
              .br (.ilt (.var 23) (.var 18))
              (.ob (.ile (.lit 0) (.var 23)) <|
               .ob (.ilt (.var 23) (.var 10)) <|
               .br (.not (.beq (.ilt (.cell 20 (.var 22) (.lit 0) 8) (.cell 20 (.var 23) (.lit 0) 7)) (.ilt (.cell 12 (.var 22) (.lit 0) 8) (.cell 12 (.var 23) (.lit 0) 7))))
               (.fin { lo := 4, lob := 5, bv := [(4, (.lit false))] })
               (.ob (.inr .i64 (.add (.var 23) (.lit 1))) <|
                .back 0 { lo := 23, lob := 12, iv := [(23, (.add (.var 23) (.lit 1)))] }))
              (.ob (.inr .i64 (.add (.var 22) (.lit 1))) <|
               .back 1 { lo := 22, lob := 12, iv := [(22, (.add (.var 22) (.lit 1)))] })))))))
        (.fin { lo := 4, lob := 5, bv := [(4, (.lit true))] }))))))
theorem wlaw_run : exec tab wlawE 8000 [] (cfg0 5 4 [] (sentGl ssB 0) (lawConG 26 ssB 5 [shEv]).hp (lawConG 26 ssB 5 [shEv]).args) = wlawOut := by kernel_rfl
def wlawSem : CSem := [(isCon, yesPre, yesPre), (awakeCon, yesPre, yesPre), (rowsCon, rowsPre, rowsPost), (wholeCon, wholePre, wholePost)]
theorem wlawSem_ok : ∀ k pre post, (k, pre, post) ∈ wlawSem → conWf k = true ∧ ConOK Tryd.prog k pre post := by
  intro k pre post h
  simp only [wlawSem, List.mem_cons, List.not_mem_nil, or_false, Prod.mk.injEq] at h
  rcases h with ⟨rfl, rfl, rfl⟩ | ⟨rfl, rfl, rfl⟩ | ⟨rfl, rfl, rfl⟩ | ⟨rfl, rfl, rfl⟩
  · exact ⟨by kernel_rfl, is_con⟩
  · exact ⟨by kernel_rfl, awake_con⟩
  · exact ⟨by kernel_rfl, rows_con⟩
  · exact ⟨by kernel_rfl, whole_con⟩
theorem whole_at {σ : Sub} {ρ ρ' : Env} {N : Nat} (h : wholePost (conEnv σ 4 N ρ ρ')) {rows : List Rw} (he : recs mkRw (σ.nenv ρ) 0 = rows) : OkSl ρ' N ∧ recs mkRw ρ' N = wholeOf rows := by
  unfold wholePost at h
  rw [con_recs 4, con_sl 4, con_in (by omega), he] at h
  exact h
/-- the events, their rows, those that were answered -/
def wK (q : Env) : Prop := OkSl q 0 ∧ q.iv 1 ≤ 100 ∧ (∀ i : Nat, (i : Int) < q.iv 1 → InR (q.ic 3 i 0 0)) ∧ OkSl q 4 ∧ rowsOf (recs mkEv q 0) = some (recs mkRw q 4) ∧ OkSl q 9 ∧ recs mkRw q 9 = wholeOf (recs mkRw q 4)
theorem keptFrom_snoc {U : Nat → Bool} {e : Ev} : ∀ {l : List Ev} {n : Nat}, keptFrom U n (l ++ [e]) = keptFrom U n l ++ if U (n + l.length) then [] else [e]
  | [], n => by simp [keptFrom]
  | a :: l, n => by
    simp only [List.cons_append, keptFrom, keptFrom_snoc (l := l), List.length_cons, show n + 1 + l.length = n + (l.length + 1) by omega]
    split <;> simp
theorem keptFrom_len {U : Nat → Bool} : ∀ {l : List Ev} {n : Nat}, (keptFrom U n l).length ≤ l.length
  | [], n => by simp [keptFrom]
  | a :: l, n => by
    have := keptFrom_len (U := U) (l := l) (n := n + 1)
    simp only [keptFrom]
    split
    · simp only [List.length_cons]
      omega
    · simp only [List.length_cons]
      omega
theorem keptFrom_mem {U : Nat → Bool} {e : Ev} : ∀ {l : List Ev} {n : Nat}, e ∈ keptFrom U n l → e ∈ l
  | [], n, h => by cases h
  | a :: l, n, h => by
    simp only [keptFrom] at h
    split at h
    · exact List.mem_cons_of_mem _ (keptFrom_mem h)
    · rcases List.mem_cons.1 h with rfl | h
      · exact List.mem_cons_self
      · exact List.mem_cons_of_mem _ (keptFrom_mem h)
theorem undone_take {rows : List Rw} {k i : Nat} {r : Rw} (h : rows[k]? = some r) : undone (rows.take (k + 1)) i = (undone (rows.take k) i || (decide (r.fr = (i : Int)) && !r.done)) := by
  have hl := (List.getElem?_eq_some_iff.1 h).1
  unfold undone
  rw [List.take_succ_eq_append_getElem hl, List.any_append]
  have : rows[k] = r := (List.getElem?_eq_some_iff.1 h).2
  simp [this]
/-- what is kept so far -/
def wInv1 (ρ : Env) : Prop := (0 ≤ ρ.iv 16 ∧ ρ.iv 16 ≤ ρ.iv 1) ∧ (0 ≤ ρ.iv 13 ∧ ρ.iv 13 ≤ ρ.iv 14 ∧ ρ.iv 14 ≤ 9223372036854775807) ∧
  (List.range (ρ.iv 13).toNat).map (recAt mkEv ρ 15) = keptFrom (undone (recs mkRw ρ 4)) 0 ((recs mkEv ρ 0).take (ρ.iv 16).toNat)
def wInv2 (ρ : Env) : Prop := (0 ≤ ρ.iv 18 ∧ ρ.iv 18 ≤ ρ.iv 5) ∧ ρ.bv 17 = undone ((recs mkRw ρ 4).take (ρ.iv 18).toNat) (ρ.iv 16).toNat
theorem wInv1.len {ρ : Env} (h0 : OkSl ρ 0) (h : wInv1 ρ) : ρ.iv 13 ≤ ρ.iv 1 := by
  obtain ⟨⟨a1, a2⟩, ⟨b1, b2, b3⟩, c⟩ := h
  have hl := congrArg List.length c
  have h2 := keptFrom_len (U := undone (recs mkRw ρ 4)) (l := (recs mkEv ρ 0).take (ρ.iv 16).toNat) (n := 0)
  rw [List.length_map, List.length_range] at hl
  rw [← hl, List.length_take, recs_length] at h2
  simp only [Nat.zero_add] at h2
  omega
theorem kept_push {q v : Env} {l : List Ev} {x : Ev} (h0 : 0 ≤ q.iv 13) (hl : (List.range (q.iv 13).toNat).map (recAt mkEv q 15) = l) (h1 : v.iv 13 = q.iv 13 + 1) (h2 : ∀ i, i < (q.iv 13).toNat → recAt mkEv v 15 i = recAt mkEv q 15 i)
    (h3 : recAt mkEv v 15 (q.iv 13).toNat = x) : (List.range (v.iv 13).toNat).map (recAt mkEv v 15) = l ++ [x] := by
  rw [h1, show (q.iv 13 + 1).toNat = (q.iv 13).toNat + 1 by omega, List.range_succ, List.map_append, range_map_congr h2, hl, List.map_cons, List.map_nil, h3]
/-- .. and their rows -/
def wK2 (q : Env) : Prop := wK q ∧ OkSl q 17 ∧ recs mkRw q 17 = (recs mkRw q 9).map (ren (undone (recs mkRw q 4)))
theorem wK2.len {q : Env} (h : wK2 q) : q.iv 18 = q.iv 10 := by
  obtain ⟨⟨_, _, _, _, _, o9, _⟩, o17, e⟩ := h
  have := congrArg List.length e
  rw [List.length_map, recs_length, recs_length] at this
  have h1 := o9.2.1
  have h2 := o17.2.1
  simp only [Nat.reduceAdd] at *
  omega
theorem wK2.at {q : Env} (h : wK2 q) {x : Int} (h0 : 0 ≤ x) (h1 : x < q.iv 18) : recAt mkRw q 20 x.toNat = ren (undone (recs mkRw q 4)) (recAt mkRw q 12 x.toNat) ∧ recAt mkRw q 12 x.toNat ∈ recs mkRw q 4 ∧ (recAt mkRw q 12 x.toNat).done = true := by
  have hl := h.len
  obtain ⟨⟨_, _, _, _, _, o9, ew⟩, o17, e⟩ := h
  have g1 := recs_get (mk := mkRw) (ρ := q) (b := 17) (i := x.toNat) (by simp only [Nat.reduceAdd]; omega)
  have g2 := recs_get (mk := mkRw) (ρ := q) (b := 9) (i := x.toNat) (by simp only [Nat.reduceAdd]; omega)
  rw [e, List.getElem?_map, g2] at g1
  simp only [Option.map_some, Option.some.injEq] at g1
  have hm := List.mem_of_getElem? g2
  rw [ew] at hm
  obtain ⟨m1, m2⟩ := List.mem_filter.1 hm
  exact ⟨g1.symm, m1, m2⟩
def wInv3 (ρ : Env) : Prop := 0 ≤ ρ.iv 22 ∧ ρ.iv 22 ≤ ρ.iv 18
def wInv4 (ρ : Env) : Prop := 0 ≤ ρ.iv 23 ∧ ρ.iv 23 ≤ ρ.iv 18
set_option maxHeartbeats 4000000 in
theorem wlaw_sat (ρ : Env) (hpre : lawPre [shEv] ρ.num) : Sat (lawPostG ssB [shEv]) wlawSem [] ρ wlawOut := by
  replace hpre : ((ρ.bv 0 = true → ρ.iv 1 = 0 ∧ ρ.iv 2 = 0) ∧ 0 ≤ ρ.iv 1 ∧ ρ.iv 1 ≤ ρ.iv 2 ∧ ρ.iv 2 ≤ 9223372036854775807 ∧ KdRange ρ 3 (ρ.iv 1) kEv) ∧ True := hpre
  have hk : OkSl ρ 0 ∧ ∀ i : Nat, (i : Int) < ρ.iv 1 → InR (ρ.ic 3 i 0 0) := ⟨⟨fun h => (hpre.1.1 h).1, hpre.1.2.1, hpre.1.2.2.1, hpre.1.2.2.2.1⟩, fun i hi => hpre.1.2.2.2.2 i 0 .i64 hi rfl⟩
  unfold wlawOut
  refine Sat.callK (c := awakeCon) rfl trivial (fun q => OkSl q 0 ∧ ∀ i : Nat, (i : Int) < q.iv 1 → InR (q.ic 3 i 0 0)) (fun _ _ => hk) fun q hk => ?_
  refine Sat.ob (nilOb hk.1) (Sat.ob (decide_eq_true hk.1.2.1) (Sat.br (fun _ => Sat.fin rfl) (fun hle => ?_)))
  replace hle : q.iv 1 ≤ 100 := by simpa only [D.le, D.lef, D.lt, D.ltf, D.eq, D.eqf, D.not, D.notf, D.and, D.andf, D.or, D.orf, D.inr, D.var, D.lit, D.cellB, D.beq, D.beqf, D.litI, D.varI, D.add, D.sub, D.mul, D.min, D.max, D.cellI, D.i64min, D.i64max, Int.toNat_zero] using hle
  refine Sat.callK (c := rowsCon) rfl ⟨hk.1, Int.le_trans hle (by decide), fun i hi => ?_⟩ (fun u => (OkSl u 0 ∧ ∀ i : Nat, (i : Int) < u.iv 1 → InR (u.ic 3 i 0 0)) ∧ u.iv 1 ≤ 100 ∧ RowsAt u (recs mkEv u 0) 4) (fun e hq => ⟨hk, hle, rows_at hq (recs_same rfl fun i _ => by simp [recAt, mkEv, Sub.nenv, assoc, CV.I, CV.B, upsI, upsB, Seg.I, Seg.B, SC.I, SC.B, IE.den, BE.den, Env.join])⟩) fun u hu => ?_
  · have := hk.2 i hi
    simpa [Sub.nenv, assoc, CV.I, CV.B, upsI, upsB, Seg.I, Seg.B, SC.I, SC.B, IE.den, BE.den] using this
  obtain ⟨hk, hle, hat⟩ := hu
  refine Sat.br (fun _ => Sat.fin rfl) (fun hb => ?_)
  replace hb : u.bv 8 = true := by simpa [BE.den] using hb
  obtain ⟨o4, hrows⟩ := hat.1 hb
  have hlen : u.iv 5 ≤ 100 := by
    have := rowsOf_len hrows
    rw [recs_length, recs_length] at this
    have := hk.1.2.1
    simp only [Nat.zero_add, Nat.reduceAdd] at *
    omega
  refine Sat.callK (c := wholeCon) rfl ⟨o4, Int.le_trans hlen (by decide)⟩ wK (fun e hq => ⟨hk.1, hle, hk.2, o4, hrows, (whole_at hq (recs_same rfl fun i _ => by simp [recAt, mkRw, Sub.nenv, assoc, CV.I, CV.B, upsI, upsB, Seg.I, Seg.B, SC.I, SC.B, IE.den, BE.den, Env.join])).1, ?_⟩) fun u hk => ?_
  · exact (whole_at (rows := recs mkRw u 4) hq (recs_same rfl fun i _ => by simp [recAt, mkRw, Sub.nenv, assoc, CV.I, CV.B, upsI, upsB, Seg.I, Seg.B, SC.I, SC.B, IE.den, BE.den, Env.join])).2
  refine Sat.loopK wInv1 (fun r => (r.iv 1 - r.iv 16).toNat) wK ?_ (fun _ => hk) fun r hk hI => ?_
  · exact ⟨⟨Int.le_refl 0, hk.1.2.1⟩, ⟨Int.le_refl 0, Int.le_refl 0, by show (0 : Int) ≤ _; decide⟩, rfl⟩
  replace hI : wInv1 r := hI
  rw [show (r.num.iv 1 - r.num.iv 16).toNat = (r.iv 1 - r.iv 16).toNat from rfl]
  refine Sat.br (fun hlt => ?_) (fun hge => ?_)
  · replace hlt : r.iv 16 < r.iv 1 := of_decide_eq_true hlt
    have h5 := hk.2.2.2.1.2.1
    simp only [Nat.reduceAdd] at h5
    refine Sat.loopK wInv2 (fun s => (s.iv 5 - s.iv 18).toNat) (fun s => wK s ∧ wInv1 s ∧ s.iv 16 < s.iv 1 ∧ (s.iv 1 - (s.iv 16 + 1)).toNat < (r.iv 1 - r.iv 16).toNat) ⟨⟨Int.le_refl 0, h5⟩, ?_⟩ (fun _ => ⟨hk, hI, hlt, by have := hI.1.1; show (r.iv 1 - (r.iv 16 + 1)).toNat < _; omega⟩) fun s hs hJ => ?_
    · simp [Sub.nenv, assoc, CV.I, CV.B, upsI, upsB, Seg.I, Seg.B, SC.I, SC.B, IE.den, BE.den, undone]
    obtain ⟨hk, hI, hlt, hm⟩ := hs
    replace hJ : wInv2 s := hJ
    obtain ⟨⟨j1, j2⟩, j3⟩ := hJ
    obtain ⟨⟨i1, i2⟩, ⟨i3, i4, i5⟩, i6⟩ := id hI
    have hl := hI.len hk.1
    have o4 := hk.2.2.2.1
    have h5 := o4.2.1
    have h5' := rowsOf_len hk.2.2.2.2.1
    rw [recs_length, recs_length] at h5'
    have hle := hk.2.1
    simp only [Nat.reduceAdd, Nat.zero_add] at h5 h5'
    rw [show (s.num.iv 5 - s.num.iv 18).toNat = (s.iv 5 - s.iv 18).toNat from rfl]
    refine Sat.ob (nilOb o4) (Sat.ob (decide_eq_true h5) (Sat.br (fun hlt2 => ?_) (fun hge2 => ?_)))
    · replace hlt2 : s.iv 18 < s.iv 5 := of_decide_eq_true hlt2
      have n1 : (BE.not (.var 4)).den s = true := nilLt o4 (by simp only [Nat.reduceAdd]; omega)
      have n2 : (BE.ile (.lit 0) (.var 18)).den s = true := decide_eq_true j1
      have g := recs_get (mk := mkRw) (ρ := s) (b := 4) (i := (s.iv 18).toNat) (by simp only [Nat.reduceAdd]; omega)
      refine Sat.ob (by rw [BE.den, n1, Bool.or_true]) (Sat.ob (by rw [BE.den, n2, Bool.or_true]) (Sat.ob (by rw [BE.den, n1, Bool.or_true]) (Sat.ob (by rw [BE.den, n2, Bool.or_true]) (Sat.ob (by simp only [D.le, D.lef, D.lt, D.ltf, D.eq, D.eqf, D.not, D.notf, D.and, D.andf, D.or, D.orf, D.inr, D.var, D.lit, D.cellB, D.beq, D.beqf, D.litI, D.varI, D.add, D.sub, D.mul, D.min, D.max, D.cellI, D.i64min, D.i64max, Int.toNat_zero]; omega) (Sat.back rfl ⟨⟨⟨by show 0 ≤ s.iv 18 + 1; omega, by show s.iv 18 + 1 ≤ s.iv 5; omega⟩, ?_⟩, by show (s.iv 5 - (s.iv 18 + 1)).toNat < (s.iv 5 - s.iv 18).toNat; omega⟩)))))
      show (s.bv 17 || (decide (s.ic 7 (s.iv 18).toNat 0 7 = s.iv 16) && !s.bc 7 (s.iv 18).toNat 0 9)) = undone ((recs mkRw s 4).take (s.iv 18 + 1).toNat) (s.iv 16).toNat
      rw [show (s.iv 18 + 1).toNat = (s.iv 18).toNat + 1 by omega, undone_take g, ← j3, show (((s.iv 16).toNat : Nat) : Int) = s.iv 16 by omega]
      rfl
    · replace hge2 : ¬ s.iv 18 < s.iv 5 := of_decide_eq_false hge2
      rw [recs_full _ _ (by simp only [Nat.reduceAdd]; omega)] at j3
      have g := recs_get (mk := mkEv) (ρ := s) (b := 0) (i := (s.iv 16).toNat) (by simp only [Nat.zero_add]; omega)
      have htk := keptFrom_snoc (U := undone (recs mkRw s 4)) (e := recAt mkEv s 3 (s.iv 16).toNat) (l := (recs mkEv s 0).take (s.iv 16).toNat) (n := 0)
      rw [← recs_take (by simp only [Nat.zero_add]; omega), List.length_take, recs_length, Nat.zero_add, show min (s.iv 16).toNat (s.iv (0 + 1)).toNat = (s.iv 16).toNat by simp only [Nat.zero_add]; omega, ← j3] at htk
      refine Sat.br (fun ho => ?_) (fun ho => ?_)
      · replace ho : s.bv 17 = false := by simpa [BE.den] using ho
        rw [ho] at htk
        simp only [Bool.false_eq_true, if_false] at htk
        refine Sat.ob (nilLt hk.1 (by simp only [Nat.zero_add]; omega)) (Sat.ob (decide_eq_true i1) (Sat.ob (by simp only [D.le, D.lef, D.lt, D.ltf, D.eq, D.eqf, D.not, D.notf, D.and, D.andf, D.or, D.orf, D.inr, D.var, D.lit, D.cellB, D.beq, D.beqf, D.litI, D.varI, D.add, D.sub, D.mul, D.min, D.max, D.cellI, D.i64min, D.i64max, Int.toNat_zero]; omega) (Sat.ob (by simp only [D.le, D.lef, D.lt, D.ltf, D.eq, D.eqf, D.not, D.notf, D.and, D.andf, D.or, D.orf, D.inr, D.var, D.lit, D.cellB, D.beq, D.beqf, D.litI, D.varI, D.add, D.sub, D.mul, D.min, D.max, D.cellI, D.i64min, D.i64max, Int.toNat_zero]; omega) (Sat.ob (by simp only [D.le, D.lef, D.lt, D.ltf, D.eq, D.eqf, D.not, D.notf, D.and, D.andf, D.or, D.orf, D.inr, D.var, D.lit, D.cellB, D.beq, D.beqf, D.litI, D.varI, D.add, D.sub, D.mul, D.min, D.max, D.cellI, D.i64min, D.i64max, Int.toNat_zero]; omega) (Sat.ob (by simp only [D.le, D.lef, D.lt, D.ltf, D.eq, D.eqf, D.not, D.notf, D.and, D.andf, D.or, D.orf, D.inr, D.var, D.lit, D.cellB, D.beq, D.beqf, D.litI, D.varI, D.add, D.sub, D.mul, D.min, D.max, D.cellI, D.i64min, D.i64max, Int.toNat_zero]; omega) (Sat.newB (fun q => wK q ∧ wInv1 q ∧ q.iv 16 < q.iv 1 ∧ (q.iv 1 - (q.iv 16 + 1)).toNat < (r.iv 1 - r.iv 16).toNat ∧
            keptFrom (undone (recs mkRw q 4)) 0 ((recs mkEv q 0).take ((q.iv 16).toNat + 1)) = keptFrom (undone (recs mkRw q 4)) 0 ((recs mkEv q 0).take (q.iv 16).toNat) ++ [recAt mkEv q 3 (q.iv 16).toNat]) (fun _ => ⟨hk, hI, hlt, hm, htk⟩) fun q hq hf => ?_))))))
        obtain ⟨hk, hI, hlt, hm, htk⟩ := hq
        obtain ⟨⟨i1, i2⟩, ⟨i3, i4, i5⟩, i6⟩ := id hI
        have hl := hI.len hk.1
        have hle := hk.2.1
        simp only [D.le, D.lef, D.lt, D.ltf, D.eq, D.eqf, D.not, D.notf, D.and, D.andf, D.or, D.orf, D.inr, D.var, D.lit, D.cellB, D.beq, D.beqf, D.litI, D.varI, D.add, D.sub, D.mul, D.min, D.max, D.cellI, D.i64min, D.i64max, Int.toNat_zero] at hf
        refine Sat.ob (by simp only [D.le, D.lef, D.lt, D.ltf, D.eq, D.eqf, D.not, D.notf, D.and, D.andf, D.or, D.orf, D.inr, D.var, D.lit, D.cellB, D.beq, D.beqf, D.litI, D.varI, D.add, D.sub, D.mul, D.min, D.max, D.cellI, D.i64min, D.i64max, Int.toNat_zero]; omega) (Sat.back rfl ⟨⟨⟨by show 0 ≤ q.iv 16 + 1; omega, by show q.iv 16 + 1 ≤ q.iv 1; omega⟩, ⟨by show 0 ≤ q.iv 13 + 1; omega, hf.1, hf.2⟩, ?_⟩, hm⟩)
        have n1 : ∀ i, i < (q.iv 13).toNat → ¬ (q.iv 13).toNat = i := fun i hi => by omega
        refine (kept_push (q := q) i3 i6 rfl (fun i hi => ?_) (x := recAt mkEv q 3 (q.iv 16).toNat) ?_).trans ?_
        · simp [recAt, mkEv, Sub.nenv, assoc, CV.I, CV.B, upsI, upsB, Seg.I, Seg.B, SC.I, SC.B, IE.den, BE.den, n1 i hi]
        · simp [recAt, mkEv, Sub.nenv, assoc, CV.I, CV.B, upsI, upsB, Seg.I, Seg.B, SC.I, SC.B, IE.den, BE.den]
        · rw [← htk]
          show _ = keptFrom (undone (recs mkRw q 4)) 0 ((recs mkEv q 0).take (q.iv 16 + 1).toNat)
          rw [show (q.iv 16 + 1).toNat = (q.iv 16).toNat + 1 by omega]
      · replace ho : s.bv 17 = true := by simpa [BE.den] using ho
        rw [ho] at htk
        simp only [if_true, List.append_nil] at htk
        refine Sat.ob (by simp only [D.le, D.lef, D.lt, D.ltf, D.eq, D.eqf, D.not, D.notf, D.and, D.andf, D.or, D.orf, D.inr, D.var, D.lit, D.cellB, D.beq, D.beqf, D.litI, D.varI, D.add, D.sub, D.mul, D.min, D.max, D.cellI, D.i64min, D.i64max, Int.toNat_zero]; omega) (Sat.back rfl ⟨⟨⟨by show 0 ≤ s.iv 16 + 1; omega, by show s.iv 16 + 1 ≤ s.iv 1; omega⟩, ⟨i3, i4, i5⟩, ?_⟩, hm⟩)
        refine Eq.trans ?_ (i6.trans ?_)
        · refine congr (congrArg List.map ?_) rfl
          funext i
          simp [recAt, mkEv, Sub.nenv, assoc, CV.I, CV.B, upsI, upsB, Seg.I, Seg.B, SC.I, SC.B, IE.den, BE.den]
        · rw [← htk]
          show _ = keptFrom (undone (recs mkRw s 4)) 0 ((recs mkEv s 0).take (s.iv 16 + 1).toNat)
          rw [show (s.iv 16 + 1).toNat = (s.iv 16).toNat + 1 by omega]
  · replace hge : ¬ r.iv 16 < r.iv 1 := of_decide_eq_false hge
    have hl := hI.len hk.1
    obtain ⟨⟨i1, i2⟩, ⟨i3, i4, i5⟩, i6⟩ := id hI
    have hle := hk.2.1
    rw [recs_full _ _ (by simp only [Nat.zero_add]; omega)] at i6
    have hW := whole_hist hk.2.2.2.2.1
    have eW : (recs mkRw r 4).filter (·.done) = recs mkRw r 9 := hk.2.2.2.2.2.2.symm
    rw [← i6, eW] at hW
    have hth : ∀ i : Nat, (i : Int) < r.iv 13 → InR (r.ic 15 i 0 0) := fun i hi => by
      have hm : recAt mkEv r 15 i ∈ keptFrom (undone (recs mkRw r 4)) 0 (recs mkEv r 0) := by
        rw [← i6]
        exact List.mem_map.2 ⟨i, List.mem_range.2 (by omega), rfl⟩
      obtain ⟨j, hj⟩ := List.getElem?_of_mem (keptFrom_mem hm)
      have hj2 := (List.getElem?_eq_some_iff.1 hj).1
      rw [recs_length] at hj2
      rw [recs_get hj2] at hj
      have : (recAt mkEv r 3 j).thread = (recAt mkEv r 15 i).thread := congrArg Ev.thread (Option.some.inj hj)
      replace this : r.ic 3 j 0 0 = r.ic 15 i 0 0 := this
      rw [← this]
      exact hk.2.2.1 j (by simp only [Nat.zero_add] at hj2; omega)
    refine Sat.callK (c := rowsCon) rfl ⟨⟨fun h => (by cases h), i3, i4, i5⟩, by show r.iv 13 ≤ 1000000; omega, fun i hi => ?_⟩ (fun v => wK v ∧ ∃ evs, rowsOf evs = some ((recs mkRw v 9).map (ren (undone (recs mkRw v 4)))) ∧ RowsAt v evs 17)
      (fun e hq => ⟨hk, _, hW, rows_at hq ?_⟩) fun v hv => ?_
    · have := hth i hi
      simpa [Sub.nenv, assoc, CV.I, CV.B, upsI, upsB, Seg.I, Seg.B, SC.I, SC.B, IE.den, BE.den] using this
    · unfold recs
      refine congr (congrArg List.map ?_) rfl
      funext i
      simp [recAt, mkEv, Sub.nenv, assoc, CV.I, CV.B, upsI, upsB, Seg.I, Seg.B, SC.I, SC.B, IE.den, BE.den, Env.join]
    obtain ⟨hk, evs, hev, hat⟩ := hv
    have h21 : v.bv 21 = true := by
      cases h : v.bv 21 with
      | true => rfl
      | false =>
        rw [(hat.2 h).2.2] at hev
        cases hev
    obtain ⟨o17, e17⟩ := hat.1 h21
    rw [hev] at e17
    have hK : wK2 v := ⟨hk, o17, (Option.some.inj e17).symm⟩
    have o9 := hk.2.2.2.2.2.1
    have p1 := nilOb o17
    have p2 := o17.2.1
    have p3 := nilOb o9
    have p4 := o9.2.1
    simp only [Nat.reduceAdd] at p2 p4
    refine Sat.ob (by rw [BE.den, p1, Bool.or_true]) (Sat.ob (by rw [BE.den, show (BE.ile (.lit 0) (.var 18)).den v = true from decide_eq_true p2, Bool.or_true]) (Sat.ob (by rw [BE.den, p3, Bool.or_true]) (Sat.ob (by rw [BE.den, show (BE.ile (.lit 0) (.var 10)).den v = true from decide_eq_true p4, Bool.or_true]) (Sat.br (fun hb => ?_) (fun _ => Sat.br (fun hb => ?_) (fun _ => ?_))))))
    · simp [BE.den, h21] at hb
    · have := hK.len
      simp [BE.den, IE.den, this] at hb
    refine Sat.loopK wInv3 (fun s => (s.iv 18 - s.iv 22).toNat) wK2 ⟨Int.le_refl 0, p2⟩ (fun _ => hK) fun s hK hI => ?_
    replace hI : wInv3 s := hI
    have o17 := hK.2.1
    have o9 := hK.1.2.2.2.2.2.1
    have hl := hK.len
    have b2 := o17.2.2
    simp only [Nat.reduceAdd] at b2
    rw [show (s.num.iv 18 - s.num.iv 22).toNat = (s.iv 18 - s.iv 22).toNat from rfl]
    refine Sat.ob (nilOb o17) (Sat.ob (decide_eq_true o17.2.1) (Sat.br (fun hlt => ?_) (fun _ => Sat.fin rfl)))
    replace hlt : s.iv 22 < s.iv 18 := of_decide_eq_true hlt
    obtain ⟨g1, g2, g3⟩ := hK.at hI.1 hlt
    have hi0 := hI.1
    have hm : (s.iv 18 - (s.iv 22 + 1)).toNat < (s.iv 18 - s.iv 22).toNat := by omega
    have f0 : s.ic 20 (s.iv 22).toNat 0 0 = s.ic 12 (s.iv 22).toNat 0 0 := congrArg Rw.thread g1
    have f1 : s.ic 20 (s.iv 22).toNat 0 1 = s.ic 12 (s.iv 22).toNat 0 1 := congrArg Rw.kind g1
    have f2 : s.ic 20 (s.iv 22).toNat 0 2 = s.ic 12 (s.iv 22).toNat 0 2 := congrArg Rw.key g1
    have f3 : s.ic 20 (s.iv 22).toNat 0 3 = s.ic 12 (s.iv 22).toNat 0 3 := congrArg Rw.val g1
    have f4 : s.ic 20 (s.iv 22).toNat 0 4 = s.ic 12 (s.iv 22).toNat 0 4 := congrArg Rw.tall g1
    have f5 : s.ic 20 (s.iv 22).toNat 0 5 = s.ic 12 (s.iv 22).toNat 0 5 := congrArg Rw.code g1
    have f6 : s.ic 20 (s.iv 22).toNat 0 6 = s.ic 12 (s.iv 22).toNat 0 6 := congrArg Rw.ans g1
    have f9 : s.bc 20 (s.iv 22).toNat 0 9 = true := (congrArg Rw.done g1).trans g3
    have f9' : s.bc 12 (s.iv 22).toNat 0 9 = true := g3
    refine Sat.ob (nilLt o17 (by simp only [Nat.reduceAdd]; omega)) (Sat.ob (decide_eq_true hI.1) (Sat.ob (nilLt o9 (by simp only [Nat.reduceAdd]; omega)) (Sat.ob (decide_eq_true (by show s.iv 22 < s.iv 10; omega)) (Sat.br (fun hb => ?_) (fun _ => Sat.br (fun hb => ?_) (fun _ => Sat.br (fun hb => ?_) (fun _ => Sat.br (fun hb => ?_) (fun _ => Sat.br (fun hb => ?_) (fun _ => ?_)))))))))
    · simp [BE.den, IE.den, f0] at hb
    · simp [BE.den, IE.den, f1, f2, f3, f4] at hb
    · simp [BE.den, IE.den, f5, f6] at hb
    · simp [BE.den, IE.den, f9] at hb
    · simp [BE.den, IE.den, f9'] at hb
    refine Sat.loopK wInv4 (fun s => (s.iv 18 - s.iv 23).toNat) (fun t => wK2 t ∧ wInv3 t ∧ t.iv 22 < t.iv 18 ∧ (t.iv 18 - (t.iv 22 + 1)).toNat < (s.iv 18 - s.iv 22).toNat) ⟨Int.le_refl 0, o17.2.1⟩ (fun _ => ⟨hK, hI, hlt, hm⟩) fun t ht hJ => ?_
    obtain ⟨hK, hI, hlt, hm⟩ := ht
    replace hJ : wInv4 t := hJ
    have hl := hK.len
    have b2 := hK.2.1.2.2
    simp only [Nat.reduceAdd] at b2
    obtain ⟨g1, g2, g3⟩ := hK.at hI.1 hlt
    rw [show (t.num.iv 18 - t.num.iv 23).toNat = (t.iv 18 - t.iv 23).toNat from rfl]
    have hi1 := hI.1
    have hj1 := hJ.1
    refine Sat.br (fun hlt2 => ?_) (fun _ => ?_)
    · replace hlt2 : t.iv 23 < t.iv 18 := of_decide_eq_true hlt2
      obtain ⟨k1, k2, k3⟩ := hK.at hJ.1 hlt2
      have ho := whole_order hK.1.2.2.2.2.1 g2 k2 g3
      rw [← g1, ← k1] at ho
      replace ho : t.ic 20 (t.iv 22).toNat 0 8 < t.ic 20 (t.iv 23).toNat 0 7 ↔ t.ic 12 (t.iv 22).toNat 0 8 < t.ic 12 (t.iv 23).toNat 0 7 := ho
      refine Sat.ob (decide_eq_true hJ.1) (Sat.ob (decide_eq_true (by show t.iv 23 < t.iv 10; omega)) (Sat.br (fun hb => ?_) (fun _ => Sat.ob (by simp only [D.le, D.lef, D.lt, D.ltf, D.eq, D.eqf, D.not, D.notf, D.and, D.andf, D.or, D.orf, D.inr, D.var, D.lit, D.cellB, D.beq, D.beqf, D.litI, D.varI, D.add, D.sub, D.mul, D.min, D.max, D.cellI, D.i64min, D.i64max, Int.toNat_zero]; omega) (Sat.back rfl ⟨⟨by show 0 ≤ t.iv 23 + 1; omega, by show t.iv 23 + 1 ≤ t.iv 18; omega⟩, by show (t.iv 18 - (t.iv 23 + 1)).toNat < (t.iv 18 - t.iv 23).toNat; omega⟩))))
      exfalso
      have e : decide (t.ic 20 (t.iv 22).toNat 0 8 < t.ic 20 (t.iv 23).toNat 0 7) = decide (t.ic 12 (t.iv 22).toNat 0 8 < t.ic 12 (t.iv 23).toNat 0 7) := decide_eq_decide.2 ho
      replace hb : (!(decide (t.ic 20 (t.iv 22).toNat 0 8 < t.ic 20 (t.iv 23).toNat 0 7) == decide (t.ic 12 (t.iv 22).toNat 0 8 < t.ic 12 (t.iv 23).toNat 0 7))) = true := hb
      rw [e] at hb
      simp at hb
    · exact Sat.ob (by simp only [D.le, D.lef, D.lt, D.ltf, D.eq, D.eqf, D.not, D.notf, D.and, D.andf, D.or, D.orf, D.inr, D.var, D.lit, D.cellB, D.beq, D.beqf, D.litI, D.varI, D.add, D.sub, D.mul, D.min, D.max, D.cellI, D.i64min, D.i64max, Int.toNat_zero]; omega) (Sat.back rfl ⟨⟨by show 0 ≤ t.iv 22 + 1; omega, by show t.iv 22 + 1 ≤ t.iv 18; omega⟩, hm⟩)
theorem wlaw_con : ConOK Tryd.prog (lawConG 26 ssB 5 [shEv]) (lawPre [shEv]) (lawPostG ssB [shEv]) :=
  con_ok tabOK (E := wlawE) (cs := wlawSem) rfl wlawSem_ok schedOK rfl wlaw_run (by kernel_rfl) (fun ρ _ p hp => by cases hp) wlaw_sat
end Go.Proofs.YtjhnfmfajbghbaaDoor
