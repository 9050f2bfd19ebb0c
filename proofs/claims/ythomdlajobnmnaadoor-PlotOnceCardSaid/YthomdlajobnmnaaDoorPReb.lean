/- 'PlotReborn': a slot that is given anew -/
import Derived.Test.YthomdlajobnmnaaDoorPCall
set_option linter.unusedSimpArgs false
set_option linter.unusedVariables false
namespace Go.Proofs.YthomdlajobnmnaaDoor
open Go.Rex
/-- a heap of one slot, in a generation, used or not -/
structure Rb (p : PS) (g : Int) (on : Bool) (s : Int) : Prop where
  ok : p.OK
  ns : p.ns = 1
  nb : p.nb = 0
  good : p.good = true
  gen : p.gen 0 = g
  used : p.used 0 = on
  nf : p.nf = if on = true then 0 else 1
  fr : on = false → p.fr 0 = 1
  steps : p.steps ≤ s
theorem Rb.next {p p' : PS} {a : Ac} {g s : Int} {on : Bool} {R : Option Rp} (h : Rb p g on s) (hp : p.act a = (p', R)) : p'.OK ∧ p'.ns = 1 ∧ p'.nb = 0 ∧ p'.steps ≤ s + 1 := by
  have h1 := h.ok.act a
  have h2 := p.act_steps a
  have h3 := p.act_dims a
  rw [hp] at h1 h2 h3
  simp only at h1 h2 h3
  have := h.steps
  exact ⟨h1, by rw [h3.1, h.ns], by rw [h3.2, h.nb], by omega⟩
theorem Fresh.rb {p : PS} (h : Fresh p 0 1) : Rb p 0 false 0 :=
  ⟨h.ok ⟨by decide, by decide⟩ ⟨by decide, by decide⟩, h.ns, h.nb, h.good, h.gen 0, h.used 0, by rw [h.nf]; rfl, fun _ => by rw [h.fr 0 (by decide)]; rfl, by rw [h.steps]; exact Int.le_refl 0⟩
theorem act_alloc {p : PS} {a : Ac} (hk : a.kind = 4) (h0 : ¬ p.nf = 0) {n : Int} (hn : p.fr (p.nf - 1).toNat = n) :
    p.act a = ({ p with steps := p.steps + 1, nf := p.nf - 1, made := p.made + 1, gen := fun i => if i = (n - 1).toNat then p.gen (n - 1).toNat + 1 else p.gen i, used := fun i => if i = (n - 1).toNat then true else p.used i, cell := fun i k => if i = (n - 1).toNat ∧ k < 10 then bornCells a.new.num k else p.cell i k },
      some ⟨⟨n, p.gen (n - 1).toNat + 1, 0, 0, false⟩, true⟩) := by
  subst hn
  exact act_to (by simp [PS.valid, hk]) (by simp [PS.right, hk]) (makes4s hk h0)
theorem Rb.alloc {p : PS} {a : Ac} {g s : Int} (h : Rb p g false s) (hk : a.kind = 4) : Rb (p.act a).1 (g + 1) true (s + 1) ∧ (p.act a).2 = some ⟨⟨1, g + 1, 0, 0, false⟩, true⟩ ∧ ∀ k, k < 10 → (p.act a).1.cell 0 k = bornCells a.new.num k := by
  have hn : p.nf = 1 := h.nf
  have hf : p.fr (p.nf - 1).toNat = 1 := by rw [hn]; exact h.fr rfl
  have ha := act_alloc hk (show ¬ p.nf = 0 by rw [hn]; decide) hf
  obtain ⟨x1, x2, x3, x4⟩ := h.next ha
  have e : ((1 : Int) - 1).toNat = 0 := rfl
  rw [ha]
  refine ⟨⟨x1, h.ns, h.nb, h.good, ?_, ?_, ?_, fun h => (by cases h), x4⟩, ?_, fun k hk => ?_⟩
  · simp only [e, if_true, h.gen]
  · simp only [e, if_true]
  · simp only [hn, if_true]
    decide
  · simp only [e, h.gen]
  · simp only [e, hk, and_self, if_true]
theorem Rb.store {p : PS} {a : Ac} {g s : Int} (h : Rb p g true s) (hk : a.kind = 2) (hs : a.slot = 1) (hg : a.gen = g) (hf : 0 ≤ a.field ∧ a.field < 10) : Rb (p.act a).1 g true (s + 1) := by
  have hv : p.valid a := by simp [PS.valid, hk, PS.has, PS.is, hs, h.ns, hf]
  have hr : p.right a := by simp [PS.right, hk, PS.live, hs, hg, h.used, h.gen]
  have ha := act_to hv hr (makes2s hk (show ¬ a.slot = 0 by rw [hs]; decide))
  obtain ⟨x1, x2, x3, x4⟩ := h.next ha
  rw [ha]
  exact ⟨x1, h.ns, h.nb, h.good, h.gen, h.used, h.nf, h.fr, x4⟩
theorem Rb.free {p : PS} {a : Ac} {g s : Int} (h : Rb p g true s) (hk : a.kind = 5) (hs : a.old.slot = 1) (hg : a.old.gen = g) : Rb (p.act a).1 g false (s + 1) := by
  have hv : p.valid a := by simp [PS.valid, hk, PS.is, hs, h.ns]
  have hr : p.right a := by simp [PS.right, hk, PS.live, hs, hg, h.used, h.gen]
  have hn : p.nf = 0 := h.nf
  have ha := act_to hv hr (makes5 hk)
  obtain ⟨x1, x2, x3, x4⟩ := h.next ha
  rw [ha]
  exact ⟨x1, h.ns, h.nb, h.good, h.gen, by simp [PS.free, hs], by simp [PS.free, hn], fun _ => by simp [PS.free, hn, hs], x4⟩
noncomputable def rebE : Ex := { sched := sched, loops := [L5a, L5b], cons := [awakeP, newCon, doCon], fin := lawConR 27 ssP 6 rtP 5 [shWs, shI] }
def rebOut : Out :=
  .call 0 { lo := 0, lob := 0, bk := [(9, { blk := 9 }), (7, { blk := 7 }), (5, { blk := 5 }), (3, { blk := 3 }), (1, { blk := 1 }), (10, { blk := 10 }), (8, { blk := 8 }), (6, { blk := 6 }), (4, { blk := 4 }), (2, { blk := 2 }), (0, { blk := 0 })] } 5 <|
   .call 1 { lo := 0, lob := 0, iv := [(1, (.lit 0)), (0, (.lit 1))] } 5 <|
   .call 2 { lo := 0, lob := 0, iv := [(20, (.var 9)), (19, (.var 8)), (18, (.var 7)), (17, (.var 6)), (15, (.lit 1)), (14, (.lit 0)), (12, (.lit 3)), (11, (.lit 0)), (10, (.lit 0)), (9, (.lit 0)), (7, (.lit 0)), (6, (.lit 0)), (5, (.lit 0)), (4, (.lit 0)), (3, (.lit 0)), (2, (.lit 0)), (1, (.lit 0)), (0, (.lit 4))], bv := [(21, (.var 10)), (16, (.var 5)), (13, (.lit false)), (8, (.lit false))], ct := [(25, .up { r := 14, n1 := (.var 6), s1 := 1, ks := [.int .i64] } 0 [] (.lit 0)), (24, .up { r := 13, n1 := (.lit 1), s1 := 52, n2 := 10, s2 := 5, lo := 2, ks := [.int .i64, .int .i64, .int .i64, .int .i64, .bool] } 1 [] (.lit 0)), (23, .up { r := 12, n1 := (.lit 1), s1 := 52, ks := [.int .i64, .bool] } 0 [] (.lit 0)), (22, .up { r := 11, n1 := (.lit 0), s1 := 5, ks := [.int .i64, .int .i64, .int .i64, .int .i64, .bool] } 0 [] (.lit 0))], bk := [(12, { blk := 16 }), (11, { blk := 15, i1 := (.lit 0), s1 := 1 }), (10, { blk := 14, i1 := (.lit 0), s1 := 52 }), (9, { blk := 13, i1 := (.lit 0), s1 := 5 }), (7, { blk := 9 }), (5, { blk := 7 }), (3, { blk := 5 }), (1, { blk := 1 }), (6, { blk := 8 }), (4, { blk := 6 }), (2, { blk := 4 }), (0, { blk := 0 }), (8, { blk := 12 })] } 15 <|
   .loop 32 { lo := 32, lob := 20, iv := [(41, (.var 26)), (40, (.var 25)), (38, (.var 24)), (37, (.var 23)), (32, (.lit 0))], bv := [(42, (.var 27)), (36, (.var 22))], ct := [(39, .up { r := 31, n1 := (.var 23), s1 := 1, ks := [.int .i64] } 0 [] (.lit 0)), (35, .up { r := 30, n1 := (.lit 1), s1 := 52, n2 := 10, s2 := 5, lo := 2, ks := [.int .i64, .int .i64, .int .i64, .int .i64, .bool] } 1 [] (.lit 0)), (34, .up { r := 29, n1 := (.lit 1), s1 := 52, ks := [.int .i64, .bool] } 0 [] (.lit 0)), (33, .up { r := 28, n1 := (.lit 0), s1 := 5, ks := [.int .i64, .int .i64, .int .i64, .int .i64, .bool] } 0 [] (.lit 0))], bk := [(21, { blk := 18 }), (20, { blk := 17, i1 := (.lit 0), s1 := 1 })] } <|
   .ob (.or (.not (.var 0)) (.ieq (.var 1) (.lit 0))) <|
   .ob (.ile (.lit 0) (.var 1)) <|
   .br (.and (.ilt (.var 32) (.var 1)) (.ilt (.var 32) (.lit 10)))
   (.ob (.not (.var 0)) <|
    .ob (.ile (.lit 0) (.var 32)) <|
    .call 2 { lo := 0, lob := 0, iv := [(20, (.var 41)), (19, (.var 40)), (18, (.var 38)), (17, (.var 37)), (15, (.lit 1)), (14, (.lit 0)), (12, (.cell 3 (.var 32) (.lit 0) 3)), (11, (.cell 3 (.var 32) (.lit 0) 2)), (10, (.cell 3 (.var 32) (.lit 0) 1)), (9, (.cell 3 (.var 32) (.lit 0) 0)), (7, (.lit 0)), (6, (.lit 0)), (5, (.lit 0)), (4, (.lit 0)), (3, (.var 32)), (2, (.var 16)), (1, (.lit 1)), (0, (.lit 2))], bv := [(21, (.var 42)), (16, (.var 36)), (13, (.cell 3 (.var 32) (.lit 0) 4)), (8, (.lit false))], ct := [(25, .up { r := 39, n1 := (.var 37), s1 := 1, ks := [.int .i64] } 0 [] (.lit 0)), (24, .up { r := 35, n1 := (.lit 1), s1 := 52, n2 := 10, s2 := 5, lo := 2, ks := [.int .i64, .int .i64, .int .i64, .int .i64, .bool] } 1 [] (.lit 0)), (23, .up { r := 34, n1 := (.lit 1), s1 := 52, ks := [.int .i64, .bool] } 0 [] (.lit 0)), (22, .up { r := 33, n1 := (.lit 0), s1 := 5, ks := [.int .i64, .int .i64, .int .i64, .int .i64, .bool] } 0 [] (.lit 0))], bk := [(12, { blk := 21 }), (11, { blk := 20, i1 := (.lit 0), s1 := 1 }), (10, { blk := 14, i1 := (.lit 0), s1 := 52 }), (9, { blk := 13, i1 := (.lit 0), s1 := 5 }), (7, { blk := 9 }), (5, { blk := 7 }), (3, { blk := 5 }), (1, { blk := 1 }), (6, { blk := 8 }), (4, { blk := 6 }), (2, { blk := 4 }), (0, { blk := 0 }), (8, { blk := 12 })] } 43 <|
    .ob (.inr .i64 (.add (.var 32) (.lit 1))) <|
    .back 0 { lo := 32, lob := 20, iv := [(41, (.var 54)), (40, (.var 53)), (38, (.var 52)), (37, (.var 51)), (32, (.add (.var 32) (.lit 1)))], bv := [(42, (.var 55)), (36, (.var 50))], ct := [(39, .up { r := 59, n1 := (.var 51), s1 := 1, ks := [.int .i64] } 0 [] (.lit 0)), (35, .up { r := 58, n1 := (.lit 1), s1 := 52, n2 := 10, s2 := 5, lo := 2, ks := [.int .i64, .int .i64, .int .i64, .int .i64, .bool] } 1 [] (.lit 0)), (34, .up { r := 57, n1 := (.lit 1), s1 := 52, ks := [.int .i64, .bool] } 0 [] (.lit 0)), (33, .up { r := 56, n1 := (.lit 0), s1 := 5, ks := [.int .i64, .int .i64, .int .i64, .int .i64, .bool] } 0 [] (.lit 0))], bk := [(21, { blk := 23 }), (20, { blk := 22, i1 := (.lit 0), s1 := 1 })] })
   (.call 2 { lo := 0, lob := 0, iv := [(20, (.var 41)), (19, (.var 40)), (18, (.var 38)), (17, (.var 37)), (15, (.lit 1)), (14, (.lit 0)), (12, (.lit 0)), (11, (.lit 0)), (10, (.lit 0)), (9, (.lit 0)), (7, (.var 18)), (6, (.var 17)), (5, (.var 16)), (4, (.var 15)), (3, (.lit 0)), (2, (.lit 0)), (1, (.lit 0)), (0, (.lit 5))], bv := [(21, (.var 42)), (16, (.var 36)), (13, (.lit false)), (8, (.var 19))], ct := [(25, .up { r := 39, n1 := (.var 37), s1 := 1, ks := [.int .i64] } 0 [] (.lit 0)), (24, .up { r := 35, n1 := (.lit 1), s1 := 52, n2 := 10, s2 := 5, lo := 2, ks := [.int .i64, .int .i64, .int .i64, .int .i64, .bool] } 1 [] (.lit 0)), (23, .up { r := 34, n1 := (.lit 1), s1 := 52, ks := [.int .i64, .bool] } 0 [] (.lit 0)), (22, .up { r := 33, n1 := (.lit 0), s1 := 5, ks := [.int .i64, .int .i64, .int .i64, .int .i64, .bool] } 0 [] (.lit 0))], bk := [(12, { blk := 21 }), (11, { blk := 20, i1 := (.lit 0), s1 := 1 }), (10, { blk := 14, i1 := (.lit 0), s1 := 52 }), (9, { blk := 13, i1 := (.lit 0), s1 := 5 }), (7, { blk := 9 }), (5, { blk := 7 }), (3, { blk := 5 }), (1, { blk := 1 }), (6, { blk := 8 }), (4, { blk := 6 }), (2, { blk := 4 }), (0, { blk := 0 }), (8, { blk := 12 })] } 43 <|
    .call 2 { lo := 0, lob := 0, iv := [(20, (.var 54)), (19, (.var 53)), (18, (.var 52)), (17, (.var 51)), (15, (.lit 1)), (14, (.lit 0)), (12, (.var 4)), (11, (.lit 4)), (10, (.lit 0)), (9, (.lit 0)), (7, (.lit 0)), (6, (.lit 0)), (5, (.lit 0)), (4, (.lit 0)), (3, (.lit 0)), (2, (.lit 0)), (1, (.lit 0)), (0, (.lit 4))], bv := [(21, (.var 55)), (16, (.var 50)), (13, (.lit true)), (8, (.lit false))], ct := [(25, .up { r := 59, n1 := (.var 51), s1 := 1, ks := [.int .i64] } 0 [] (.lit 0)), (24, .up { r := 58, n1 := (.lit 1), s1 := 52, n2 := 10, s2 := 5, lo := 2, ks := [.int .i64, .int .i64, .int .i64, .int .i64, .bool] } 1 [] (.lit 0)), (23, .up { r := 57, n1 := (.lit 1), s1 := 52, ks := [.int .i64, .bool] } 0 [] (.lit 0)), (22, .up { r := 56, n1 := (.lit 0), s1 := 5, ks := [.int .i64, .int .i64, .int .i64, .int .i64, .bool] } 0 [] (.lit 0))], bk := [(12, { blk := 23 }), (11, { blk := 22, i1 := (.lit 0), s1 := 1 }), (10, { blk := 14, i1 := (.lit 0), s1 := 52 }), (9, { blk := 13, i1 := (.lit 0), s1 := 5 }), (7, { blk := 9 }), (5, { blk := 7 }), (3, { blk := 5 }), (1, { blk := 1 }), (6, { blk := 8 }), (4, { blk := 6 }), (2, { blk := 4 }), (0, { blk := 0 }), (8, { blk := 12 })] } 60 <|
    .loop 77 { lo := 77, lob := 27, iv := [(77, (.lit 0))] } <|
    .br (.ilt (.var 77) (.lit 10))
    (.br (.and (.ile (.lit 0) (.var 77)) (.ilt (.var 77) (.lit 10)))
     (.br (.not (.cell 74 (.lit 0) (.lit 0) 1))
      (.br (.ieq (.var 77) (.lit 9))
       (.fin { lo := 5, lob := 12, bv := [(5, (.lit false))] })
       (.fin { lo := 5, lob := 12, bv := [(5, (.lit false))] }))
      (.br (.not (.ieq (.cell 74 (.lit 0) (.lit 0) 0) (.var 61)))
       (.br (.ieq (.var 77) (.lit 9))
        (.fin { lo := 5, lob := 12, bv := [(5, (.lit false))] })
        (.fin { lo := 5, lob := 12, bv := [(5, (.lit false))] }))
       (.br (.ieq (.var 77) (.lit 9))
        (.br (.not (.and (.ieq (.cell 75 (.lit 0) (.var 77) 0) (.lit 0)) (.and (.ieq (.cell 75 (.lit 0) (.var 77) 1) (.lit 0)) (.and (.ieq (.cell 75 (.lit 0) (.var 77) 2) (.lit 0)) (.and (.ieq (.cell 75 (.lit 0) (.var 77) 3) (.var 4)) (.not (.cell 75 (.lit 0) (.var 77) 4)))))))
         (.fin { lo := 5, lob := 12, bv := [(5, (.lit false))] })
         (.ob (.inr .i64 (.add (.var 77) (.lit 1))) <|
          .back 0 { lo := 77, lob := 27, iv := [(77, (.add (.var 77) (.lit 1)))] }))
        (.br (.not (.and (.ieq (.cell 75 (.lit 0) (.var 77) 0) (.lit 0)) (.and (.ieq (.cell 75 (.lit 0) (.var 77) 1) (.lit 0)) (.and (.ieq (.cell 75 (.lit 0) (.var 77) 2) (.lit 0)) (.and (.ieq (.cell 75 (.lit 0) (.var 77) 3) (.lit 0)) (.not (.cell 75 (.lit 0) (.var 77) 4)))))))
         (.fin { lo := 5, lob := 12, bv := [(5, (.lit false))] })
         (.ob (.inr .i64 (.add (.var 77) (.lit 1))) <|
          .back 0 { lo := 77, lob := 27, iv := [(77, (.add (.var 77) (.lit 1)))] })))))
     (.br (.ieq (.var 77) (.lit 9))
      (.fin { lo := 5, lob := 12, bv := [(5, (.lit false))] })
      (.fin { lo := 5, lob := 12, bv := [(5, (.lit false))] })))
    (.br (.and (.ieq (.var 60) (.lit 1)) (.and (.ieq (.var 61) (.lit 2)) (.and (.ieq (.var 62) (.lit 0)) (.and (.ieq (.var 63) (.lit 0)) (.not (.var 64))))))
     (.fin { lo := 5, lob := 12, bv := [(5, (.var 72))] })
     (.fin { lo := 5, lob := 12, bv := [(5, (.lit false))] })))
theorem reb_run : exec tab rebE 8000 [] (cfg0 5 5 [] (lawConR 27 ssP 6 rtP 5 [shWs, shI]).gl (lawConR 27 ssP 6 rtP 5 [shWs, shI]).hp (lawConR 27 ssP 6 rtP 5 [shWs, shI]).args) = rebOut := by kernel_rfl
def lSem : CSem := [(awakeP, yesPre, yesPre), (newCon, newPre, newPost), (doCon, doPre, doPost)]
theorem lSem_ok : ∀ k pre post, (k, pre, post) ∈ lSem → conWf k = true ∧ ConOK Tryd.prog k pre post := by
  intro k pre post h
  simp only [lSem, List.mem_cons, List.not_mem_nil, or_false, Prod.mk.injEq] at h
  rcases h with ⟨rfl, rfl, rfl⟩ | ⟨rfl, rfl, rfl⟩ | ⟨rfl, rfl, rfl⟩
  · exact ⟨by kernel_rfl, awake_con⟩
  · exact ⟨by kernel_rfl, new_con⟩
  · exact ⟨by kernel_rfl, do_con⟩
def rebA (q : Env) : Prop := OkSl q 0 ∧ q.iv 15 = 1 ∧ q.iv 16 = 1
def rebInv (ρ : Env) : Prop := (0 ≤ ρ.iv 32 ∧ ρ.iv 32 ≤ 10) ∧ OkSl ρ 36 ∧ Rb (psLp ρ 0 1 33) 1 true (ρ.iv 32 + 1)
def rebB (q : Env) : Prop := Rb (psRd q 0 1 67) 2 true 20 ∧ (∀ k, k < 10 → mkW (q.ic 75 0 k) (q.bc 75 0 k) = bornCells (q.iv 4) k) ∧ wdRd q 60 = ⟨1, 2, 0, 0, false⟩
def rebInv2 (ρ : Env) : Prop := 0 ≤ ρ.iv 77 ∧ ρ.iv 77 ≤ 10
theorem wd_eq {a b : Wd} (h : a = b) : a.slot = b.slot ∧ a.gen = b.gen ∧ a.tag = b.tag ∧ a.num = b.num ∧ a.mark = b.mark := by
  subst h
  exact ⟨rfl, rfl, rfl, rfl, rfl⟩
set_option maxHeartbeats 4000000 in
theorem reb_sat (ρ : Env) (hpre : lawPre [shWs, shI] ρ.num) : Sat (lawPostR ssP [shWs, shI]) lSem [] ρ rebOut := by
  replace hpre : ((ρ.bv 0 = true → ρ.iv 1 = 0 ∧ ρ.iv 2 = 0) ∧ 0 ≤ ρ.iv 1 ∧ ρ.iv 1 ≤ ρ.iv 2 ∧ ρ.iv 2 ≤ 9223372036854775807 ∧ KdRange ρ 3 (ρ.iv 1) kW) ∧ _ := hpre
  have hk : OkSl ρ 0 := ⟨fun h => (hpre.1.1 h).1, hpre.1.2.1, hpre.1.2.2.1, hpre.1.2.2.2.1⟩
  unfold rebOut
  refine Sat.callK (c := awakeP) rfl trivial (fun q => OkSl q 0) (fun _ _ => hk) fun q hk => ?_
  refine new_call rfl (n := 0) (m := 1) rfl rfl ⟨by decide, by decide⟩ ⟨by decide, by decide⟩ (fun q => OkSl q 0 ∧ OkSl q 5 ∧ Rb (psRd q 0 1 5) 0 false 0) (fun e ho hf => ⟨hk, ho, hf.rb⟩) fun q hq => ?_
  obtain ⟨hk, ho, hr⟩ := hq
  obtain ⟨r1, r2, -⟩ := hr.alloc (a := ⟨4, 0, 0, 0, ⟨0, 0, 0, 0, false⟩, ⟨0, 0, 0, 3, false⟩⟩) rfl
  refine do_call rfl (psRd q 0 1 5) ⟨4, 0, 0, 0, ⟨0, 0, 0, 0, false⟩, ⟨0, 0, 0, 3, false⟩⟩ (n := 0) (m := 1) rfl rfl (PS.ext' rfl rfl rfl rfl rfl rfl (fun i => by simp [psRd, psLp, mkW, -Int.pred_toNat, Sub.nenv, assoc, CV.I, CV.B, upsI, upsB, Seg.I, Seg.B, SC.I, SC.B, IE.den, BE.den]) (fun i => by simp [psRd, psLp, -Int.pred_toNat, Sub.nenv, assoc, CV.I, CV.B, upsI, upsB, Seg.I, Seg.B, SC.I, SC.B, IE.den, BE.den]) (fun i => by simp [psRd, psLp, -Int.pred_toNat, Sub.nenv, assoc, CV.I, CV.B, upsI, upsB, Seg.I, Seg.B, SC.I, SC.B, IE.den, BE.den]) (fun i k => by simp [psRd, psLp, mkW, -Int.pred_toNat, Sub.nenv, assoc, CV.I, CV.B, upsI, upsB, Seg.I, Seg.B, SC.I, SC.B, IE.den, BE.den]) (fun i => by simp [psRd, psLp, -Int.pred_toNat, Sub.nenv, assoc, CV.I, CV.B, upsI, upsB, Seg.I, Seg.B, SC.I, SC.B, IE.den, BE.den])) rfl ho hr.ok (Int.le_trans hr.steps (by decide)) (fun u => rebA u ∧ OkSl u 22 ∧ Rb (psRd u 0 1 22) 1 true 1) (fun e h1 h2 h3 h4 => ⟨?_, h1, by rw [h2]; exact r1⟩) fun u hu => ?_
  · rw [r2] at h4
    have := wd_eq (congrArg Rp.word h4)
    exact ⟨hk, this.1, this.2.1⟩
  obtain ⟨hk, ho, hr⟩ := hu
  refine Sat.loopK rebInv (fun r => (10 - r.iv 32).toNat) rebA ⟨⟨Int.le_refl 0, by show (0 : Int) ≤ 10; decide⟩, ho, ?_⟩ (fun _ => hk) fun r hk hI => ?_
  · refine cast (congrArg (fun p => Rb p 1 true 1) ?_) hr
    exact Eq.symm (PS.ext' rfl rfl rfl rfl rfl rfl (fun i => by simp [psRd, psLp, mkW, -Int.pred_toNat, Sub.nenv, assoc, CV.I, CV.B, upsI, upsB, Seg.I, Seg.B, SC.I, SC.B, IE.den, BE.den]) (fun i => by simp [psRd, psLp, -Int.pred_toNat, Sub.nenv, assoc, CV.I, CV.B, upsI, upsB, Seg.I, Seg.B, SC.I, SC.B, IE.den, BE.den]) (fun i => by simp [psRd, psLp, -Int.pred_toNat, Sub.nenv, assoc, CV.I, CV.B, upsI, upsB, Seg.I, Seg.B, SC.I, SC.B, IE.den, BE.den]) (fun i k => by simp [psRd, psLp, mkW, -Int.pred_toNat, Sub.nenv, assoc, CV.I, CV.B, upsI, upsB, Seg.I, Seg.B, SC.I, SC.B, IE.den, BE.den]) (fun i => by simp [psRd, psLp, -Int.pred_toNat, Sub.nenv, assoc, CV.I, CV.B, upsI, upsB, Seg.I, Seg.B, SC.I, SC.B, IE.den, BE.den]))
  replace hI : rebInv r := hI
  rw [show (10 - r.num.iv 32).toNat = (10 - r.iv 32).toNat from rfl]
  obtain ⟨⟨i1, i2⟩, ho, hr⟩ := hI
  obtain ⟨hs, k1, k2⟩ := hk
  refine Sat.ob (nilOb hs) (Sat.ob (decide_eq_true hs.2.1) (Sat.br (fun hlt => ?_) (fun _ => ?_)))
  · simp only [D.le, D.lef, D.lt, D.ltf, D.eq, D.eqf, D.not, D.notf, D.and, D.andf, D.or, D.orf, D.inr, D.var, D.lit, D.cellB, D.beq, D.beqf, D.litI, D.varI, D.add, D.sub, D.mul, D.min, D.max, D.cellI, D.i64min, D.i64max, Int.toNat_zero] at hlt
    have h1 := hs.2.1
    have hst := hr.steps
    have r1 := hr.store (a := ⟨2, 1, r.iv 16, r.iv 32, ⟨0, 0, 0, 0, false⟩, ⟨r.ic 3 (r.iv 32).toNat 0 0, r.ic 3 (r.iv 32).toNat 0 1, r.ic 3 (r.iv 32).toNat 0 2, r.ic 3 (r.iv 32).toNat 0 3, r.bc 3 (r.iv 32).toNat 0 4⟩⟩) rfl rfl k2 ⟨i1, hlt.2⟩
    refine Sat.ob (nilLt hs (by simp only [Nat.zero_add]; omega)) (Sat.ob (decide_eq_true i1) (do_call rfl (psLp r 0 1 33) ⟨2, 1, r.iv 16, r.iv 32, ⟨0, 0, 0, 0, false⟩, ⟨r.ic 3 (r.iv 32).toNat 0 0, r.ic 3 (r.iv 32).toNat 0 1, r.ic 3 (r.iv 32).toNat 0 2, r.ic 3 (r.iv 32).toNat 0 3, r.bc 3 (r.iv 32).toNat 0 4⟩⟩ (n := 0) (m := 1) rfl rfl (PS.ext' rfl rfl rfl rfl rfl rfl (fun i => by simp [psRd, psLp, mkW, -Int.pred_toNat, Sub.nenv, assoc, CV.I, CV.B, upsI, upsB, Seg.I, Seg.B, SC.I, SC.B, IE.den, BE.den]) (fun i => by simp [psRd, psLp, -Int.pred_toNat, Sub.nenv, assoc, CV.I, CV.B, upsI, upsB, Seg.I, Seg.B, SC.I, SC.B, IE.den, BE.den]) (fun i => by simp [psRd, psLp, -Int.pred_toNat, Sub.nenv, assoc, CV.I, CV.B, upsI, upsB, Seg.I, Seg.B, SC.I, SC.B, IE.den, BE.den]) (fun i k => by simp [psRd, psLp, mkW, -Int.pred_toNat, Sub.nenv, assoc, CV.I, CV.B, upsI, upsB, Seg.I, Seg.B, SC.I, SC.B, IE.den, BE.den]) (fun i => by simp [psRd, psLp, -Int.pred_toNat, Sub.nenv, assoc, CV.I, CV.B, upsI, upsB, Seg.I, Seg.B, SC.I, SC.B, IE.den, BE.den])) rfl ho hr.ok (by omega)
      (fun u => (0 ≤ u.iv 32 ∧ u.iv 32 < 10 ∧ (10 - (u.iv 32 + 1)).toNat < (10 - r.iv 32).toNat) ∧ OkSl u 50 ∧ Rb (psRd u 0 1 50) 1 true (u.iv 32 + 1 + 1)) (fun e h1 h2 h3 h4 => ⟨⟨i1, hlt.2, ?_⟩, h1, by rw [h2]; exact r1⟩) fun u hu => ?_))
    · show (10 - (r.iv 32 + 1)).toNat < (10 - r.iv 32).toNat
      omega
    obtain ⟨⟨j1, j2, j3⟩, ho, hr⟩ := hu
    refine Sat.ob (by simp only [D.le, D.lef, D.lt, D.ltf, D.eq, D.eqf, D.not, D.notf, D.and, D.andf, D.or, D.orf, D.inr, D.var, D.lit, D.cellB, D.beq, D.beqf, D.litI, D.varI, D.add, D.sub, D.mul, D.min, D.max, D.cellI, D.i64min, D.i64max, Int.toNat_zero]; omega) (Sat.back rfl ⟨⟨⟨by show 0 ≤ u.iv 32 + 1; omega, by show u.iv 32 + 1 ≤ 10; omega⟩, ho, ?_⟩, j3⟩)
    refine cast (congrArg (fun p => Rb p 1 true (u.iv 32 + 1 + 1)) ?_) hr
    exact Eq.symm (PS.ext' rfl rfl rfl rfl rfl rfl (fun i => by simp [psRd, psLp, mkW, -Int.pred_toNat, Sub.nenv, assoc, CV.I, CV.B, upsI, upsB, Seg.I, Seg.B, SC.I, SC.B, IE.den, BE.den]) (fun i => by simp [psRd, psLp, -Int.pred_toNat, Sub.nenv, assoc, CV.I, CV.B, upsI, upsB, Seg.I, Seg.B, SC.I, SC.B, IE.den, BE.den]) (fun i => by simp [psRd, psLp, -Int.pred_toNat, Sub.nenv, assoc, CV.I, CV.B, upsI, upsB, Seg.I, Seg.B, SC.I, SC.B, IE.den, BE.den]) (fun i k => by simp [psRd, psLp, mkW, -Int.pred_toNat, Sub.nenv, assoc, CV.I, CV.B, upsI, upsB, Seg.I, Seg.B, SC.I, SC.B, IE.den, BE.den]) (fun i => by simp [psRd, psLp, -Int.pred_toNat, Sub.nenv, assoc, CV.I, CV.B, upsI, upsB, Seg.I, Seg.B, SC.I, SC.B, IE.den, BE.den]))
  · have hst := hr.steps
    have r1 := hr.free (a := ⟨5, 0, 0, 0, ⟨r.iv 15, r.iv 16, r.iv 17, r.iv 18, r.bv 19⟩, ⟨0, 0, 0, 0, false⟩⟩) rfl k1 k2
    refine do_call rfl (psLp r 0 1 33) ⟨5, 0, 0, 0, ⟨r.iv 15, r.iv 16, r.iv 17, r.iv 18, r.bv 19⟩, ⟨0, 0, 0, 0, false⟩⟩ (n := 0) (m := 1) rfl rfl (PS.ext' rfl rfl rfl rfl rfl rfl (fun i => by simp [psRd, psLp, mkW, -Int.pred_toNat, Sub.nenv, assoc, CV.I, CV.B, upsI, upsB, Seg.I, Seg.B, SC.I, SC.B, IE.den, BE.den]) (fun i => by simp [psRd, psLp, -Int.pred_toNat, Sub.nenv, assoc, CV.I, CV.B, upsI, upsB, Seg.I, Seg.B, SC.I, SC.B, IE.den, BE.den]) (fun i => by simp [psRd, psLp, -Int.pred_toNat, Sub.nenv, assoc, CV.I, CV.B, upsI, upsB, Seg.I, Seg.B, SC.I, SC.B, IE.den, BE.den]) (fun i k => by simp [psRd, psLp, mkW, -Int.pred_toNat, Sub.nenv, assoc, CV.I, CV.B, upsI, upsB, Seg.I, Seg.B, SC.I, SC.B, IE.den, BE.den]) (fun i => by simp [psRd, psLp, -Int.pred_toNat, Sub.nenv, assoc, CV.I, CV.B, upsI, upsB, Seg.I, Seg.B, SC.I, SC.B, IE.den, BE.den])) rfl ho hr.ok (by omega) (fun u => OkSl u 50 ∧ Rb (psRd u 0 1 50) 1 false 12) (fun e h1 h2 h3 h4 => ⟨h1, ?_⟩) fun u hu => ?_
    · rw [h2]
      exact ⟨r1.ok, r1.ns, r1.nb, r1.good, r1.gen, r1.used, r1.nf, r1.fr, Int.le_trans r1.steps (by omega)⟩
    obtain ⟨ho, hr⟩ := hu
    obtain ⟨r1, r2, r3⟩ := hr.alloc (a := ⟨4, 0, 0, 0, ⟨0, 0, 0, 0, false⟩, ⟨0, 0, 4, u.iv 4, true⟩⟩) rfl
    refine do_call rfl (psRd u 0 1 50) ⟨4, 0, 0, 0, ⟨0, 0, 0, 0, false⟩, ⟨0, 0, 4, u.iv 4, true⟩⟩ (n := 0) (m := 1) rfl rfl (PS.ext' rfl rfl rfl rfl rfl rfl (fun i => by simp [psRd, psLp, mkW, -Int.pred_toNat, Sub.nenv, assoc, CV.I, CV.B, upsI, upsB, Seg.I, Seg.B, SC.I, SC.B, IE.den, BE.den]) (fun i => by simp [psRd, psLp, -Int.pred_toNat, Sub.nenv, assoc, CV.I, CV.B, upsI, upsB, Seg.I, Seg.B, SC.I, SC.B, IE.den, BE.den]) (fun i => by simp [psRd, psLp, -Int.pred_toNat, Sub.nenv, assoc, CV.I, CV.B, upsI, upsB, Seg.I, Seg.B, SC.I, SC.B, IE.den, BE.den]) (fun i k => by simp [psRd, psLp, mkW, -Int.pred_toNat, Sub.nenv, assoc, CV.I, CV.B, upsI, upsB, Seg.I, Seg.B, SC.I, SC.B, IE.den, BE.den]) (fun i => by simp [psRd, psLp, -Int.pred_toNat, Sub.nenv, assoc, CV.I, CV.B, upsI, upsB, Seg.I, Seg.B, SC.I, SC.B, IE.den, BE.den])) rfl ho hr.ok (Int.le_trans hr.steps (by decide)) rebB (fun e h1 h2 h3 h4 => ⟨?_, fun k hk => ?_, ?_⟩) fun v hB => ?_
    · rw [h2]
      exact ⟨r1.ok, r1.ns, r1.nb, r1.good, r1.gen, r1.used, r1.nf, r1.fr, Int.le_trans r1.steps (by decide)⟩
    · have := r3 k hk
      rw [← h2] at this
      exact this
    · rw [r2] at h4
      exact congrArg Rp.word h4
    refine Sat.loopK rebInv2 (fun r => (10 - r.iv 77).toNat) rebB ⟨Int.le_refl 0, by show (0 : Int) ≤ 10; decide⟩ (fun _ => hB) fun w hB hI => ?_
    replace hI : rebInv2 w := hI
    rw [show (10 - w.num.iv 77).toNat = (10 - w.iv 77).toNat from rfl]
    obtain ⟨i1, i2⟩ := hI
    obtain ⟨hr, hc, hw⟩ := hB
    obtain ⟨w1, w2, w3, w4, w5⟩ := wd_eq hw
    replace w1 : w.iv 60 = 1 := w1
    replace w2 : w.iv 61 = 2 := w2
    replace w3 : w.iv 62 = 0 := w3
    replace w4 : w.iv 63 = 0 := w4
    replace w5 : w.bv 64 = false := w5
    have hu : w.bc 74 0 0 1 = true := hr.used
    have hg : w.ic 74 0 0 0 = 2 := hr.gen
    refine Sat.br (fun hlt => ?_) (fun _ => ?_)
    · simp only [D.le, D.lef, D.lt, D.ltf, D.eq, D.eqf, D.not, D.notf, D.and, D.andf, D.or, D.orf, D.inr, D.var, D.lit, D.cellB, D.beq, D.beqf, D.litI, D.varI, D.add, D.sub, D.mul, D.min, D.max, D.cellI, D.i64min, D.i64max, Int.toNat_zero] at hlt
      obtain ⟨c1, c2, c3, c4, c5⟩ := wd_eq (hc (w.iv 77).toNat (by omega))
      replace c1 : w.ic 75 0 (w.iv 77).toNat 0 = _ := c1
      replace c2 : w.ic 75 0 (w.iv 77).toNat 1 = _ := c2
      replace c3 : w.ic 75 0 (w.iv 77).toNat 2 = _ := c3
      replace c4 : w.ic 75 0 (w.iv 77).toNat 3 = _ := c4
      replace c5 : w.bc 75 0 (w.iv 77).toNat 4 = _ := c5
      refine Sat.br (fun _ => ?_) (fun hb => ?_)
      · refine Sat.br (fun hb => ?_) (fun _ => Sat.br (fun hb => ?_) (fun _ => Sat.br (fun h9 => ?_) (fun h9 => ?_)))
        · simp [BE.den, IE.den, hu] at hb
        · simp [BE.den, IE.den, hg, w2] at hb
        · simp only [D.le, D.lef, D.lt, D.ltf, D.eq, D.eqf, D.not, D.notf, D.and, D.andf, D.or, D.orf, D.inr, D.var, D.lit, D.cellB, D.beq, D.beqf, D.litI, D.varI, D.add, D.sub, D.mul, D.min, D.max, D.cellI, D.i64min, D.i64max, Int.toNat_zero] at h9
          simp only [bornCells, show (w.iv 77).toNat = 9 by omega, if_true, Wd.zero] at c1 c2 c3 c4 c5
          refine Sat.br (fun hb => ?_) (fun _ => Sat.ob (by simp only [D.le, D.lef, D.lt, D.ltf, D.eq, D.eqf, D.not, D.notf, D.and, D.andf, D.or, D.orf, D.inr, D.var, D.lit, D.cellB, D.beq, D.beqf, D.litI, D.varI, D.add, D.sub, D.mul, D.min, D.max, D.cellI, D.i64min, D.i64max, Int.toNat_zero]; omega) (Sat.back rfl ⟨⟨by show 0 ≤ w.iv 77 + 1; omega, by show w.iv 77 + 1 ≤ 10; omega⟩, by show (10 - (w.iv 77 + 1)).toNat < (10 - w.iv 77).toNat; omega⟩))
          exfalso
          have e9 : (w.iv 77).toNat = 9 := by omega
          simp [BE.den, IE.den, e9, c1, c2, c3, c4, c5] at hb
        · simp only [D.le, D.lef, D.lt, D.ltf, D.eq, D.eqf, D.not, D.notf, D.and, D.andf, D.or, D.orf, D.inr, D.var, D.lit, D.cellB, D.beq, D.beqf, D.litI, D.varI, D.add, D.sub, D.mul, D.min, D.max, D.cellI, D.i64min, D.i64max, Int.toNat_zero] at h9
          have n9 : ¬ (w.iv 77).toNat = 9 := by omega
          simp only [bornCells, n9, if_false, Wd.zero] at c1 c2 c3 c4 c5
          refine Sat.br (fun hb => ?_) (fun _ => Sat.ob (by simp only [D.le, D.lef, D.lt, D.ltf, D.eq, D.eqf, D.not, D.notf, D.and, D.andf, D.or, D.orf, D.inr, D.var, D.lit, D.cellB, D.beq, D.beqf, D.litI, D.varI, D.add, D.sub, D.mul, D.min, D.max, D.cellI, D.i64min, D.i64max, Int.toNat_zero]; omega) (Sat.back rfl ⟨⟨by show 0 ≤ w.iv 77 + 1; omega, by show w.iv 77 + 1 ≤ 10; omega⟩, by show (10 - (w.iv 77 + 1)).toNat < (10 - w.iv 77).toNat; omega⟩))
          exfalso
          simp [BE.den, IE.den, c1, c2, c3, c4, c5] at hb
      · simp only [D.le, D.lef, D.lt, D.ltf, D.eq, D.eqf, D.not, D.notf, D.and, D.andf, D.or, D.orf, D.inr, D.var, D.lit, D.cellB, D.beq, D.beqf, D.litI, D.varI, D.add, D.sub, D.mul, D.min, D.max, D.cellI, D.i64min, D.i64max, Int.toNat_zero] at hb
        omega
    · refine Sat.br (fun _ => Sat.fin (show w.bv 72 = true from hr.good)) (fun hb => ?_)
      exfalso
      simp [BE.den, IE.den, w1, w2, w3, w4, w5] at hb
theorem reb_con : ConOK Tryd.prog (lawConR 27 ssP 6 rtP 5 [shWs, shI]) (lawPre [shWs, shI]) (lawPostR ssP [shWs, shI]) :=
  con_ok tabOK (E := rebE) (cs := lSem) rfl lSem_ok schedOK rfl reb_run (by kernel_rfl) (fun ρ _ p hp => by cases hp) reb_sat
end Go.Proofs.YthomdlajobnmnaaDoor
