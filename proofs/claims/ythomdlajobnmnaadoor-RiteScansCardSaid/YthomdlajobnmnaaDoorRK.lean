/- plain words for 'RiteScans': what is announced, what is made, and how the kept ones are counted -/
import Derived.Test.YthomdlajobnmnaaDoorRScPl
import Derived.Test.YthomdlajobnmnaaDoorRB
import Derived.Test.YthomdlajobnmnaaDoorRJ
set_option linter.unusedSimpArgs false
set_option linter.unusedVariables false
set_option linter.unusedSimpArgs false
namespace Go.Proofs.YthomdlajobnmnaaDoor
open Go.Rex
def Bq (K : Nat → Int) (n : Nat) (j : Nat) : Wd := if j = 24 then ⟨0, 0, 0, 1, false⟩ else if 34 ≤ j ∧ j < 34 + n then ⟨K (j - 34), 1, 0, 0, false⟩ else Wd.zero
theorem Bq_clean (K : Nat → Int) (n j : Nat) : (Bq K n (25 + j)).tag = 0 ∧ (Bq K n (25 + j)).num = 0 := by
 unfold Bq
 rw [if_neg (show ¬ 25 + j = 24 by omega)]
 by_cases h : 34 ≤ 25 + j ∧ 25 + j < 34 + n
 ·rw [if_pos h]; exact ⟨rfl, rfl⟩
 ·rw [if_neg h]; exact ⟨rfl, rfl⟩
def stay (K : Nat → Int) (n : Nat) (s : Int) : Bool := (List.range n).any fun j => K j == s
theorem stay_succ (K : Nat → Int) (n : Nat) (s : Int) : stay K (n + 1) s = (stay K n s || (K n == s)) := by
 unfold stay
 rw [List.range_succ, List.any_append]
 simp
theorem kpt_stay {K : Nat → Int} {m : Nat} (hm : m ≤ 18) (i : Nat) : kpt (Bq K m) i = stay K m ((i : Int) + 1) := by
 rw [Bool.eq_iff_iff]
 unfold kpt stay Bq
 simp only [List.any_eq_true, List.mem_range, beq_iff_eq]
 constructor
 ·rintro ⟨j, hj, h⟩
  rw [if_neg (show ¬ 25 + j = 24 by omega)] at h
  by_cases c : 34 ≤ 25 + j ∧ 25 + j < 34 + m
  ·rw [if_pos c] at h
   exact ⟨25 + j - 34, by omega, h⟩
  ·rw [if_neg c] at h
   replace h : (0 : Int) = (i : Int) + 1 := h
   omega
 ·rintro ⟨k, hk, h⟩
  refine ⟨k + 9, by omega, ?_⟩
  rw [if_neg (by omega), if_pos (by omega), show 25 + (k + 9) - 34 = k by omega]
  exact h
structure S1 (p : PS) (n : Int) (K : Nat → Int) (i : Nat) : Prop where
 ok : p.OK
 ns : p.ns = n
 nb : p.nb = 85
 nf : p.nf = n
 good : p.good = true
 bd : ∀ j, p.bd j = Bq K i j
 gen : ∀ j, p.gen j = 0
 used : ∀ j, p.used j = false
 fr : ∀ k : Nat, (k : Int) < n → p.fr k = n - k
 steps : p.steps ≤ i + 1
def aClk0 : Ac := ⟨2, 0, 0, 24, ⟨0, 0, 0, 0, false⟩, ⟨0, 0, 0, 1, false⟩⟩
theorem Fresh.s1 {p : PS} {n : Int} (h : Fresh p 85 n) (K : Nat → Int) (h1 : 0 ≤ n ∧ n ≤ 1024) : S1 (p.act aClk0).1 n K 0 := by
 have hp := h.ok h1 ⟨by decide, by decide⟩
 have hv : p.valid aClk0 := by simp [PS.valid, aClk0, PS.has, h.nb]
 have hr : p.right aClk0 := by simp [PS.right, aClk0, PS.live]
 have ha := act_to hv hr (makes2b (p := { p with steps := p.steps + 1 }) (a := aClk0) rfl rfl)
 have hk := hp.act aClk0
 rw [ha] at hk ⊢
 refine ⟨hk, h.ns, h.nb, h.nf, h.good, fun j => ?_, h.gen, h.used, h.fr, ?_⟩
 ·show (if j = (24 : Int).toNat then _ else p.bd j) = _
  rw [h.bd j, show (24 : Int).toNat = 24 from rfl]
  unfold Bq
  by_cases c : j = 24
  ·rw [if_pos c, if_pos c]; rfl
  ·rw [if_neg c, if_neg c, if_neg (by omega)]
 ·show p.steps + 1 ≤ (0 : Int) + 1
  rw [h.steps]
  decide
def aSay (i : Nat) (k : Int) : Ac := ⟨2, 0, 0, 34 + (i : Int), ⟨0, 0, 0, 0, false⟩, ⟨k, 1, 0, 0, false⟩⟩
theorem S1.step {p : PS} {n : Int} {K : Nat → Int} {i : Nat} (h : S1 p n K i) (hi : i < 18) : S1 (p.act (aSay i (K i))).1 n K (i + 1) := by
 have hv : p.valid (aSay i (K i)) := by simp [PS.valid, aSay, PS.has, h.nb]; omega
 have hr : p.right (aSay i (K i)) := by simp [PS.right, aSay, PS.live]
 have e : (34 + (i : Int)).toNat = 34 + i := by omega
 have ha := act_to hv hr (makes2b (p := { p with steps := p.steps + 1 }) (a := aSay i (K i)) rfl rfl)
 have hk := h.ok.act (aSay i (K i))
 rw [ha] at hk ⊢
 refine ⟨hk, h.ns, h.nb, h.nf, h.good, fun j => ?_, h.gen, h.used, h.fr, ?_⟩
 ·show (if j = (34 + (i : Int)).toNat then _ else p.bd j) = _
  rw [e, h.bd j]
  unfold Bq
  by_cases c : j = 34 + i
  ·subst c
   rw [if_pos rfl, if_neg (by omega), if_pos (by omega), show 34 + i - 34 = i by omega]
   rfl
  ·rw [if_neg c]
   by_cases c3 : j = 24
   ·rw [if_pos c3, if_pos c3]
   ·rw [if_neg c3, if_neg c3]
    by_cases c2 : 34 ≤ j ∧ j < 34 + i
    ·rw [if_pos c2, if_pos (by omega)]
    ·rw [if_neg c2, if_neg (by omega)]
 ·show p.steps + 1 ≤ ((i + 1 : Nat) : Int) + 1
  have := h.steps
  omega
structure S2 (p : PS) (n : Int) (B : Nat → Wd) (t : Nat) : Prop where
 ok : p.OK
 ns : p.ns = n
 nb : p.nb = 85
 nf : p.nf = n - t
 good : p.good = true
 bd : ∀ j, p.bd j = B j
 gen : ∀ j, p.gen j = if j < t then 1 else 0
 used : ∀ j, p.used j = decide (j < t)
 fr : ∀ k : Nat, (k : Int) < n - t → p.fr k = n - k
 steps : p.steps ≤ 19 + t
theorem S1.s2 {p : PS} {n : Int} {K : Nat → Int} {i : Nat} (h : S1 p n K i) (hi : i ≤ 18) : S2 p n (Bq K i) 0 :=
 ⟨h.ok, h.ns, h.nb, by rw [h.nf]; omega, h.good, h.bd, fun j => by rw [h.gen, if_neg (by omega)], fun j => by rw [h.used]; exact (decide_eq_false (by omega)).symm, fun k hk => h.fr k (by omega), by have := h.steps; omega⟩
def aNew0 : Ac := ⟨4, 0, 0, 0, ⟨0, 0, 0, 0, false⟩, ⟨0, 0, 0, 0, false⟩⟩
theorem S2.step {p : PS} {n : Int} {B : Nat → Wd} {t : Nat} (h : S2 p n B t) (ht : (t : Int) < n) : S2 (p.act aNew0).1 n B (t + 1) := by
 have hf : p.fr (p.nf - 1).toNat = (t : Int) + 1 := by
  rw [h.nf, h.fr (n - t - 1).toNat (by omega)]
  omega
 have hnf := h.nf
 have ha := act_alloc (p := p) (a := aNew0) rfl (show ¬ p.nf = 0 by omega) hf
 have hk := h.ok.act aNew0
 rw [ha] at hk ⊢
 have e : ((t : Int) + 1 - 1).toNat = t := by omega
 refine ⟨hk, h.ns, h.nb, ?_, h.good, h.bd, fun j => ?_, fun j => ?_, fun k hk => h.fr k (by omega), ?_⟩
 ·show p.nf - 1 = n - ((t + 1 : Nat) : Int)
  omega
 ·show (if j = ((t : Int) + 1 - 1).toNat then _ else p.gen j) = _
  rw [e, h.gen j, h.gen t]
  by_cases c : j = t
  ·subst c
   rw [if_pos rfl, if_neg (by omega), if_pos (by omega)]
   rfl
  ·rw [if_neg c]
   by_cases c2 : j < t
   ·rw [if_pos c2, if_pos (by omega)]
   ·rw [if_neg c2, if_neg (by omega)]
 ·show (if j = ((t : Int) + 1 - 1).toNat then true else p.used j) = _
  rw [e, h.used j]
  by_cases c : j = t
  ·subst c
   rw [if_pos rfl]
   exact (decide_eq_true (by omega)).symm
  ·rw [if_neg c, Bool.eq_iff_iff]
   simp only [decide_eq_true_eq]
   omega
 ·show p.steps + 1 ≤ 19 + ((t + 1 : Nat) : Int)
  have := h.steps
  omega
theorem S2.hp {p : PS} {n : Nat} {B : Nat → Wd} (h : S2 p n B n) (hn : n ≤ 50) : Hp p n B (fun _ => true) (fun _ => 1) 100 :=
 ⟨h.ok, h.ns, h.nb, h.good, fun j _ _ => h.bd j, fun i hi => by rw [h.used]; exact decide_eq_true hi, fun i hi => by rw [h.gen, if_pos hi], by have := h.steps; omega⟩
theorem Sc.start {n : Nat} {B : Nat → Wd} {p : PS} {r : RS} (h : Hp p n B (fun _ => true) (fun _ => 1) 100) (x : Rep (lo1 (nts n) 0) (.sLoad Wd.zero []) r) : Sc n B 0 p r := .look x (by decide) h
theorem Sc.bounds {n : Nat} {B : Nat → Wd} {t : Nat} {p : PS} {r : RS} (h : Sc n B t p r) : t ≤ 27 + n := by
 cases h with
 | look x ht h => omega
 | free d l m x h hm hk ht hs hf => have := ht.2; rw [List.length_cons] at this; omega
 | over x h ht => exact ht.2
theorem nts_succ (n : Nat) : nts (n + 1) = nts n ++ [nt1 n] := by
 unfold nts
 rw [List.range_succ, List.map_append]
 rfl
def cRet (n : Nat) : Ca := ⟨10, 0, 0, 0, ⟨(n : Int) + 1, 1, 0, 0, false⟩, ⟨0, 0, 0, 0, false⟩, 0, 0, 0, 0⟩
def cScan : Ca := ⟨11, 0, 0, 0, ⟨0, 0, 0, 0, false⟩, ⟨0, 0, 0, 0, false⟩, 0, 0, 0, 0⟩
theorem note_begin {n : Nat} (hn : n ≤ 50) {x : Rp} {r : RS} (h : Rep (lo1 (nts n) 0) (.idle x) r) : Rep (lo1 (nts (n + 1)) 0) (.idle Rp.yes) (r.begin (cRet n)).1 := by
 have := (h.begin (lo1_ok _ _) (c := cRet n) (by unfold Ca.OK cRet; simp)).1
 have e : RT.begin (lo1 (nts n) 0) (cRet n) = (lo1 (nts (n + 1)) 0, .idle Rp.yes) := by
  have e1 : RT.begin (lo1 (nts n) 0) (cRet n) = RT.noted (lo1 (nts n ++ [nt1 n]) 0) := rfl
  rw [e1, ← nts_succ]
  unfold RT.noted
  rw [if_neg]
  simp [lo1, nts]
  omega
 rw [e] at this
 exact this
theorem scan_begin {n : Nat} {x : Rp} {r : RS} (h : Rep (lo1 (nts n) 0) (.idle x) r) : Rep (lo1 (nts n) 0) (.sLoad Wd.zero []) (r.begin cScan).1 := (h.begin (lo1_ok _ _) (c := cScan) (by unfold Ca.OK cScan; simp)).1
def left (K : Nat → Int) (m n : Nat) : List Nat := (List.range n).filter fun i => stay K m ((i : Int) + 1)
theorem left_succ (K : Nat → Int) (m n : Nat) : left K m (n + 1) = left K m n ++ if stay K m ((n : Int) + 1) = true then [n] else [] := by
 unfold left
 rw [List.range_succ, List.filter_append]
 congr 1
 by_cases h : stay K m ((n : Int) + 1) = true <;> simp [h]
theorem left_pre (K : Nat → Int) (m : Nat) {a b : Nat} (h : a ≤ b) : ∃ l, left K m b = left K m a ++ l := by
 induction b with
 | zero => exact ⟨[], by rw [show a = 0 by omega]; simp⟩
 | succ b ih =>
  by_cases c : a = b + 1
  ·exact ⟨[], by rw [c]; simp⟩
  ·obtain ⟨l, hl⟩ := ih (by omega)
   exact ⟨_, by rw [left_succ, hl, List.append_assoc]⟩
theorem left_at {K : Nat → Int} {m n s : Nat} (hs : s < n) (hk : stay K m ((s : Int) + 1) = true) : (left K m s).length < (left K m n).length ∧ (left K m n).getD (left K m s).length 0 = s := by
 obtain ⟨l, hl⟩ := left_pre K m (show s + 1 ≤ n from hs)
 rw [left_succ, if_pos hk] at hl
 rw [hl]
 simp
theorem fmap_filter {α β : Type} (l : List α) (q : α → Bool) (f : α → β) (g : α → Option β) (h : ∀ a ∈ l, g a = if q a = true then some (f a) else none) : l.filterMap g = (l.filter q).map f := by
 induction l with
 | nil => rfl
 | cons a l ih =>
  have h1 := h a (List.mem_cons_self ..)
  have h2 := ih fun b hb => h b (List.mem_cons_of_mem _ hb)
  by_cases c : q a = true
  ·rw [if_pos c] at h1
   simp [h1, c, h2]
  ·rw [if_neg c] at h1
   simp [h1, c, h2]
theorem Sc.done {n m : Nat} {K : Nat → Int} (hm : m ≤ 18) {t : Nat} {p : PS} {r : RS} (h : Sc n (Bq K m) t p r) (h0 : r.step = 0) :
  (∃ f x, Rep (lo1 (ntl (left K m n)) f) (.idle x) r ∧ f = (n : Int) - (left K m n).length) ∧ (p.usedL n = (left K m n).map fun i => ⟨(i : Int) + 1, 1, 0, 0, false⟩) ∧ p.good = true ∧ p.OK := by
 have el : ((List.range n).filter fun i => kpt (Bq K m) i) = left K m n := List.filter_congr fun i _ => kpt_stay hm i
 cases h with
 | look x => have := x.step; rw [h0] at this; exact absurd this (show (0 : Int) ≠ 13 by decide)
 | free d l m' x => have := x.step; rw [h0] at this; exact absurd this (show (0 : Int) ≠ 16 by decide)
 | over x h ht =>
  rw [el] at x
  refine ⟨⟨_, _, x, rfl⟩, ?_, h.good, h.ok⟩
  unfold PS.usedL
  rw [← el]
  refine fmap_filter _ _ _ _ fun i hi => ?_
  have hi := List.mem_range.1 hi
  rw [h.used i hi, h.gen i hi]
end Go.Proofs.YthomdlajobnmnaaDoor

set_option linter.unusedSimpArgs false
set_option linter.unusedVariables false
namespace Go.Proofs.YthomdlajobnmnaaDoor
open Go.Rex
section
variable {post : Env → Prop} {cs : CSem} {Γ : List (Env → Prop)} {ρ : Env}
theorem notes_call {g nv : Nat} {σ : Sub} {k : Out} (hg : cs[g]? = some (notesCon, notesPre, notesPost)) (r : RS) (hr : rsRd (σ.nenv ρ) 0 4 = r) (hok : OkR (σ.nenv ρ) 4) (hf : r.notes.length ≤ 1000000) (K : Env → Prop)
  (hK : ∀ e, OkR (ρ.join nv e) nv → (rsRd (ρ.join nv e) 0 nv).at r.engine r.me r.threads r.most = r → OkSl (ρ.join nv e) (nv + 67) → ntRow (ρ.join nv e) (nv + 70) ((ρ.join nv e).iv (nv + 68)) = r.notes → K (ρ.join nv e)) (h : ∀ q, K q → Sat post cs Γ q k) : Sat post cs Γ ρ (.call g σ nv k) := by
 subst hr
 have hn : ((σ.nenv ρ).iv 59) ≤ 1000000 := by
  have h1 : (ntRow (σ.nenv ρ) 70 ((σ.nenv ρ).iv 59)).length ≤ 1000000 := hf
  rw [ntRow_len] at h1
  omega
 refine Sat.callK (c := notesCon) hg ⟨hok, hn⟩ K (fun e hq => ?_) h
 replace hq : notesPost (conEnv σ 71 nv ρ (ρ.join nv e)) := hq
 obtain ⟨q1, ⟨q2, q3⟩, q4⟩ := hq
 rw [okR_con1] at q1
 rw [rs_con0 (by decide)] at q3
 rw [rs_con2 (by decide), rs_con0 (by decide)] at q4
 have q2' : OkSl (ρ.join nv e) (nv + 67) := by
  have := okSl_con1 (σ := σ) (ρ := ρ) (q := ρ.join nv e) (m := 71) (d := nv) 67
  rw [← this]
  exact q2
 have q3' : ntRow (ρ.join nv e) (nv + 70) ((ρ.join nv e).iv (nv + 68)) = (rsRd (σ.nenv ρ) 0 4).notes := by
  have := ntRow_con1 (σ := σ) (ρ := ρ) (q := ρ.join nv e) (m := 71) (d := nv) 70 68
  rw [← this]
  exact q3
 exact hK e q1 q4 q2' q3'
theorem used_call {g nv : Nat} {σ : Sub} {k : Out} (hg : cs[g]? = some (usedCon, usedPre, usedPost)) (p : PS) {n m : Int} (hn : (σ.nenv ρ).iv 0 = n) (hm : (σ.nenv ρ).iv 1 = m) (hp : psRd (σ.nenv ρ) n m 2 = p) (hok : OkSl (σ.nenv ρ) 2) (h1 : 0 ≤ m ∧ m ≤ 1024) (K : Env → Prop)
  (hK : ∀ e, (ρ.join nv e).bv (nv + 5) = p.good → OkSl (ρ.join nv e) (nv + 10) → wdRow (ρ.join nv e) (nv + 13) ((ρ.join nv e).iv (nv + 11)) = p.usedL m.toNat → K (ρ.join nv e)) (h : ∀ q, K q → Sat post cs Γ q k) : Sat post cs Γ ρ (.call g σ nv k) := by
 subst hn hm hp
 refine Sat.callK (c := usedCon) hg ⟨hok, h1.1, h1.2⟩ K (fun e hq => ?_) h
 replace hq : usedPost (conEnv σ 12 nv ρ (ρ.join nv e)) := hq
 obtain ⟨-, q1, q2, q3⟩ := hq
 have q2' : OkSl (ρ.join nv e) (nv + 10) := by
  have := okSl_con1 (σ := σ) (ρ := ρ) (q := ρ.join nv e) (m := 12) (d := nv) 10
  rw [← this]
  exact q2
 have q1' : (ρ.join nv e).bv (nv + 5) = (psRd (σ.nenv ρ) ((σ.nenv ρ).iv 0) ((σ.nenv ρ).iv 1) 2).good := by
  have h1 : (conEnv σ 12 nv ρ (ρ.join nv e)).bv 17 = (conEnv σ 12 nv ρ (ρ.join nv e)).bv 7 := congrArg PS.good q1
  have h2 : (conEnv σ 12 nv ρ (ρ.join nv e)).bv 17 = (ρ.join nv e).bv (nv + 5) := con_bv 12 5
  have h3 : (conEnv σ 12 nv ρ (ρ.join nv e)).bv 7 = (σ.nenv ρ).bv 7 := cE_bv (by decide)
  rw [← h2, h1, h3]
  rfl
 refine hK e q1' q2' ?_
 have e1 : (conEnv σ 12 nv ρ (ρ.join nv e)).iv 23 = (ρ.join nv e).iv (nv + 11) := con_iv 12 11
 have e2 : ∀ i j, (conEnv σ 12 nv ρ (ρ.join nv e)).ic 25 i j = (ρ.join nv e).ic (nv + 13) i j := fun i j => by rw [show (conEnv σ 12 nv ρ (ρ.join nv e)).ic 25 = (ρ.join nv e).ic (nv + 13) from con_ic 12 13]
 have e3 : ∀ i j, (conEnv σ 12 nv ρ (ρ.join nv e)).bc 25 i j = (ρ.join nv e).bc (nv + 13) i j := fun i j => by rw [show (conEnv σ 12 nv ρ (ρ.join nv e)).bc 25 = (ρ.join nv e).bc (nv + 13) from con_bc 12 13]
 refine Eq.trans ?_ q3
 exact wdRow_same e1.symm fun i => by simp [mkW, e2, e3]
end
end Go.Proofs.YthomdlajobnmnaaDoor
