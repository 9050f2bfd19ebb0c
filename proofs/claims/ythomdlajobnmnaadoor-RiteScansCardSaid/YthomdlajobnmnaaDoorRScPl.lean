/- plain words for 'RiteScans': a thread has retired slots, others announce some; it scans -/
import Derived.Test.YthomdlajobnmnaaDoorRA
import Derived.Test.YthomdlajobnmnaaDoorPDo
set_option linter.unusedSimpArgs false
set_option linter.unusedVariables false
namespace Go.Proofs.YthomdlajobnmnaaDoor
open Go.Rex
def nt1 (i : Nat) : Nt := ⟨⟨(i : Int) + 1, 1, 0, 0, false⟩, 0, 0⟩
def nts (n : Nat) : List Nt := (List.range n).map nt1
theorem nt1_inj {i j : Nat} (h : nt1 i = nt1 j) : i = j := by
 have := congrArg (fun n : Nt => n.ref.slot) h
 simp only [nt1] at this
 omega
def kpt (B : Nat → Wd) (i : Nat) : Bool := (List.range 27).any fun j => (B (25 + j)).slot == (i : Int) + 1
def lo1 (l : List Nt) (f : Int) : Lo := ⟨2, 0, 3, 64, fun _ => Wd.zero, Sp.zero, l, f⟩
theorem lo1_ok (l : List Nt) (f : Int) : (lo1 l f).OK :=
 ⟨by show 1 ≤ (2 : Int) ∧ (2 : Int) ≤ 5; decide, by show 0 ≤ (0 : Int) ∧ (0 : Int) < 3; decide, by show 1 ≤ (3 : Int) ∧ (3 : Int) ≤ 6; decide, by show 1 ≤ (64 : Int); decide⟩
theorem lo1_all (l : List Nt) (f : Int) : (lo1 l f).all = 27 := if_pos (show (lo1 l f).keeping from .inl rfl)
structure Hp (p : PS) (n : Nat) (B : Nat → Wd) (u : Nat → Bool) (g : Nat → Int) (s : Int) : Prop where
 ok : p.OK
 ns : p.ns = n
 nb : p.nb = 85
 good : p.good = true
 bd : ∀ j, 25 ≤ j → j < 52 → p.bd j = B j
 used : ∀ i, i < n → p.used i = u i
 gen : ∀ i, i < n → p.gen i = g i
 steps : p.steps ≤ s
theorem Hp.le {p : PS} {n : Nat} {B : Nat → Wd} {u : Nat → Bool} {g : Nat → Int} {s t : Int} (h : Hp p n B u g s) (ht : s ≤ t) : Hp p n B u g t := ⟨h.ok, h.ns, h.nb, h.good, h.bd, h.used, h.gen, Int.le_trans h.steps ht⟩
theorem Hp.load {p : PS} {n : Nat} {B : Nat → Wd} {u : Nat → Bool} {g : Nat → Int} {s : Int} (h : Hp p n B u g s) {j : Nat} (hj : j < 27) :
  ∃ p', p.act (Ac.load 0 0 (25 + (j : Int))) = (p', some ⟨B (25 + j), true⟩) ∧ Hp p' n B u g (s + 1) := by
 have hv : p.valid (Ac.load 0 0 (25 + (j : Int))) := by simp [PS.valid, Ac.load, PS.has, h.nb]; omega
 have hr : p.right (Ac.load 0 0 (25 + (j : Int))) := by simp [PS.right, Ac.load, PS.live]
 have e : (25 + (j : Int)).toNat = 25 + j := by omega
 have hm := makes1b (p := { p with steps := p.steps + 1 }) (a := Ac.load 0 0 (25 + (j : Int))) rfl rfl
 rw [show (({ p with steps := p.steps + 1 } : PS).bd (Ac.load 0 0 (25 + (j : Int))).field.toNat) = B (25 + j) by show p.bd (25 + (j : Int)).toNat = _; rw [e]; exact h.bd _ (by omega) (by omega)] at hm
 refine ⟨_, act_to hv hr hm, ⟨h.ok.stepped, h.ns, h.nb, h.good, h.bd, h.used, h.gen, ?_⟩⟩
 show p.steps + 1 ≤ s + 1
 have := h.steps
 omega
theorem Hp.free {p : PS} {n : Nat} {B : Nat → Wd} {u : Nat → Bool} {g : Nat → Int} {s : Int} (h : Hp p n B u g s) {i : Nat} (hi : i < n) (hu : u i = true) (hg : g i = 1) :
  ∃ p', p.act ⟨5, 0, 0, 0, (nt1 i).ref, Wd.zero⟩ = (p', some ⟨Wd.zero, true⟩) ∧ Hp p' n B (fun k => if k = i then false else u k) g (s + 1) := by
 have e : ((i : Int) + 1 - 1).toNat = i := by omega
 have hv : p.valid ⟨5, 0, 0, 0, (nt1 i).ref, Wd.zero⟩ := by simp [PS.valid, PS.is, nt1, h.ns]; omega
 have hr : p.right ⟨5, 0, 0, 0, (nt1 i).ref, Wd.zero⟩ := by
  simp only [PS.right, PS.live, nt1]
  simp [e, h.used i hi, hu, h.gen i hi, hg]
 have ha := act_to hv hr (makes5 (p := { p with steps := p.steps + 1 }) (a := ⟨5, 0, 0, 0, (nt1 i).ref, Wd.zero⟩) rfl)
 refine ⟨_, ha, ?_, h.ns, h.nb, h.good, h.bd, fun k hk => ?_, h.gen, ?_⟩
 ·have := h.ok.act ⟨5, 0, 0, 0, (nt1 i).ref, Wd.zero⟩
  rw [ha] at this
  exact this
 ·show (if k = ((i : Int) + 1 - 1).toNat then false else p.used k) = _
  rw [e]
  by_cases hk2 : k = i
  ·rw [if_pos hk2, if_pos hk2]
  ·rw [if_neg hk2, if_neg hk2]
   exact h.used k hk
 ·show p.steps + 1 ≤ s + 1
  have := h.steps
  omega
theorem kept_eq (B : Nat → Wd) (l : List Nt) (f : Int) (c : Wd) (i : Nat) : RT.kept (lo1 l f) c ((List.range 27).map fun j => B (25 + j)) (nt1 i) = kpt B i := by
 unfold RT.kept kpt lo1
 rw [if_pos rfl, List.any_map]
 rfl
def ntl (l : List Nat) : List Nt := l.map nt1
theorem ntl_filter (p : Nt → Bool) (q : Nat → Bool) (h : ∀ i, p (nt1 i) = q i) (l : List Nat) : (ntl l).filter p = ntl (l.filter q) := by
 unfold ntl
 rw [List.filter_map]
 congr 1
 exact List.filter_congr fun i _ => h i
theorem ntl_erase {l : List Nat} (i : Nat) : (ntl l).erase (nt1 i) = ntl (l.erase i) := by
 unfold ntl
 induction l with
 | nil => rfl
 | cons a l ih =>
  by_cases h : a = i
  ·subst h
   simp
  ·have h2 : nt1 a ≠ nt1 i := fun e => h (nt1_inj e)
   rw [List.map_cons, List.erase_cons_tail (by simpa using h2), List.erase_cons_tail (by simpa using h), ih]
   rfl
inductive Sc (n : Nat) (B : Nat → Wd) (t : Nat) (p : PS) (r : RS) : Prop where
 | look (x : Rep (lo1 (nts n) 0) (.sLoad Wd.zero ((List.range t).map fun j => B (25 + j))) r) (ht : t < 27) (h : Hp p n B (fun _ => true) (fun _ => 1) (100 + t))
 | free (d : Nat) (l : List Nat) (m : List Nat) (x : Rep (lo1 (ntl m) (t - 27 : Int)) (.sFree (nt1 d) (ntl l)) r) (h : Hp p n B (fun i => decide (i ∈ m)) (fun _ => 1) (100 + t))
   (hm : m.Nodup ∧ (∀ i ∈ m, i < n) ∧ (∀ i ∈ d :: l, i ∈ m) ∧ (d :: l).Nodup) (hk : ((List.range n).filter fun i => kpt B i) = m.filter fun i => decide (i ∉ d :: l)) (ht : 27 ≤ t ∧ t - 27 + (d :: l).length ≤ n) (hs : m.Sublist (List.range n)) (hf : t - 27 + m.length = n)
 | over (x : Rep (lo1 (ntl ((List.range n).filter fun i => kpt B i)) ((n : Int) - ((List.range n).filter fun i => kpt B i).length)) (.idle Rp.yes) r) (h : Hp p n B (fun i => kpt B i) (fun _ => 1) (100 + t)) (ht : 27 ≤ t ∧ t ≤ 27 + n)
theorem filter_len {n : Nat} (q : Nat → Bool) : ((List.range n).filter q).length + ((List.range n).filter fun i => !q i).length = n := by
 have h : ∀ l : List Nat, (l.filter q).length + (l.filter fun i => !q i).length = l.length := by
  intro l
  induction l with
  | nil => rfl
  | cons a l ih =>
   by_cases h : q a = true
   ·simp [h]; omega
   ·simp [h]; omega
 simpa using h (List.range n)
theorem Sc.reap {n : Nat} {B : Nat → Wd} {t : Nat} {p : PS} {r : RS} {l m : List Nat} (x : Rep (RT.reap (lo1 (ntl m) (t - 27 : Int)) (ntl l)).1 (RT.reap (lo1 (ntl m) (t - 27 : Int)) (ntl l)).2 r) (h : Hp p n B (fun i => decide (i ∈ m)) (fun _ => 1) (100 + t))
  (hm : m.Nodup ∧ (∀ i ∈ m, i < n) ∧ (∀ i ∈ l, i ∈ m) ∧ l.Nodup) (hk : ((List.range n).filter fun i => kpt B i) = m.filter fun i => decide (i ∉ l)) (ht : 27 ≤ t ∧ t - 27 + l.length ≤ n) (hs : m.Sublist (List.range n)) (hf : t - 27 + m.length = n) : Sc n B t p r := by
 cases l with
 | nil =>
  have e : ((List.range n).filter fun i => kpt B i) = m := by
   rw [hk]
   exact List.filter_eq_self.2 fun i _ => by simp
  refine .over ?_ ⟨h.ok, h.ns, h.nb, h.good, h.bd, fun i hi => ?_, h.gen, h.steps⟩ ⟨ht.1, by omega⟩
  ·rw [e]
   have e2 : ((n : Int) - m.length) = (t - 27 : Int) := by omega
   rw [e2]
   exact x
  ·rw [h.used i hi]
   have : i ∈ m ↔ kpt B i = true := by
    rw [← e, List.mem_filter, List.mem_range]
    exact ⟨fun h => h.2, fun h => ⟨hi, h⟩⟩
   by_cases hb : kpt B i = true
   ·rw [hb, decide_eq_true (this.2 hb)]
   ·rw [Bool.not_eq_true] at hb
    rw [hb, decide_eq_false (fun h => by rw [this.1 h] at hb; cases hb)]
 | cons d l => exact .free d l m x h hm hk ht hs hf
theorem nodup_filter {α : Type} {l : List α} (h : l.Nodup) (p : α → Bool) : (l.filter p).Nodup := List.Sublist.nodup List.filter_sublist h
theorem Rep.tk {l : Lo} {t : RT} {r : RS} (h : Rep l t r) {x : Rp} (ho : l.OK) (h0 : t.stepNo ≠ 0) (hn : l.notes.length ≤ 1000000) (hf : -1000000000000 ≤ l.freed ∧ l.freed ≤ 1000000000000)
  (hx : (-1000000000000 ≤ x.word.tag ∧ x.word.tag ≤ 1000000000000) ∧ -1000000000000 ≤ x.word.num ∧ x.word.num ≤ 1000000000000)
  (hs : ∀ c s, t = .sLoad c s → s.length ≤ 99999 ∧ (l.engine = 4 → (-1000000000000 ≤ c.tag ∧ c.tag ≤ 1000000000000) ∧ -1000000000000 ≤ c.num ∧ c.num ≤ 1000000000000)) (hk : ∀ i, t = .lKeep i → 0 ≤ i ∧ i ≤ 8)
  (hfit : t.fits l) (hc : ∀ c w, t = .pClk c w → 0 ≤ c.i ∧ c.i < 9) (hd : ∀ d r, t = .sFree d r → d ∈ l.notes) : r.Tk x := by
 have hst := h.step
 have hm := h.more
 have o1 := ho.me
 have o2 := ho.threads
 refine ⟨by rw [h.me]; omega, by rw [h.threads]; omega, by rw [hst]; exact h0, by rw [h.notes]; exact hn, fun h13 => ?_, fun h13 h4 => ?_, fun h13 => ?_, hx, by rw [h.freed]; exact hf, fun h15 => ?_, fun h4 => ?_, fun h5 => ?_, fun h16 => ?_⟩
 ·rw [hst] at h13
  cases t <;> simp only [RT.stepNo] at h13 <;> try omega
  rename_i c s
  obtain ⟨-, m2, -⟩ : (l.engine = 4 → r.clock = c) ∧ r.seen = s ∧ r.index = s.length := hm
  rw [m2]
  exact (hs c s rfl).1
 ·rw [hst] at h13
  cases t <;> simp only [RT.stepNo] at h13 <;> try omega
  rename_i c s
  obtain ⟨m1, -, -⟩ : (l.engine = 4 → r.clock = c) ∧ r.seen = s ∧ r.index = s.length := hm
  rw [h.engine] at h4
  rw [m1 h4]
  exact (hs c s rfl).2 h4
 ·rw [hst] at h13
  cases t <;> simp only [RT.stepNo] at h13 <;> try omega
  rename_i c s
  obtain ⟨-, -, m3⟩ : (l.engine = 4 → r.clock = c) ∧ r.seen = s ∧ r.index = s.length := hm
  have := (hs c s rfl).1
  omega
 ·rw [hst] at h15
  cases t <;> simp only [RT.stepNo] at h15 <;> try omega
  rw [h.engine]
  exact hfit
 ·rw [hst] at h4
  cases t <;> simp only [RT.stepNo] at h4 <;> try omega
  rename_i i
  have : r.index = i := hm
  rw [this]
  exact hk i rfl
 ·rw [hst] at h5
  cases t <;> simp only [RT.stepNo] at h5 <;> try omega
  ·rename_i c
   have : r.call = c := hm
   rw [this]
   exact hfit
  ·rename_i c w
   obtain ⟨m1, m2⟩ : r.call = c ∧ r.word = w := hm
   rw [m1]
   exact hc c w rfl
  ·rename_i c a
   have : r.call = c := hm
   rw [this]
   exact hfit
 ·rw [hst] at h16
  cases t <;> simp only [RT.stepNo] at h16 <;> try omega
  rename_i d q
  have : r.doomed = d :: q := hm
  exact ⟨d, q, this, by rw [h.notes]; exact hd d q rfl⟩
theorem Sc.step {n : Nat} (hn : n ≤ 1000) {B : Nat → Wd} (hB : ∀ j, (B (25 + j)).tag = 0 ∧ (B (25 + j)).num = 0) {t : Nat} {p : PS} {r : RS} (h : Sc n B t p r) (hb : r.step ≠ 0) :
  ∃ p' x, p.act r.acc = (p', some x) ∧ p.OK ∧ p.steps ≤ 100 + t ∧ r.Tk x ∧ Sc n B (t + 1) p' (r.took x).1 := by
 cases h with
 | look x ht h =>
  have ha : r.acc = Ac.load 0 0 (25 + (t : Int)) := by
   have := x.acc (show (13 : Int) ≠ 0 by decide)
   rw [this]
   show Ac.load 0 0 ((lo1 (nts n) 0).base + (((List.range t).map fun j => B (25 + j)).length : Int)) = _
   rw [List.length_map, List.length_range]
   rfl
  obtain ⟨p', hp', hH⟩ := h.load ht
  refine ⟨p', _, by rw [ha]; exact hp', h.ok, h.steps, x.tk (lo1_ok _ _) (show (13 : Int) ≠ 0 by decide) (by simp [lo1, nts]; omega) (show -1000000000000 ≤ (0 : Int) ∧ (0 : Int) ≤ 1000000000000 by decide) (by simp only [(hB t).1, (hB t).2]; decide) (fun c s e => ?_) (fun i e => by cases e) (by show (2 : Int) ≠ 1; decide) (fun c w e => by cases e) (fun d q e => by cases e), ?_⟩
  ·cases e
   exact ⟨by simp; omega, fun h => absurd (show (2 : Int) = 4 from h) (by decide)⟩
  ·obtain ⟨hr, -⟩ := x.took (lo1_ok _ _) (by show (2 : Int) ≠ 1; decide) (show (13 : Int) ≠ 0 by decide) ⟨B (25 + t), true⟩
   have es : ((List.range t).map fun j => B (25 + j)) ++ [B (25 + t)] = (List.range (t + 1)).map fun j => B (25 + j) := by rw [List.range_succ, List.map_append]; rfl
   have e1 : RT.took (lo1 (nts n) 0) (.sLoad Wd.zero ((List.range t).map fun j => B (25 + j))) ⟨B (25 + t), true⟩ =
     if (t : Int) + 1 < 27 then (lo1 (nts n) 0, .sLoad Wd.zero ((List.range (t + 1)).map fun j => B (25 + j))) else RT.sift (lo1 (nts n) 0) Wd.zero ((List.range (t + 1)).map fun j => B (25 + j)) := by
    show (if ((((List.range t).map fun j => B (25 + j)).length : Int)) + 1 < (lo1 (nts n) 0).all then _ else _) = _
    rw [List.length_map, List.length_range, lo1_all, ← es]
    by_cases h27 : (t : Int) + 1 < 27
    ·rw [if_pos h27, if_pos h27]
    ·rw [if_neg h27, if_neg h27]
     exact if_pos (by show (2 : Int) ≠ 4; decide)
   rw [e1] at hr
   have hle : p'.steps ≤ 100 + ((t + 1 : Nat) : Int) := by have := hH.steps; omega
   by_cases h27 : (t : Int) + 1 < 27
   ·rw [if_pos h27] at hr
    exact .look hr (by omega) ⟨hH.ok, hH.ns, hH.nb, hH.good, hH.bd, hH.used, hH.gen, hle⟩
   ·rw [if_neg h27] at hr
    have h26 : t + 1 = 27 := by omega
    have ef : ((lo1 (nts n) 0).notes.filter fun x => !RT.kept (lo1 (nts n) 0) Wd.zero ((List.range (t + 1)).map fun j => B (25 + j)) x) = ntl ((List.range n).filter fun i => !kpt B i) := by
     rw [h26]
     exact ntl_filter _ _ (fun i => by rw [kept_eq]) (List.range n)
    unfold RT.sift at hr
    rw [ef] at hr
    have e0 : ((t + 1 : Nat) - 27 : Int) = 0 := by omega
    refine Sc.reap (m := List.range n) (l := (List.range n).filter fun i => !kpt B i) ?_ ⟨hH.ok, hH.ns, hH.nb, hH.good, hH.bd, fun i hi => ?_, hH.gen, hle⟩ ⟨List.nodup_range, fun i hi => List.mem_range.1 hi, fun i hi => (List.mem_filter.1 hi).1, nodup_filter List.nodup_range _⟩ ?_ ⟨by omega, ?_⟩ (List.Sublist.refl _) ?_
    ·rw [e0]
     exact hr
    ·rw [hH.used i hi]
     exact (decide_eq_true (List.mem_range.2 hi)).symm
    ·refine List.filter_congr fun i hi => ?_
     rw [Bool.eq_iff_iff]
     simp [List.mem_filter, hi]
    ·have := filter_len (n := n) (fun i => kpt B i)
     omega
    ·rw [List.length_range]; omega
 | free d l m x h hm hk ht hs hf =>
  obtain ⟨m1, m2, m3, m4⟩ := hm
  have hdm := m3 d (List.mem_cons_self ..)
  have hdn := m2 d hdm
  have ha : r.acc = ⟨5, 0, 0, 0, (nt1 d).ref, Wd.zero⟩ := x.acc (show (16 : Int) ≠ 0 by decide)
  obtain ⟨p', hp', hH⟩ := h.free hdn (decide_eq_true hdm) rfl
  have hml : m.length ≤ n := by have := hs.length_le; rwa [List.length_range] at this
  refine ⟨p', _, by rw [ha]; exact hp', h.ok, h.steps, x.tk (lo1_ok _ _) (show (16 : Int) ≠ 0 by decide) (by simp [lo1, ntl]; omega) ⟨by show -1000000000000 ≤ (t - 27 : Int); omega, by show (t - 27 : Int) ≤ 1000000000000; omega⟩ (by decide) (fun c s e => by cases e) (fun i e => by cases e) trivial (fun c w e => by cases e) (fun d' q e => ?_), ?_⟩
  ·cases e
   exact List.mem_map.2 ⟨d, hdm, rfl⟩
  ·obtain ⟨hr, -⟩ := x.took (lo1_ok _ _) trivial (show (16 : Int) ≠ 0 by decide) ⟨Wd.zero, true⟩
   have e1 : RT.took (lo1 (ntl m) (t - 27 : Int)) (.sFree (nt1 d) (ntl l)) ⟨Wd.zero, true⟩ = RT.reap (lo1 (ntl (m.erase d)) ((t + 1 : Nat) - 27 : Int)) (ntl l) := by
    show RT.reap { lo1 (ntl m) (t - 27 : Int) with notes := (ntl m).erase (nt1 d), freed := (t - 27 : Int) + 1 } (ntl l) = _
    rw [ntl_erase, show (t - 27 : Int) + 1 = ((t + 1 : Nat) - 27 : Int) by omega]
    rfl
   rw [e1] at hr
   have hle : p'.steps ≤ 100 + ((t + 1 : Nat) : Int) := by have := hH.steps; omega
   have hnd := List.nodup_cons.1 m4
   refine Sc.reap hr ⟨hH.ok, hH.ns, hH.nb, hH.good, hH.bd, fun i hi => ?_, hH.gen, hle⟩ ⟨m1.erase d, fun i hi => m2 i (List.mem_of_mem_erase hi), fun i hi => ?_, hnd.2⟩ ?_ ⟨by omega, by have := ht.2; rw [List.length_cons] at this; omega⟩ ((List.erase_sublist ..).trans hs) ?_
   ·rw [hH.used i hi]
    by_cases hid : i = d
    ·rw [if_pos hid, hid]
     exact (decide_eq_false (fun h => (List.Nodup.mem_erase_iff m1).1 h |>.1 rfl)).symm
    ·rw [if_neg hid, Bool.eq_iff_iff]
     simp [List.Nodup.mem_erase_iff m1, hid]
   ·have hi2 := m3 i (List.mem_cons_of_mem _ hi)
    exact (List.Nodup.mem_erase_iff m1).2 ⟨fun e => hnd.1 (e ▸ hi), hi2⟩
   ·rw [hk]
    have : ∀ m : List Nat, m.Nodup → (m.filter fun i => decide (i ∉ d :: l)) = (m.erase d).filter fun i => decide (i ∉ l) := by
     intro m hm
     rw [List.Nodup.erase_eq_filter hm, List.filter_filter]
     refine List.filter_congr fun i _ => ?_
     rw [Bool.eq_iff_iff]
     simp [and_comm]
    exact this m m1
   ·have := List.length_erase_of_mem hdm
    have := List.length_pos_of_mem hdm
    omega
 | over x h ht => exact absurd x.step hb
end Go.Proofs.YthomdlajobnmnaaDoor
