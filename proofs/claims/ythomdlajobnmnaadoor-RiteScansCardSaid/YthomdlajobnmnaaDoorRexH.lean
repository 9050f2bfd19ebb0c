/- Rex, part H: operations that change memory. -/
import Derived.Test.YthomdlajobnmnaaDoorRexG
import Derived.Maps.AppendAt
import Derived.Great.BuildSlice
set_option linter.unusedSimpArgs false
set_option linter.unusedVariables false
namespace Go.Rex

structure Only (g : Nat) (w w' : World) : Prop where
 os : w'.os = w.os
 tape : w'.tape = w.tape
 output : w'.output = w.output
 size : w'.heap.size = w.heap.size
 block : ∀ k, k ≠ g → w'.heap[k]? = w.heap[k]?

section
variable {P : Program} {ρ : Env} {ν : Nat → Addr}
theorem SB.write_t {sb sb' : SB} {l : Loc} {c : SC} (h : sb.write l c = some sb') : (sb'.t = sb.t ∧ sb'.ro = sb.ro ∧ sb'.own = sb.own ∧ sb'.nl = sb.nl ∧ sb'.gone = sb.gone) ∧ c.isHole = false := by
 unfold SB.write at h
 split at h
 ·cases h
 rename_i hc
 cases l <;> simp only at h <;> split at h <;> simp at h <;> subst h <;> exact ⟨⟨rfl, rfl, rfl, rfl, rfl⟩, by simpa using hc⟩
theorem stCells_ok {g : Nat} {t : TypeId} {a : SA} : ∀ {cs : List SC} {k : Nat} {sb sb' : SB} {os : List BE} {arr : Array Value} {w : World},
  w.heap[g]? = some (.cells arr t (0, 0)) → sb.has ρ ν arr → stCells sb a cs k = some (sb', os) → (∀ o ∈ os, o.den ρ = true) →
  ∃ arr' w', (storeCells ⟨g, a.off ρ, none⟩ (cs.map (·.den ρ ν)) k).run P w = .ok () w' ∧ w'.heap[g]? = some (.cells arr' t (0, 0)) ∧ Only g w w' ∧ sb'.has ρ ν arr' ∧ (sb'.t = sb.t ∧ sb'.ro = sb.ro ∧ sb'.own = sb.own ∧ sb'.nl = sb.nl ∧ sb'.gone = sb.gone)
 | [], k, sb, sb', os, arr, w, hg, hb, h, _ => by
  simp only [stCells, Option.some.injEq, Prod.mk.injEq] at h
  obtain ⟨rfl, rfl⟩ := h
  exact ⟨arr, w, rfl, hg, ⟨rfl, rfl, rfl, rfl, fun _ _ => rfl⟩, hb, rfl, rfl, rfl, rfl, rfl⟩
 | c :: r, k, sb, sb', os, arr, w, hg, hb, h, ho => by
  unfold stCells at h
  split at h
  ·cases h
  rename_i l hl
  split at h
  ·cases h
  rename_i sb1 hw
  split at h
  ·cases h
  rename_i sb2 os2 hr
  simp only [Option.some.injEq, Prod.mk.injEq] at h
  obtain ⟨rfl, rfl⟩ := h
  obtain ⟨hlok, hpos⟩ := SB.loc_ok (ρ := ρ) hl
  obtain ⟨hb1, hlt⟩ := SB.write_ok (ν := ν) hb hlok (fun o hm => ho o (by simp [hm])) hw
  obtain ⟨ht, hh⟩ := SB.write_t hw
  rw [hpos] at hb1 hlt
  have hcell : w.cell? ⟨g, a.off ρ + k, none⟩ = some (arr[a.off ρ + k]'hlt) := by
   rw [cell_of_row w g _ arr t (0, 0) hg]; exact Array.getElem?_eq_getElem hlt
  have hfro := frozen_of_row w g (a.off ρ + k) arr t hg
  have hst : (store ⟨g, a.off ρ + k, none⟩ (c.den ρ ν)).run P w = .ok () (w.setCell ⟨g, a.off ρ + k, none⟩ (c.den ρ ν)) := by
   rw [run_store P w _ _ _ (SC.oneCell c hh), hcell]
   simp [hfro]
  obtain ⟨arr', w', h1, h2, h3, h4, h5⟩ := stCells_ok (w := w.setCell ⟨g, a.off ρ + k, none⟩ (c.den ρ ν)) (Go.heap_setCell_same w g _ arr t _ hg) hb1 hr (fun o hm => ho o (by simp [hm]))
  refine ⟨arr', w', ?_, h2, ⟨h3.os, h3.tape, h3.output, by rw [h3.size]; simp, fun j hj => by rw [h3.block j hj]; exact heap_setCell_other w _ j _ hj⟩, h4, h5.1.trans ht.1, h5.2.1.trans ht.2.1, h5.2.2.1.trans ht.2.2.1, h5.2.2.2.1.trans ht.2.2.2.1, h5.2.2.2.2.trans ht.2.2.2.2⟩
  have hadd : (⟨g, a.off ρ, none⟩ : Addr).add k = ⟨g, a.off ρ + k, none⟩ := by simp [Addr.add]
  simp only [List.map_cons, storeCells, Sem.run_bind, hadd, hst, Result.andThen_ok, h1]

/-! ### memory with one block changed, one more -/
theorem add_block (a : Addr) (n : Nat) : (a.add n).block = a.block := by
 unfold Addr.add
 split <;> rfl
theorem HpOK.keep {hp : List SB} {w w' : World} (h : HpOK ρ ν hp w) (hz : w.heap.size ≤ w'.heap.size) (hk : ∀ (k : Nat) (sb : SB), hp[k]? = some sb → sb.dead ρ = false → w'.heap[(ν k).block]? = w.heap[(ν k).block]?) : HpOK ρ ν hp w' := by
 refine ⟨h.inj, fun k sb hs hg hr => ?_, fun k sb hs hg hr => ?_⟩
 ·obtain ⟨h0, cs, h1, h2⟩ := h.blk k sb hs hg hr
  exact ⟨h0, cs, by rw [hk k sb hs hg]; exact h1, h2⟩
 ·obtain ⟨h0, cs, h1, h2⟩ := h.rd k sb hs hg hr
  refine ⟨h0.of id rfl hz (hk k sb hs hg), cs, h1, fun p v hp => ?_⟩
  rw [World.cell?_of_block (w := w) (w' := w')]
  ·exact h2 p v hp
  ·rw [add_block]; exact hk k sb hs hg
theorem HpOK.set {hp : List SB} {w w' : World} (h : HpOK ρ ν hp w) {b : Nat} {sb sb' : SB} {arr' : Array Value} (hb : hp[b]? = some sb) (hg : sb.dead ρ = false) (hr : sb.ro = false) (hO : Only (ν b).block w w')
  (h' : IsObj w'.heap[(ν b).block]? sb'.t arr') (hs : sb'.has ρ ν arr') (hr' : sb'.ro = false) : HpOK ρ ν (hp.set b sb') w' := by
 have hlt : b < hp.length := (List.getElem?_eq_some_iff.1 hb).1
 have old : ∀ (i : Nat) (a : SB), (hp.set b sb')[i]? = some a → a.dead ρ = false → ∃ a0, hp[i]? = some a0 ∧ a0.dead ρ = false ∧ (a.ro = false → a0.ro = false) := by
  intro i a hi ha
  by_cases hib : b = i
  ·subst hib; exact ⟨sb, hb, hg, fun _ => hr⟩
  ·rw [List.getElem?_set_ne hib] at hi; exact ⟨a, hi, ha, id⟩
 have oth : ∀ (k : Nat) (s : SB), hp[k]? = some s → s.dead ρ = false → b ≠ k → w'.heap[(ν k).block]? = w.heap[(ν k).block]? := by
  intro k s hk hgs hne
  exact hO.block _ fun e => hne (h.inj _ _ _ _ hb hk hg hgs hr e.symm)
 refine ⟨fun i j x y hi hj gx gy rx he => ?_, fun k s hk hgs hrs => ?_, fun k s hk hgs hrs => ?_⟩
 ·obtain ⟨a0, ha, ga, ra⟩ := old i x hi gx
  obtain ⟨b0, hb', gb, _⟩ := old j y hj gy
  exact h.inj i j a0 b0 ha hb' ga gb (ra rx) he
 ·by_cases hkb : b = k
  ·subst hkb
   rw [List.getElem?_set_self hlt] at hk
   simp at hk
   subst hk
   exact ⟨(h.blk b sb hb hg hr).1, arr', h', hs⟩
  ·rw [List.getElem?_set_ne hkb] at hk
   rw [oth k s hk hgs hkb]
   exact h.blk k s hk hgs hrs
 ·by_cases hkb : b = k
  ·subst hkb
   rw [List.getElem?_set_self hlt] at hk
   simp at hk
   subst hk
   rw [hr'] at hrs; cases hrs
  ·rw [List.getElem?_set_ne hkb] at hk
   obtain ⟨h0, cs, h1, h2⟩ := h.rd k s hk hgs hrs
   refine ⟨h0.of id rfl (Nat.le_of_eq hO.size.symm) (oth k s hk hgs hkb), cs, h1, fun p v hp => ?_⟩
   rw [World.cell?_of_block (w := w) (w' := w')]
   ·exact h2 p v hp
   ·rw [add_block]; exact oth k s hk hgs hkb
theorem HpOK.push {hp : List SB} {w : World} (h : HpOK ρ ν hp w) {sb : SB} {arr : Array Value} (h0 : ν hp.length = ⟨(ν hp.length).block, 0, none⟩) (hn : IsObj w.heap[(ν hp.length).block]? sb.t arr)
  (hs : sb.has ρ ν arr) (hr : sb.ro = false) (hne : ∀ (k : Nat) (s : SB), hp[k]? = some s → s.dead ρ = false → (ν k).block ≠ (ν hp.length).block) : HpOK ρ ν (hp ++ [sb]) w := by
 have cas : ∀ (i : Nat) (a : SB), (hp ++ [sb])[i]? = some a → hp[i]? = some a ∨ (i = hp.length ∧ a = sb) := by
  intro i a hi
  rw [List.getElem?_append] at hi
  split at hi
  ·exact .inl hi
  ·rename_i hlt
   rw [List.getElem?_singleton] at hi
   split at hi
   ·rename_i h0
    simp at hi
    exact .inr ⟨by omega, hi.symm⟩
   ·cases hi
 refine ⟨fun i j x y hi hj gx gy rx he => ?_, fun k s hk hg hrs => ?_, fun k s hk hg hrs => ?_⟩
 ·rcases cas i x hi with h1 | ⟨h1, _⟩ <;> rcases cas j y hj with h2 | ⟨h2, _⟩
  ·exact h.inj i j x y h1 h2 gx gy rx he
  ·subst h2; exact absurd he (hne i x h1 gx)
  ·subst h1; exact absurd he.symm (hne j y h2 gy)
  ·rw [h1, h2]
 ·rcases cas k s hk with hk | ⟨rfl, rfl⟩
  ·exact h.blk k s hk hg hrs
  ·exact ⟨h0, arr, hn, hs⟩
 ·rcases cas k s hk with hk | ⟨rfl, rfl⟩
  ·exact h.rd k s hk hg hrs
  ·rw [hr] at hrs; cases hrs
theorem HpOK.drop {hp : List SB} {w : World} (h : HpOK ρ ν hp w) (b : Nat) : HpOK ρ ν (hp.modify b fun s => { s with gone := true }) w := by
 have old : ∀ (i : Nat) (a : SB), (hp.modify b fun s => { s with gone := true })[i]? = some a → a.dead ρ = false → hp[i]? = some a ∧ i ≠ b := by
  intro i a hi ha
  rw [List.getElem?_modify] at hi
  cases hx : hp[i]? with
  | none => simp [hx] at hi
  | some x =>
   by_cases hbi : b = i
   ·simp [hx, hbi] at hi
    subst hi
    simp [SB.dead] at ha
   ·simp [hx, hbi] at hi
    exact ⟨by rw [hi], fun e => hbi e.symm⟩
 exact ⟨fun i j x y hi hj gx gy rx he => h.inj i j x y (old i x hi gx).1 (old j y hj gy).1 gx gy rx he, fun k s hk hg hr => h.blk k s (old k s hk hg).1 hg hr, fun k s hk hg hr => h.rd k s (old k s hk hg).1 hg hr⟩

/-! ### guards -/
theorem yielded_eq {ops : Array Oper} {tmps : Array Value} {j : Nat} {d : Tmp} (hd : (ops[j]?).bind (·.dst) = some d) :
  yielded ops tmps j = match tmps.getD d undef with | .bool b => some b | _ => none := by
 simp only [yielded, hd, Option.bind_some]
 rw [Array.getD_eq_getD_getElem?]
 cases tmps[d]? with
 | none => simp [undef]
 | some v => cases v <;> rfl
theorem gcond_ok {ops : Array Oper} {fr : Fr} {a : Act} (hf : FrOK ρ ν fr a) {o : Oper} {g : BE} (h : gcond ops fr o = some g) : Region.wanted o (yielded ops a.tmps) = g.den ρ := by
 unfold gcond at h
 unfold Region.wanted
 split at h
 ·rename_i hg
  simp at h
  subst h
  simp [hg, BE.den]
 ·rename_i j want hg
  rw [hg]
  simp only
  split at h
  ·cases h
  rename_i d hd
  rw [yielded_eq hd]
  split at h
  ·rename_i b hb
   rw [hf d _ hb]
   simp at h
   subst h
   cases want <;> simp [SV.den, SW.den, SC.den, BE.notS_den]
  ·rename_i c b hb
   rw [hf d _ hb]
   simp at h
   subst h
   rw [BE.andS_den]
   cases hc : c.den ρ <;> cases want <;> simp [SV.den, SW.den, SC.den, BE.notS_den, hc, undef]
  ·rename_i hb
   rw [hf d _ hb]
   simp at h
   subst h
   simp [SV.den, BE.den]
  ·cases h
end
end Go.Rex
