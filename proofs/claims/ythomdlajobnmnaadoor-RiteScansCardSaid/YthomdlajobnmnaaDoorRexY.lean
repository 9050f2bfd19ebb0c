/- Rex, part Y: maps of whole numbers. -/
import Derived.Test.YthomdlajobnmnaaDoorRex4
import Derived.MapKept
set_option linter.unusedSimpArgs false
set_option linter.unusedVariables false
namespace Go.Rex
open Go.MapKept
abbrev ent (n v : Int) (b : Nat) : MapEntry := ⟨.int .i64 n, .int .i64 v, b⟩
def EntAll (es : List MapEntry) : Prop := ∀ e ∈ es, ∃ n v b, e = ent n v b ∧ -9223372036854775808 ≤ n ∧ n ≤ 9223372036854775807
theorem mlook_cons (n v : Int) (b : Nat) (r : List MapEntry) (k : Int) : mlook (ent n v b :: r) k = if n = k then some v else mlook r k := rfl
theorem find_wf {k' : IntKind} (key : Int) : ∀ {es : List MapEntry}, EntAll es → ∀ i0 : Nat,
  match mlook es key with
  | none => Instr.findNow (.int k') (.int .i64 key) es i0 = some none
  | some v => ∃ i b, Instr.findNow (.int k') (.int .i64 key) es i0 = some (some (i0 + i, .int .i64 v)) ∧ es[i]? = some (ent key v b)
 | [], _, _ => rfl
 | e :: r, h, i0 => by
  obtain ⟨n, v, b, rfl, -⟩ := h e (by simp)
  have ih := find_wf (k' := k') key (es := r) (fun e he => h e (by simp [he])) (i0 + 1)
  rw [mlook_cons]
  by_cases hk : n = key
  ·rw [if_pos hk]
   subst hk
   exact ⟨0, b, by simp [Instr.findNow, Instr.sameNow], rfl⟩
  ·rw [if_neg hk]
   have hk' : (key == n) = false := by simp; exact fun e => hk e.symm
   have e1 : Instr.findNow (.int k') (.int .i64 key) (ent n v b :: r) i0 = Instr.findNow (.int k') (.int .i64 key) r (i0 + 1) := by simp [Instr.findNow, Instr.sameNow, hk']
   rw [e1]
   cases hm : mlook r key with
   | none => rw [hm] at ih; exact ih
   | some u =>
    rw [hm] at ih
    obtain ⟨i, b', h1, h2⟩ := ih
    exact ⟨i + 1, b', by rw [h1]; congr 3; omega, by simpa using h2⟩
theorem mlook_none {key : Int} : ∀ {es : List MapEntry}, EntAll es → mlook es key = none → Value.int .i64 key ∉ es.map (·.key)
 | [], _, _ => by simp
 | e :: r, h, hm => by
  obtain ⟨n, v, b, rfl, -⟩ := h e (by simp)
  rw [mlook_cons] at hm
  split at hm
  ·cases hm
  ·rename_i hne
   have := mlook_none (fun e he => h e (by simp [he])) hm
   simp only [List.map_cons, List.mem_cons, not_or]
   exact ⟨fun e => hne (by injection e with _ e; exact e.symm), this⟩
theorem mlook_not_mem {key : Int} : ∀ {es : List MapEntry}, EntAll es → Value.int .i64 key ∉ es.map (·.key) → mlook es key = none
 | [], _, _ => rfl
 | e :: r, h, hm => by
  obtain ⟨n, v, b, rfl, -⟩ := h e (by simp)
  simp only [List.map_cons, List.mem_cons, not_or] at hm
  rw [mlook_cons, if_neg (fun e => hm.1 (by rw [e]))]
  exact mlook_not_mem (fun e he => h e (by simp [he])) hm.2
theorem mlook_modify {key v' : Int} {k : Int} : ∀ {es : List MapEntry} {i : Nat} {v : Int} {b : Nat}, EntAll es → (es.map (·.key)).Nodup → es[i]? = some (ent key v b) →
  mlook (es.modify i fun e => { e with key := .int .i64 key, val := .int .i64 v' }) k = if k = key then some v' else mlook es k
 | [], i, v, b, _, _, hi => by simp at hi
 | e :: r, 0, v, b, h, _, hi => by
  simp at hi
  subst hi
  rw [List.modify_zero_cons]
  show mlook (ent key v' b :: r) k = _
  rw [mlook_cons, mlook_cons]
  by_cases hk : key = k
  ·rw [if_pos hk, if_pos hk.symm]
  ·rw [if_neg hk, if_neg (fun e => hk e.symm), if_neg hk]
 | e :: r, i + 1, v, b, h, hn, hi => by
  obtain ⟨n, u, c, rfl, -⟩ := h e (by simp)
  rw [List.modify_succ_cons, mlook_cons, mlook_cons]
  simp only [List.map_cons, List.nodup_cons] at hn
  have hi' : r[i]? = some (ent key v b) := by simpa using hi
  rw [mlook_modify (fun e he => h e (by simp [he])) hn.2 hi']
  have hne : n ≠ key := fun e => hn.1 (by rw [e]; exact List.mem_map.2 ⟨_, List.mem_of_getElem? hi', rfl⟩)
  by_cases hk : n = k
  ·rw [if_pos hk, if_pos hk, if_neg (by omega)]
  ·rw [if_neg hk, if_neg hk]
theorem mlook_push {key v' : Int} {c : Nat} {k : Int} : ∀ {es : List MapEntry}, EntAll es → mlook es key = none → mlook (es ++ [ent key v' c]) k = if k = key then some v' else mlook es k
 | [], _, _ => by
  rw [List.nil_append, mlook_cons]
  by_cases hk : key = k
  ·rw [if_pos hk, if_pos hk.symm]
  ·rw [if_neg hk, if_neg (fun e => hk e.symm)]
 | e :: r, h, hm => by
  obtain ⟨n, u, b, rfl, -⟩ := h e (by simp)
  rw [mlook_cons] at hm
  split at hm
  ·cases hm
  ·rename_i hne
   rw [List.cons_append, mlook_cons, mlook_cons, mlook_push (fun e he => h e (by simp [he])) hm]
   by_cases hk : n = k
   ·rw [if_pos hk, if_pos hk, if_neg (by omega)]
   ·rw [if_neg hk, if_neg hk]
theorem mlook_erase {key : Int} {k : Int} : ∀ {es : List MapEntry} {i : Nat} {v : Int} {b : Nat}, EntAll es → (es.map (·.key)).Nodup → es[i]? = some (ent key v b) →
  mlook (es.eraseIdx i) k = if k = key then none else mlook es k
 | [], i, v, b, _, _, hi => by simp at hi
 | e :: r, 0, v, b, h, hn, hi => by
  simp at hi
  subst hi
  simp only [List.map_cons, List.nodup_cons] at hn
  rw [List.eraseIdx_cons_zero, mlook_cons]
  by_cases hk : key = k
  ·subst hk
   rw [if_pos rfl, mlook_not_mem (fun e he => h e (by simp [he])) hn.1]
  ·rw [if_neg (fun e => hk e.symm), if_neg hk]
 | e :: r, i + 1, v, b, h, hn, hi => by
  obtain ⟨n, u, c, rfl, -⟩ := h e (by simp)
  simp only [List.map_cons, List.nodup_cons] at hn
  have hi' : r[i]? = some (ent key v b) := by simpa using hi
  rw [List.eraseIdx_cons_succ, mlook_cons, mlook_cons, mlook_erase (fun e he => h e (by simp [he])) hn.2 hi']
  have hne : n ≠ key := fun e => hn.1 (by rw [e]; exact List.mem_map.2 ⟨_, List.mem_of_getElem? hi', rfl⟩)
  by_cases hk : n = k
  ·rw [if_pos hk, if_pos hk, if_neg (by omega)]
  ·rw [if_neg hk, if_neg hk]

/-! ### what an update leaves -/
structure Upd (es es' : List MapEntry) (key : Int) (x : Option Int) : Prop where
 wf : MapWf es'
 look : ∀ k, mlook es' k = if k = key then x else mlook es k
theorem MapWf.ents {es : List MapEntry} (h : MapWf es) : EntAll es := h.all
theorem upd_modify {es : List MapEntry} (h : MapWf es) {key v v' : Int} {i b : Nat} (hi : es[i]? = some (ent key v b)) :
  Upd es (es.modify i fun e => { e with key := .int .i64 key, val := .int .i64 v' }) key (some v') := by
 have hmod : (es.modify i fun e => { e with key := .int .i64 key, val := .int .i64 v' }).map (·.key) = es.map (·.key) := by
  apply List.ext_getElem?
  intro j
  rw [List.getElem?_map, List.getElem?_map, List.getElem?_modify]
  by_cases hj : i = j
  ·subst hj
   simp [hi]
  ·simp [hj]
 refine ⟨⟨fun e he => ?_, by rw [hmod]; exact h.nodup⟩, fun k => mlook_modify h.ents h.nodup hi⟩
 obtain ⟨j, hj⟩ := List.mem_iff_getElem?.1 he
 rw [List.getElem?_modify] at hj
 by_cases hji : i = j
 ·subst hji
  simp [hi] at hj
  obtain ⟨n, u, c, e1, e2⟩ := h.all _ (List.mem_of_getElem? hi)
  injection e1 with e3 e4 e5
  injection e3 with _ e3
  subst e3
  exact ⟨key, v', b, hj.symm, e2⟩
 ·cases hx : es[j]? with
  | none => simp [hx] at hj
  | some y =>
   simp [hx, hji] at hj
   rw [← hj]
   exact h.all y (List.mem_of_getElem? hx)
theorem upd_push {es : List MapEntry} (h : MapWf es) {key v' : Int} {c : Nat} (hm : mlook es key = none) (hr : -9223372036854775808 ≤ key ∧ key ≤ 9223372036854775807) : Upd es (es ++ [ent key v' c]) key (some v') := by
 refine ⟨⟨fun e he => ?_, ?_⟩, fun k => mlook_push h.ents hm⟩
 ·rcases List.mem_append.1 he with he | he
  ·exact h.all e he
  ·exact ⟨key, v', c, by simpa using he, hr⟩
 ·rw [List.map_append]
  refine List.nodup_append.2 ⟨h.nodup, by simp, fun a ha b hb => ?_⟩
  simp at hb
  subst hb
  exact fun e => mlook_none h.ents hm (e ▸ ha)
theorem upd_erase {es : List MapEntry} (h : MapWf es) {key v : Int} {i b : Nat} (hi : es[i]? = some (ent key v b)) : Upd es (es.eraseIdx i) key none := by
 refine ⟨⟨fun e he => h.all e (List.mem_of_mem_eraseIdx he), ?_⟩, fun k => mlook_erase h.ents h.nodup hi⟩
 exact List.Nodup.sublist (List.Sublist.map _ (List.eraseIdx_sublist _ _)) h.nodup
theorem upd_same {es : List MapEntry} (h : MapWf es) {key : Int} (hm : mlook es key = none) : Upd es es key none :=
 ⟨h, fun k => by split <;> simp_all⟩
def keyPos (key : Int) (j : Nat) : Nat := (key + 9223372036854775808).toNat * 2 + j
theorem virt_upd {es es' : List MapEntry} {key : Int} {x : Option Int} (h : Upd es es' key x) (h1 : -9223372036854775808 ≤ key) (h2 : key ≤ 9223372036854775807) :
  virt es' = ((virt es).setIfInBounds (keyPos key 1) (.int .i64 (x.getD 0))).setIfInBounds (keyPos key 0) (.bool x.isSome) := by
 apply Array.ext_getElem?
 intro p
 have hs : ((virt es).setIfInBounds (keyPos key 1) (.int .i64 (x.getD 0))).size = 36893488147419103232 := by rw [Array.size_setIfInBounds]; unfold virt; rw [Array.size_ofFn]
 have hs0 : (virt es).size = 36893488147419103232 := by unfold virt; rw [Array.size_ofFn]
 have hp0 : keyPos key 0 < 36893488147419103232 := by unfold keyPos; omega
 have hp1 : keyPos key 1 < 36893488147419103232 := by unfold keyPos; omega
 by_cases hp : p < 36893488147419103232
 ·rw [virt_get _ hp, Array.getElem?_setIfInBounds, Array.getElem?_setIfInBounds, hs, hs0, virt_get _ hp]
  unfold virtAt
  rw [h.look]
  by_cases hk : ((p / 2 : Nat) : Int) - 9223372036854775808 = key
  ·rw [if_pos hk]
   have hp2 : p = keyPos key (p % 2) := by unfold keyPos; omega
   have hm : p % 2 = 0 ∨ p % 2 = 1 := by omega
   rcases hm with hm | hm
   ·rw [hm] at hp2
    rw [if_pos hp2.symm, if_pos hp0]
    cases x <;> simp [hm]
   ·rw [hm] at hp2
    have hne : ¬ keyPos key 0 = p := by rw [hp2]; unfold keyPos; omega
    rw [if_neg hne, if_pos hp2.symm, if_pos hp1]
    cases x <;> simp [hm]
  ·rw [if_neg hk]
   have hn0 : ¬ keyPos key 0 = p := by unfold keyPos; omega
   have hn1 : ¬ keyPos key 1 = p := by unfold keyPos; omega
   rw [if_neg hn0, if_neg hn1]
 ·rw [virt_none _ hp, Array.getElem?_setIfInBounds, Array.getElem?_setIfInBounds, hs, hs0, virt_none _ hp]
  rw [if_neg (by omega), if_neg (by omega)]

theorem virt_key (es : List MapEntry) {key : Int} (h1 : -9223372036854775808 ≤ key) (h2 : key ≤ 9223372036854775807) :
  (virt es)[keyPos key 0]? = some (.bool (mlook es key).isSome) ∧ (virt es)[keyPos key 1]? = some (.int .i64 ((mlook es key).getD 0)) := by
 have e0 : ((keyPos key 0 / 2 : Nat) : Int) - 9223372036854775808 = key := by unfold keyPos; omega
 have e1 : ((keyPos key 1 / 2 : Nat) : Int) - 9223372036854775808 = key := by unfold keyPos; omega
 have m0 : keyPos key 0 % 2 = 0 := by unfold keyPos; omega
 have m1 : keyPos key 1 % 2 = 1 := by unfold keyPos; omega
 refine ⟨?_, ?_⟩
 ·rw [virt_get _ (by unfold keyPos; omega)]
  unfold virtAt
  rw [e0]
  cases mlook es key <;> simp [m0]
 ·rw [virt_get _ (by unfold keyPos; omega)]
  unfold virtAt
  rw [e1]
  cases mlook es key <;> simp [m1]
/-! ### the operations -/
section
variable {P : Program} {w : World} {t kt et : TypeId} (hd : P.underlying t = some (.map kt et)) (hk : P.underlying kt = some (.int .i64))
include hd hk
theorem run_lookup (he : (zeroValue et).run P w = .ok (.int .i64 0) w) {b : Nat} {es : Array MapEntry} {clock : Nat} (hb : w.heap[b]? = some (.map es clock)) (hw : MapWf es.toList) (key : Int) (ok : Bool) :
  (Instr.lookup t (.map (some b)) (.int .i64 key) ok).run P w =
   .ok (if ok then .tuple #[.int .i64 ((mlook es.toList key).getD 0), .bool (mlook es.toList key).isSome] else .int .i64 ((mlook es.toList key).getD 0)) w := by
 have hc := run_checkKey (w := w) hk (k := .int .i64 key) (by simp [IsKey]) es.isEmpty 9999
 have hf := find_wf (k' := .i64) key hw.ents 0
 unfold Instr.lookup
 cases hm : mlook es.toList key with
 | none =>
  rw [hm] at hf
  have := run_findKey (w := w) hk hf
  cases ok <;> simp [run_underlying hd, _root_.Go.MapKept.run_getObj_map hb, hc, this, he, Result.andThen]
 | some v =>
  rw [hm] at hf
  obtain ⟨i, c, h1, h2⟩ := hf
  have := run_findKey (w := w) hk h1
  cases ok <;> simp [run_underlying hd, _root_.Go.MapKept.run_getObj_map hb, hc, this, he, Result.andThen]
theorem run_update {b : Nat} {es : Array MapEntry} {clock : Nat} (hb : w.heap[b]? = some (.map es clock)) (hw : MapWf es.toList) {key v : Int} (hr : -9223372036854775808 ≤ key ∧ key ≤ 9223372036854775807) :
  ∃ es' clock', (Instr.mapUpdate t (.map (some b)) (.int .i64 key) (.int .i64 v)).run P w = .ok () { w with heap := w.heap.setIfInBounds b (.map es' clock') } ∧ Upd es.toList es'.toList key (some v) := by
 have hc := run_checkKey (w := w) hk (k := .int .i64 key) (by simp [IsKey]) false 9999
 have hf := find_wf (k' := .i64) key hw.ents 0
 cases hm : mlook es.toList key with
 | none =>
  rw [hm] at hf
  have h1 := run_findKey (w := w) hk hf
  refine ⟨es.push (ent key v clock), clock + 1, ?_, by rw [Array.toList_push]; exact upd_push hw hm hr⟩
  unfold Instr.mapUpdate
  simp [run_underlying hd, _root_.Go.MapKept.run_getObj_map hb, hc, h1, Result.andThen, _root_.Go.MapKept.run_setObj_map _ hb]
 | some u =>
  rw [hm] at hf
  obtain ⟨i, c, h1, h2⟩ := hf
  rw [Nat.zero_add] at h1
  have h3 := run_findKey (w := w) hk h1
  have h2' : es[i]? = some (ent key u c) := by rw [← Array.getElem?_toList]; exact h2
  refine ⟨es.modify i fun e => { e with key := .int .i64 key, val := .int .i64 v }, clock, ?_, by rw [Array.toList_modify]; exact upd_modify hw h2⟩
  unfold Instr.mapUpdate
  simp [run_underlying hd, _root_.Go.MapKept.run_getObj_map hb, hc, h3, Result.andThen, h2', Instr.keyThatStays, Instr.sameBits, _root_.Go.MapKept.run_setObj_map _ hb]
theorem run_delete {b : Nat} {es : Array MapEntry} {clock : Nat} (hb : w.heap[b]? = some (.map es clock)) (hw : MapWf es.toList) {key : Int} {t2 t3 : TypeId} :
  ∃ es' clock', (Builtin.delete_ #[t, t2] t3 #[.map (some b), .int .i64 key]).run P w = .ok (.tuple #[]) { w with heap := w.heap.setIfInBounds b (.map es' clock') } ∧ Upd es.toList es'.toList key none := by
 have hc := run_checkKey (w := w) hk (k := .int .i64 key) (by simp [IsKey]) es.isEmpty 9999
 have hf := find_wf (k' := .i64) key hw.ents 0
 cases hm : mlook es.toList key with
 | none =>
  rw [hm] at hf
  have h1 := run_findKey (w := w) hk hf
  refine ⟨es, clock, ?_, upd_same hw hm⟩
  unfold Builtin.delete_
  simp [run_underlying hd, _root_.Go.MapKept.run_getObj_map hb, hc, h1, Result.andThen, _root_.Go.MapKept.run_setObj_map _ hb]
 | some u =>
  rw [hm] at hf
  obtain ⟨i, c, h1, h2⟩ := hf
  rw [Nat.zero_add] at h1
  have h3 := run_findKey (w := w) hk h1
  refine ⟨es.eraseIdxIfInBounds i, clock, ?_, by rw [Array.toList_eraseIdxIfInBounds]; exact upd_erase hw h2⟩
  unfold Builtin.delete_
  simp [run_underlying hd, _root_.Go.MapKept.run_getObj_map hb, hc, h3, Result.andThen, _root_.Go.MapKept.run_setObj_map _ hb]
end
end Go.Rex
