/- Rex, part L: what 'effOp' says is so. -/
import Derived.Test.YthomdlajobnmnaaDoorRexK
set_option linter.unusedSimpArgs false
set_option linter.unusedVariables false
namespace Go.Rex

def ERok (P : Program) (ρ : Env) (ν : Nat → Addr) (w : World) (hp : List SB) (a : Act) (nv : Nat) (o : Oper) : ER → Prop
 | .val v os => (∀ c ∈ os, c.den ρ = true) → (execOp a.eval o).run P w = .ok (.value (v.den ρ ν)) w
 | .new v sb os => ν hp.length = ⟨w.heap.size, 0, none⟩ → (∀ c ∈ os, c.den ρ = true) → ∃ obj arr, IsObj (some obj) sb.t arr ∧ sb.has ρ ν arr ∧ sb.ro = false ∧ (execOp a.eval o).run P w = .ok (.value (v.den ρ ν)) (w.alloc obj)
 | .st b sb os => (∀ c ∈ os, c.den ρ = true) → ∃ r w' sb0, (r = Next.skip ∨ r = .value (.tuple #[])) ∧ hp[b]? = some sb0 ∧ sb0.own = true ∧ sb0.dead ρ = false ∧ (execOp a.eval o).run P w = .ok r w' ∧ Only (ν b).block w w' ∧ HpOK ρ ν (hp.set b sb) w'
 | .app b v sb _ fs os => (∀ c ∈ os, c.den ρ = true) → ∃ vr w', (execOp a.eval o).run P w = .ok (.value vr) w' ∧ AppOK ρ ν w hp nv b v sb fs vr w'
 | .call f args => ∀ fn, P.funcs[f]? = some fn → fn.body.isSome = true → (fn.name == "runtime.NumGoroutine") = false → (execOp a.eval o).run P w = .ok (.enter f (args.map (·.den ρ ν)).toArray) w
 | _ => True
theorem map_oneCells {ρ : Env} {ν : Nat → Addr} {cs : List SC} : (cs.map (·.den ρ ν)).toArray.size = cs.length := by simp
section
variable {P : Program} {T : Tab} {ρ : Env} {ν : Nat → Addr} {w : World} {gl : List (Nat × Nat)} {kn : Kn} {fr : Fr} {hp : List SB} {a : Act} {nv : Nat} {o : Oper}
theorem has_cells (t : TypeId) (cs : List SC) (sb : SB) (h1 : sb.cs = cs) (h2 : sb.segs = []) (h3 : sb.ups = []) (h4 : ∀ e n, sb.cap = some (e, n) → 0 ≤ e.den ρ ∧ cs.length = (e.den ρ).toNat * n) : sb.has ρ ν (cs.map (·.den ρ ν)).toArray := by
 refine ⟨fun u hu => (by rw [h3] at hu; cases hu), fun _ _ => by simp [h1], fun e n he => ?_, fun p c hp hh => ?_, fun gi g hg => (by rw [h2] at hg; simp at hg)⟩
 ·obtain ⟨q1, q2⟩ := h4 e n he
  exact ⟨q1, by simpa using q2⟩
 ·rw [h1] at hp
  simp [hp]
theorem zs_den (n size : Nat) (l : List SC) (z : Array Value) (hz : z.toList = l.map (·.den ρ ν)) (hs : l.length = size) (h0 : 0 < size) :
  ((Array.range (n * size)).map (z[· % z.size]!)) = ((zs n size l).map (·.den ρ ν)).toArray := by
 have hsz : z.size = size := by rw [← hs, ← Array.length_toList, hz, List.length_map]
 apply Array.ext'
 simp only [Array.toList_map, Array.toList_range, zs, List.map_map]
 apply List.map_congr_left
 intro i _
 have hlt : i % size < size := Nat.mod_lt _ h0
 simp only [Function.comp]
 rw [hsz]
 have h1 : z[i % size]? = some ((l.getD (i % size) .hole).den ρ ν) := by
  rw [← Array.getElem?_toList, hz, List.getElem?_map, List.getD_eq_getElem?_getD, List.getElem?_eq_getElem (by omega)]
  rfl
 rw [getElem!_def, h1]
theorem at_add (g n : Nat) : (⟨g, 0, none⟩ : Addr).add n = ⟨g, n, none⟩ := by
 unfold Addr.add
 split <;> simp_all
theorem fillW_len {place : Nat → Option (Nat × Nat)} : ∀ {parts : List (Nat × SW)} {cs cs' : List SC}, fillW place cs parts = some cs' → cs'.length = cs.length
 | [], cs, cs', h => by simp [fillW] at h; subst h; rfl
 | (i, x) :: r, cs, cs', h => by
  unfold fillW at h
  split at h
  ·cases h
  ·split at h
   ·rw [fillW_len h, putAt_length]
   ·cases h
variable (hT : TabOK P T) (hg : GlOK ν gl) (hk : Kn.ok ρ kn) (hf : FrOK ρ ν fr a) (hh : HpOK ρ ν hp w)
include hT hg hk hf
theorem buildSl_ok {t : TypeId} {len : Nat} {parts : Array (Nat × Operand)} (ho : o.op = .buildSlice t len parts) : ERok P ρ ν w hp a nv o (buildSlOp T gl kn fr hp t len parts) := by
 have opk : ∀ {x v}, opd gl kn fr x = some v → a.eval x = v.den ρ ν := fun hx => opd_ok hg hk hf hx
 unfold buildSlOp
 split
 case h_2 => trivial
 rename_i ti hti
 split
 case h_2 => trivial
 rename_i e he
 split
 case h_2 => trivial
 rename_i te ps hte hps
 split
 case isFalse => trivial
 rename_i hcond
 simp only [Bool.and_eq_true, decide_eq_true_eq] at hcond
 split
 case h_2 => trivial
 rename_i cs hfill
 intro hν _
 obtain ⟨d, hd, hc, -⟩ := (hT.ty hti).und
 rw [he] at hc
 cases d <;> simp [tdChk] at hc
 subst hc
 obtain ⟨i, z, hi, hs, hz, hzc, hza, hzl, -⟩ := (hT.ty hte).info
 have hzd := scsChk_ok (ρ := ρ) (ν := ν) hzc
 have hlen : cs.length = len * te.size := by rw [fillW_len hfill]; simp [zs]
 refine ⟨_, (cs.map (·.den ρ ν)).toArray, IsObj.of_cells (hT.ty hte).lt, has_cells e cs _ rfl rfl rfl (fun e0 n he0 => ?_), rfl, ?_⟩
 ·simp only [Option.some.injEq, Prod.mk.injEq] at he0
  obtain ⟨rfl, rfl⟩ := he0
  simp only [IE.den, Int.toNat_natCast]
  exact ⟨Int.natCast_nonneg _, hlen⟩
 have hparts : (parts.map fun (p : Nat × Operand) => (p.1, a.eval p.2)).toList = ps.map fun p => (p.1, p.2.den ρ ν) := by
  clear hfill ho
  rw [Array.toList_map]
  generalize parts.toList = l at *
  induction l generalizing ps with
  | nil => simp [wOf] at hps; subst hps; rfl
  | cons p l ih =>
   simp only [List.map_cons] at hps
   unfold wOf at hps
   split at hps
   ·rename_i h0; cases h0
   ·rename_i i0 x0 r0 h0
    simp only [List.cons.injEq, Prod.mk.injEq] at h0
    obtain ⟨⟨rfl, hx⟩, rfl⟩ := h0
    simp only [Option.map_eq_some_iff] at hps
    obtain ⟨q, hq, rfl⟩ := hps
    simp only [List.map_cons, ih _ hq, opk hx, SV.den]
   ·cases hps
 have hf := fillW_ok (ρ := ρ) (ν := ν) (place := fun i => some (i * te.size, te.size)) (place' := fun i => some (i * te.size, te.size)) (fun k p hk => hk) hfill
 have hrun : (Instr.buildSlice t len (parts.map fun (p : Nat × Operand) => (p.1, a.eval p.2))).run P w = .ok (.slice (some ⟨w.heap.size, 0, none⟩) len len) (w.alloc (.cells (cs.map (·.den ρ ν)).toArray e)) := by
  by_cases h0 : len * te.size = 0
  ·have hz0 : zs len te.size te.zero = [] := by simp [zs, h0]
   rw [hz0] at hf
   have hf' : Instr.fill (fun i => some (i * te.size, te.size)) #[] (parts.map fun (p : Nat × Operand) => (p.1, a.eval p.2)).toList = some (cs.map (·.den ρ ν)).toArray := by rw [hparts]; exact hf
   have hl0 : len = 0 := (Nat.mul_eq_zero.1 h0).resolve_right (by omega)
   subst hl0
   rw [Array.toList_map] at hf'
   have e0 : (Array.map (fun (_ : Nat) => (default : Value)) (Array.range 0)) = #[] := by apply Array.ext'; simp
   simp [Instr.buildSlice, run_underlying hd, (hT.ty hte).size, e0, hf', newRow]
  ·exact run_buildSlice (P := P) w t e len (parts.map fun (p : Nat × Operand) => (p.1, a.eval p.2)) (cs.map (·.den ρ ν)).toArray i z hd hi hz (by rw [hs]; omega) (by rw [hs]; exact h0) (by
      rw [hs, hparts, zs_den (ρ := ρ) (ν := ν) len te.size te.zero z.cells hzd hzl hcond.2]
      exact hf)
 unfold execOp
 simp only [ho, Sem.run_bind]
 rw [hrun]
 simp [SV.den, SW.den, SC.den, SA.den, SA.off, IE.den, hν, Addr.add_zero]
omit hT hg hk hf in
theorem zeroSeg_at {zero : List SC} {g : Seg} (h : zeroSeg zero g = true) : g.z = true ∧ ∀ i2 j, i2 < g.n2 → j < g.ks.length → ∃ k c, g.ks[j]? = some k ∧ zero[i2 * g.s2 + g.lo + j]? = some c ∧ zeroFit k c = true := by
 unfold zeroSeg at h
 simp only [Bool.and_eq_true, List.all_eq_true, List.mem_range] at h
 refine ⟨h.1, fun i2 j h1 h2 => ?_⟩
 have := h.2 i2 h1 j h2
 split at this
 ·rename_i k c hk hc
  exact ⟨k, c, hk, hc, this⟩
 ·cases this
omit hT hg hk hf in
theorem zeroFit_den {k : Kd} {c : SC} (h : zeroFit k c = true) (g : Seg) (hz : g.z = true) {i1 i2 j : Nat} (hk : g.ks[j]? = some k) : c.den ρ ν = g.base ρ i1 i2 j := by
 unfold zeroFit at h
 split at h
 ·rename_i a b n
  simp only [Bool.and_eq_true, beq_iff_eq] at h
  have := kindEq_eq h.1
  subst this
  simp [SC.den, IE.den, Seg.base, hk, hz, h.2]
 ·rename_i b
  simp at h
  simp [SC.den, BE.den, Seg.base, hk, hz, h]
 ·cases h
omit hg hk hf in
theorem made_has {e : TypeId} {te : TI} {n : IE} {segs : List Seg} {z : Array Value} (hz : z.toList = te.zero.map (·.den ρ ν)) (hzl : te.zero.length = te.size) (h0 : 0 < te.size) (hn : 0 ≤ n.den ρ)
  (hs : ∀ g ∈ segs, zeroSeg te.zero { g with n1 := n, s1 := te.size } = true) (hne : segs ≠ []) (cap : Option (IE × Nat)) (hcap : cap = some (n, te.size)) :
  SB.has ρ ν { t := e, segs := segs.map fun g => { g with n1 := n, s1 := te.size }, own := true, cap := cap } (madeCells z ((n.den ρ).toNat * te.size)) := by
 have _ := hT
 have hsz : z.size = te.size := by rw [← Array.length_toList, hz, List.length_map, hzl]
 refine ⟨fun u hu => (by cases hu), fun h => absurd (List.map_eq_nil_iff.1 h) hne, fun e' m he => ?_, fun p c hp => (by simp at hp), fun gi g hg i1 i2 j h1 h2 h3 => ?_⟩
 ·rw [hcap] at he
  simp only [Option.some.injEq, Prod.mk.injEq] at he
  obtain ⟨rfl, rfl⟩ := he
  exact ⟨hn, size_madeCells _ _⟩
 ·simp only [List.getElem?_map, Option.map_eq_some_iff] at hg
  obtain ⟨g0, hg0, rfl⟩ := hg
  have hzs := hs g0 (List.mem_of_getElem? hg0)
  obtain ⟨hzz, hzat⟩ := zeroSeg_at hzs
  obtain ⟨k, c, hk', hc, hfit⟩ := hzat i2 j h2 h3
  have hlt : i2 * g0.s2 + g0.lo + j < te.size := by rw [← hzl]; exact (List.getElem?_eq_some_iff.1 hc).1
  simp only [upsVal]
  rw [← zeroFit_den (ρ := ρ) (ν := ν) hfit _ hzz hk']
  have hi : i1 < (n.den ρ).toNat := by simp only at h1; omega
  have hpos : i1 * te.size + i2 * g0.s2 + g0.lo + j < (n.den ρ).toNat * te.size := by
   have : (i1 + 1) * te.size ≤ (n.den ρ).toNat * te.size := Nat.mul_le_mul_right _ hi
   rw [Nat.add_mul] at this
   omega
  have hmod : (i1 * te.size + i2 * g0.s2 + g0.lo + j) % te.size = i2 * g0.s2 + g0.lo + j := by
   rw [show i1 * te.size + i2 * g0.s2 + g0.lo + j = te.size * i1 + (i2 * g0.s2 + g0.lo + j) by rw [Nat.mul_comm]; omega, Nat.mul_add_mod, Nat.mod_eq_of_lt hlt]
  have hzc : z[i2 * g0.s2 + g0.lo + j]? = some (c.den ρ ν) := by rw [← Array.getElem?_toList, hz, List.getElem?_map, hc]; rfl
  unfold madeCells
  rw [Array.getElem?_map, Array.getElem?_range, if_pos hpos]
  simp only [Option.map_some, hsz, hmod]
  rw [getElem!_def, hzc]
theorem makeSl_ok {t : TypeId} {l c : Operand} (ho : o.op = .makeSlice t l c) : ERok P ρ ν w hp a nv o (makeSlOp T gl kn fr hp t l c) := by
 have opk : ∀ {x v}, opd gl kn fr x = some v → a.eval x = v.den ρ ν := fun hx => opd_ok hg hk hf hx
 unfold makeSlOp
 split
 case h_2 => trivial
 rename_i ti hti
 split
 case h_2 => trivial
 rename_i e he
 split
 case h_2 => trivial
 rename_i te k1 n k2 m hte hl hc
 simp only
 split
 case isFalse => trivial
 rename_i hcond
 simp only [Bool.and_eq_true, decide_eq_true_eq, Bool.not_eq_true', List.isEmpty_eq_false_iff, List.all_eq_true, List.mem_map, forall_exists_index, and_imp, forall_apply_eq_imp_iff₂] at hcond
 obtain ⟨⟨⟨c1, c2⟩, c3⟩, c4⟩ := hcond
 have hnm := IE.same_eq c1
 subst hnm
 intro hν hos
 have b1 := of_decide_eq_true (hos _ (by simp) : BE.den ρ (.ile (.lit 0) n) = true)
 have b2 := of_decide_eq_true (hos _ (by simp) : BE.den ρ (.ile (n.mulS (.lit te.bytes)) (.lit 281474976710656)) = true)
 have b3 := of_decide_eq_true (hos _ (by simp) : BE.den ρ (.ile n (.lit 9223372036854775807)) = true)
 rw [mulS_den] at b2
 simp only [IE.den] at b1 b2 b3
 obtain ⟨d, hd, hcd, -⟩ := (hT.ty hti).und
 rw [he] at hcd
 cases d <;> simp [tdChk] at hcd
 subst hcd
 obtain ⟨i, z, hi, hs, hz, hzc, hza, hzl, hby⟩ := (hT.ty hte).info
 have hzd := scsChk_ok (ρ := ρ) (ν := ν) hzc
 refine ⟨_, madeCells z.cells ((n.den ρ).toNat * te.size), IsObj.of_cells (hT.ty hte).lt, made_has hT hzd hzl c2 b1 c3 (fun h => c4 (by rw [h]; rfl)) _ rfl, rfl, ?_⟩
 have hr := run_make (P := P) w t e i z hd hi hz k1 k2 (n.den ρ) (n.den ρ) b1 (Int.le_refl _) (by rw [hby, Int.mul_comm]; exact b2) b3
 rw [hs] at hr
 have e1 : a.eval l = .int k1 (n.den ρ) := opk hl
 have e2 : a.eval c = .int k2 (n.den ρ) := opk hc
 unfold execOp
 simp only [ho, e1, e2, Sem.run_bind]
 rw [hr]
 simp [SV.den, SW.den, SC.den, SA.den, SA.off, IE.den, hν, Addr.add_zero]
theorem makeMap_ok {t : TypeId} {r : Option Operand} (ho : o.op = .makeMap t r) : ERok P ρ ν w hp a nv o (makeMapOp T hp t r) := by
 have _ := hT; have _ := hg; have _ := hk; have _ := hf
 unfold makeMapOp
 split
 case isFalse => trivial
 rename_i hc
 simp only [Bool.and_eq_true, Option.isNone_iff_eq_none] at hc
 obtain ⟨hty, rfl⟩ := hc
 intro hν _
 have hm : isMapT (1000000 + t) = true := by
  unfold isMapT
  rw [Nat.ble_eq]
  exact Nat.le_add_right _ _
 refine ⟨.map #[] 0, virt [], IsObj.of_map (es := #[]) (clock := 0) hm ⟨by simp, by simp⟩, ⟨fun u hu => (by cases hu), fun h => (by cases h), fun e n he => (by cases he), fun p c hp => (by simp at hp), fun gi g hgi i1 i2 j h1 h2 h3 => ?_⟩, rfl, ?_⟩
 ·rcases gi with _ | gi
  ·simp only [List.getElem?_cons_zero, Option.some.injEq] at hgi
   subst hgi
   simp only [List.length_cons, List.length_nil] at h2 h3
   simp only [IE.den] at h1
   obtain rfl : i2 = 0 := by omega
   have e : i1 * 2 + 0 * 0 + 0 + j = keyPos ((i1 : Int) - 9223372036854775808) j := by unfold keyPos; omega
   rw [e]
   have hv := virt_key [] (key := (i1 : Int) - 9223372036854775808) (by omega) (by omega)
   have hj : j = 0 ∨ j = 1 := by omega
   rcases hj with rfl | rfl
   ·rw [hv.1]; rfl
   ·rw [hv.2]; rfl
  ·simp at hgi
 ·unfold execOp
  simp [ho, Instr.makeMap, SV.den, SW.den, SC.den, hν]
include hh in
theorem mapSt_run {t : TypeId} {m k : Operand} {x : Option Operand} {b : Nat} {sb' : SB} {os : List BE} (h : mapStOp T gl kn fr hp t m k x = .st b sb' os) (hos : ∀ c ∈ os, c.den ρ = true) :
  ∃ kt et sb0 es clock ke v, P.underlying t = some (.map kt et) ∧ P.underlying kt = some (.int .i64) ∧ hp[b]? = some sb0 ∧ sb0.own = true ∧ sb0.dead ρ = false ∧ a.eval m = .map (some (ν b).block) ∧ a.eval k = .int .i64 ke ∧
   (-9223372036854775808 ≤ ke ∧ ke ≤ 9223372036854775807) ∧ (∀ y, x = some y → a.eval y = .int .i64 v) ∧ w.heap[(ν b).block]? = some (.map es clock) ∧ MapWf es.toList ∧
   ∀ (w' : World) (es' : Array MapEntry) (clock' : Nat), Upd es.toList es'.toList ke (x.map fun _ => v) → w' = { w with heap := w.heap.setIfInBounds (ν b).block (.map es' clock') } →
    Only (ν b).block w w' ∧ HpOK ρ ν (hp.set b sb') w' := by
 have opk : ∀ {x v}, opd gl kn fr x = some v → a.eval x = v.den ρ ν := fun hx => opd_ok hg hk hf hx
 unfold mapStOp at h
 split at h
 case isFalse => cases h
 rename_i hty
 obtain ⟨kt, et, u1, u2, u3, -⟩ := mapTy_ok hT hty
 split at h
 case h_2 => cases h
 rename_i b' ke hm hke
 split at h
 case h_2 => cases h
 rename_i v sb hv hsb
 split at h
 ·cases h
 rename_i hgr
 simp only [Bool.or_eq_true, not_or, Bool.not_eq_true, Bool.not_eq_true', Bool.not_eq_false] at hgr
 obtain ⟨⟨g1, g2⟩, g3⟩ := hgr
 split at h
 ·cases h
 rename_i g hg'
 split at h
 ·cases h
 rename_i sb1 hw1
 split at h
 ·cases h
 rename_i sb2 hw2
 cases h
 obtain ⟨hr, hnl, hl⟩ := mapLoc_ok (ρ := ρ) hg' hos
 have hd : sb.dead ρ = false := SB.live_of g1 hnl
 obtain ⟨hz, cs, h1, h2⟩ := hh.blk b sb hsb hd g2
 have hmp := (mapSeg_ok hg').2.1
 obtain ⟨es, clock, e1, e2, e3⟩ := IsObj.map h1 hmp
 rw [e3] at h2
 refine ⟨kt, et, sb, es, clock, ke.den ρ, v.den ρ, u1, u2, hsb, by simpa using g3, hd, opk hm, opk hke, hr, fun y hy => ?_, e1, e2, fun w' es' clock' hu hw' => ?_⟩
 ·subst hy
  simp only at hv
  split at hv
  ·rename_i e hx
   simp at hv
   subst hv
   exact opk hx
  ·cases hv
 ·obtain ⟨l1, l2, l3⟩ := hl 1 (by decide)
  obtain ⟨hb1, -⟩ := SB.write_ok (ρ := ρ) (ν := ν) h2 l1 l2 hw1
  have hseg1 : sb1.segs = sb.segs ∧ sb1.t = sb.t ∧ sb1.ro = sb.ro := by
   have := (SB.write_t hw1).1
   unfold SB.write at hw1
   split at hw1
   ·cases hw1
   ·simp only at hw1
    split at hw1
    ·simp at hw1; subst hw1; exact ⟨rfl, rfl, rfl⟩
    ·cases hw1
  have hseg2 : sb'.t = sb1.t ∧ sb'.ro = sb1.ro := by
   unfold SB.write at hw2
   split at hw2
   ·cases hw2
   ·simp only at hw2
    split at hw2
    ·simp at hw2; subst hw2; exact ⟨rfl, rfl⟩
    ·cases hw2
  obtain ⟨k1, k2, k3⟩ := hl 0 (by decide)
  have k1' : (Loc.sg 0 g (mapKey ke) (.lit 0) 0).ok sb1 := by
   obtain ⟨q1, q2⟩ := k1
   exact ⟨by rw [hseg1.1]; exact q1, q2⟩
  obtain ⟨hb2, -⟩ := SB.write_ok (ρ := ρ) (ν := ν) hb1 k1' k2 hw2
  rw [l3, k3] at hb2
  have hO : Only (ν b).block w w' := by
   subst hw'
   exact ⟨rfl, rfl, rfl, by simp, fun j hj => by simp [Ne.symm hj]⟩
  refine ⟨hO, hh.set hsb hd g2 hO (arr' := virt es'.toList) ?_ ?_ (by rw [hseg2.2, hseg1.2.2]; exact g2)⟩
  ·subst hw'
   have hlt : (ν b).block < w.heap.size := (Array.getElem?_eq_some_iff.1 e1).1
   rw [hseg2.1, hseg1.2.1]
   have : (w.heap.setIfInBounds (ν b).block (.map es' clock'))[(ν b).block]? = some (.map es' clock') := by simp [hlt]
   rw [this]
   have hmp' : isMapT sb.t = true := by have h0 := hmp; unfold SB.isMap at h0; exact h0
   exact IsObj.of_map hmp' hu.wf
  ·rw [virt_upd hu hr.1 hr.2]
   have ex : (SC.int .i64 v).den ρ ν = .int .i64 ((x.map fun _ => v.den ρ).getD 0) := by
    cases x with
    | some y => rfl
    | none =>
     have hv' : some (IE.lit 0) = some v := hv
     injection hv' with hv'
     rw [← hv']
     rfl
   have eb : (SC.bool (.lit x.isSome)).den ρ ν = .bool (x.map fun _ => v.den ρ).isSome := by cases x <;> rfl
   rw [← ex, ← eb]
   exact hb2
omit hT hg hk hf in
theorem mapSt_kind {t : TypeId} {m k : Operand} {x : Option Operand} : (∃ b sb os, mapStOp T gl kn fr hp t m k x = .st b sb os) ∨ mapStOp T gl kn fr hp t m k x = .no := by
 unfold mapStOp
 by_cases h1 : mapTy T t = true
 ·rw [if_pos h1]
  split
  ·split
   ·rename_i v sb _ _
    by_cases h2 : (sb.gone || sb.ro || !sb.own) = true
    ·rw [if_pos h2]; exact .inr rfl
    ·rw [if_neg h2]
     split
     ·exact .inr rfl
     ·split
      ·exact .inr rfl
      ·split
       ·exact .inr rfl
       ·exact .inl ⟨_, _, _, rfl⟩
   ·exact .inr rfl
  ·exact .inr rfl
 ·rw [if_neg h1]; exact .inr rfl
include hh in
theorem mapUpdate_ok {t : TypeId} {m k x : Operand} (ho : o.op = .mapUpdate t m k x) : ERok P ρ ν w hp a nv o (mapStOp T gl kn fr hp t m k (some x)) := by
 rcases mapSt_kind (T := T) (gl := gl) (kn := kn) (fr := fr) (hp := hp) (t := t) (m := m) (k := k) (x := some x) with ⟨b, sb', os, h⟩ | h
 ·rw [h]
  intro hos
  obtain ⟨kt, et, sb0, es, clock, ke, v, u1, u2, h1, h2, h3, h4, h5, h6, h7, h8, h9, h10⟩ := mapSt_run hT hg hk hf hh h hos
  obtain ⟨es', clock', hr, hu⟩ := run_update u1 u2 h8 h9 h6 (v := v)
  obtain ⟨q1, q2⟩ := h10 _ es' clock' hu rfl
  refine ⟨_, _, sb0, .inl rfl, h1, h2, h3, ?_, q1, q2⟩
  unfold execOp
  simp [ho, h4, h5, h7 x rfl, hr]
 ·rw [h]; trivial
include hh in
theorem mapDelete_ok {m k : Operand} {args : Array Operand} {argTypes : Array TypeId} {t t2 : TypeId} (ho : o.op = .call { callee := .builtin .delete, args := args, argTypes := argTypes }) (ha : args.toList = [m, k]) (ht : argTypes.toList = [t, t2]) :
  ERok P ρ ν w hp a nv o (mapStOp T gl kn fr hp t m k none) := by
 rcases mapSt_kind (T := T) (gl := gl) (kn := kn) (fr := fr) (hp := hp) (t := t) (m := m) (k := k) (x := none) with ⟨b, sb', os, h⟩ | h
 ·rw [h]
  intro hos
  obtain ⟨kt, et, sb0, es, clock, ke, v, u1, u2, h1, h2, h3, h4, h5, h6, h7, h8, h9, h10⟩ := mapSt_run hT hg hk hf hh h hos
  obtain ⟨es', clock', hr, hu⟩ := run_delete u1 u2 h8 h9 (key := ke) (t2 := t2) (t3 := o.type)
  obtain ⟨q1, q2⟩ := h10 _ es' clock' hu rfl
  have e1 : args = #[m, k] := by obtain ⟨l⟩ := args; simp at ha; rw [ha]
  have e2 : argTypes = #[t, t2] := by obtain ⟨l⟩ := argTypes; simp at ht; rw [ht]
  subst e1 e2
  refine ⟨_, _, sb0, .inr rfl, h1, h2, h3, ?_, q1, q2⟩
  unfold execOp
  simp [ho, resolve, invoke, builtin, h4, h5, hr]
 ·rw [h]; trivial
include hh
theorem store_ok {t : TypeId} {ax x : Operand} (ho : o.op = .store t ax x) : ERok P ρ ν w hp a nv o (storeOp T gl kn fr hp t ax x) := by
 have opk : ∀ {x v}, opd gl kn fr x = some v → a.eval x = v.den ρ ν := fun hx => opd_ok hg hk hf hx
 unfold storeOp
 split
 case h_2 => trivial
 rename_i sa y ti ha hx hti
 split
 case h_2 => trivial
 rename_i sb0 hsb0
 split
 ·trivial
 rename_i hgone
 simp only [Bool.or_eq_true, not_or, Bool.not_eq_true, Bool.not_eq_true', Bool.not_eq_false] at hgone
 obtain ⟨⟨⟨hgone', hmap⟩, hro⟩, hown⟩ := hgone
 split
 case isFalse => trivial
 rename_i hlen
 split
 case h_2 => trivial
 rename_i sb' os' hst
 intro hos
 have hd : sb0.dead ρ = false := SB.live_of hgone' fun c hm => hos c (List.mem_append_left _ hm)
 obtain ⟨hz, arr, harr, hhas⟩ := hh.blk _ _ hsb0 hd hro
 replace harr := harr.cells hmap
 obtain ⟨arr', w', h1, h2, h3, h4, h5⟩ := stCells_ok (P := P) harr hhas hst (fun c hm => hos c (List.mem_append_right _ hm))
 have e1 : a.eval ax = .pointer (some ⟨(ν sa.blk).block, sa.off ρ, none⟩) := by
  rw [opk ha]
  simp only [SV.den, SW.den, SC.den, SA.den]
  rw [hz, at_add]
 have e2 : a.eval x = y.den ρ ν := opk hx
 refine ⟨_, w', sb0, .inl rfl, hsb0, by simpa using hown, hd, ?_, h3, hh.set hsb0 hd hro h3 (by rw [h5.1, h2]; exact IsObj.of_cells hmap) h4 (h5.2.1.trans hro)⟩
 have e3 : (y.den ρ ν).cells.toList = y.cells.map (·.den ρ ν) := by rw [SW.cells_den]
 have e4 : (y.den ρ ν).cells.size = ti.size := by rw [SW.cells_den]; simpa using hlen
 unfold execOp
 simp [ho, Instr.storeAt, e1, e2, Instr.sureAddr, storeVar, (hT.ty hti).size, e4, e3, h1]
omit hh in
omit hT in
theorem call_ok {fo : Operand} {argos : Array Operand} {tys : Array TypeId} (ho : o.op = .call { callee := .value fo, args := argos, argTypes := tys }) : ERok P ρ ν w hp a nv o (callOp gl kn fr fo argos) := by
 have opk : ∀ {x v}, opd gl kn fr x = some v → a.eval x = v.den ρ ν := fun hx => opd_ok hg hk hf hx
 unfold callOp
 split
 case h_2 => trivial
 rename_i g caps as hfo has
 intro fn hfn hb hn
 have e1 : a.eval fo = .func (.func g) #[] (caps.map fun b => Value.pointer (some (ν b))).toArray := opk hfo
 have e2 : argos.map a.eval = (as.map (·.den ρ ν)).toArray := by
  apply Array.ext'
  rw [Array.toList_map]
  generalize argos.toList = l at *
  clear ho
  induction l generalizing as with
  | nil => simp [swList] at has; subst has; rfl
  | cons p l ih =>
   simp only [List.map_cons] at has
   unfold swList at has
   split at has
   ·rename_i h0; cases h0
   ·rename_i x0 r0 h0
    simp only [List.cons.injEq] at h0
    obtain ⟨hx, rfl⟩ := h0
    simp only [Option.map_eq_some_iff] at has
    obtain ⟨q, hq, rfl⟩ := has
    have := ih _ hq
    simp only [List.map_cons, this, opk hx, SV.den]
   ·cases has
 have e3 : (caps.map fun b => Value.pointer (some (ν b))) = (caps.map fun b => (SW.one (.ptr { blk := b })).den ρ ν) := by
  apply List.map_congr_left
  intro b _
  simp [SW.den, SC.den, SA.den, SA.off, IE.den, Addr.add_zero]
 unfold execOp
 simp only [ho, resolve, Deferred.ofValue, e1, e2, Sem.run_bind, Sem.run_pure, Result.andThen_ok, invoke, callFunc, run_program, hfn, hn, e3]
 have hb' : fn.body.isNone = false := by cases hq : fn.body <;> simp_all
 simp [hb', List.map_map, Function.comp]
theorem app_exec {s x : Operand} {t : TypeId} {args : Array Operand} {tys : Array TypeId} (ho : o.op = .call { callee := .builtin .append, args := args, argTypes := tys }) (h1 : args.toList = [s, x]) (h2 : tys.toList = [t, t]) {v0 v1 vr : Value} {w' : World}
  (hs : a.eval s = v0) (hx : a.eval x = v1) (hr : (Builtin.append_ #[t, t] o.type #[v0, v1]).run P w = .ok vr w') : (execOp a.eval o).run P w = .ok (.value vr) w' := by
 have _ := hT; have _ := hg; have _ := hk; have _ := hf; have _ := hh
 unfold execOp
 simp only [ho]
 have e1 : args = #[s, x] := by rw [← h1]
 have e2 : tys = #[t, t] := by rw [← h2]
 subst e1 e2
 simp [resolve, invoke, builtin, hx, hs, hr]
theorem appLit_ok {e t : TypeId} {te : TI} (ht : P.underlying t = some (.slice e)) (hte : TyOK P e te) {dst : SV} {ax : SA} {m cx : Nat} {b : Option Nat} {v : SV} {sb : SB} {k : Nat} {fs : List QF} {os : List BE}
  (h : appLit te e kn nv hp dst ax m = .app b v sb k fs os) (hos : ∀ c ∈ os, c.den ρ = true) {ty : TypeId} :
  ∃ vr w', (Builtin.append_ #[t, t] ty #[dst.den ρ ν, .slice (some (ax.den ρ ν)) m cx]).run P w = .ok vr w' ∧ AppOK ρ ν w hp nv b v sb fs vr w' := by
 have _ := hT; have _ := hg; have _ := hf
 unfold appLit at h
 split at h
 case h_2 => cases h
 rename_i sbx hsbx
 split at h
 ·cases h
 rename_i hgone
 split at h
 case h_2 => cases h
 case h_3 => cases h
 rename_i news os' hld
 split at h
 case h_2 => cases h
 rename_i b' v' sb' k' fs' os2 happ
 cases h
 simp only [Bool.or_eq_true, not_or, Bool.not_eq_true] at hgone
 have hd : sbx.dead ρ = false := SB.live_of hgone.1 fun c hm => hos c (List.mem_append_right _ (List.mem_append_left _ hm))
 obtain ⟨arr, hhas, harr⟩ := hh.cells hsbx hd (fun _ => hgone.2)
 obtain ⟨hlen, hcells⟩ := ldCells_ok hk hhas hld (fun c hm => hos c (List.mem_append_left _ hm))
 refine appTo_ok hh ht hte happ (fun c hm => hos c (List.mem_append_right _ (List.mem_append_right _ hm))) _ _ fun j c hc => ?_
 have := hcells j c hc
 unfold SA.den
 rw [Addr.add_add]
 exact harr _ _ (by simpa using this)
theorem appLit_no {e : TypeId} {te : TI} {dst : SV} {ax : SA} {m : Nat} : (∀ b v sb k fs os, appLit te e kn nv hp dst ax m ≠ .app b v sb k fs os) → ERok P ρ ν w hp a nv o (appLit te e kn nv hp dst ax m) := by
 have _ := hT; have _ := hg; have _ := hk; have _ := hf; have _ := hh
 intro hne
 unfold appLit at hne ⊢
 split
 case h_2 => trivial
 rename_i sbx hsbx
 rw [hsbx] at hne
 simp only at hne
 split
 ·trivial
 rename_i hg'
 rw [if_neg hg'] at hne
 split
 ·rename_i news os hld
  rw [hld] at hne
  simp only at hne
  split
  ·rename_i b v sb k fs os' happ
   rw [happ] at hne
   exact absurd rfl (hne b v sb k fs (os ++ (sbx.nlOb ++ os')))
  ·trivial
 ·trivial
 ·trivial
theorem appSl_ok {s x : Operand} {e t : TypeId} {te : TI} {args : Array Operand} {tys : Array TypeId} (ho : o.op = .call { callee := .builtin .append, args := args, argTypes := tys }) (h1 : args.toList = [s, x]) (h2 : tys.toList = [t, t])
  (ht : P.underlying t = some (.slice e)) (hte : TyOK P e te) {dst : SV} (hs : a.eval s = dst.den ρ ν) {c : BE} {ax : SA} {n : IE} {os0 : List BE} {src : Option Addr} {cx : Nat} (hx : a.eval x = .slice src (n.den ρ).toNat cx)
  (hsrc : c.den ρ = false → src = some (ax.den ρ ν)) (hnil : (∀ c ∈ os0, c.den ρ = true) → c.den ρ = true → src = none ∧ n.den ρ = 0) (hns : src = none → c.den ρ = true) : ERok P ρ ν w hp a nv o (appSl te e nv hp dst c ax n os0) := by
 unfold appSl
 split
 case h_2 => trivial
 rename_i cv os' hsrcOf
 cases hap : appBulk te e nv hp dst n cv (os0 ++ os') with
 | app b v sb k fs os =>
  intro hos
  -- what must hold is among the obligations: first those of the slice
  have hsub : ∀ z ∈ os0 ++ os', z.den ρ = true := by
   unfold appBulk at hap
   split at hap
   ·cases hap
   split at hap
   ·cases hap
   split at hap
   ·cases hap
   cases hap
   exact fun z hm => hos z (List.mem_cons_of_mem _ (List.mem_append_right _ hm))
  have hn0 : src = none → n.den ρ = 0 := fun h => (hnil (fun z hm => hsub z (List.mem_append_left _ hm)) (hns h)).2
  obtain ⟨-, vr, w', hr, hA⟩ := appBulk_ok hh ht hte hap hos src cx (ty := o.type) hn0 (fun hos2 hzl => by
    obtain ⟨q1, q2⟩ := src_ok (ν := ν) hh hzl hsrcOf (fun z hm => hos2 z (List.mem_append_right _ hm))
    refine ⟨q1, ?_⟩
    cases hc : c.den ρ with
    | false =>
      obtain ⟨news, r1, r2, r3⟩ := q2 hc
      refine ⟨news, r1, fun A hA j u hj => ?_, r3⟩
      rw [hsrc hc] at hA
      cases hA
      exact r2 j u hj
    | true =>
      obtain ⟨e1, e2⟩ := hnil (fun z hm => hos2 z (List.mem_append_left _ hm)) hc
      refine ⟨[], ⟨by rw [e2]; simp, fun i j hi => (by rw [e2] at hi; simp at hi)⟩, fun A hA => (by rw [e1] at hA; cases hA), fun u hu => (by cases hu)⟩)
  exact ⟨vr, w', app_exec hT hg hk hf hh ho h1 h2 hs hx hr, hA⟩
 | val => unfold appBulk at hap; (split at hap; cases hap); (split at hap; cases hap); (split at hap <;> cases hap)
 | new => unfold appBulk at hap; (split at hap; cases hap); (split at hap; cases hap); (split at hap <;> cases hap)
 | st => unfold appBulk at hap; (split at hap; cases hap); (split at hap; cases hap); (split at hap <;> cases hap)
 | call => unfold appBulk at hap; (split at hap; cases hap); (split at hap; cases hap); (split at hap <;> cases hap)
 | br => trivial
 | no => trivial
theorem app_ok {args : Array Operand} {tys : Array TypeId} {s x : Operand} {t : TypeId} (ho : o.op = .call { callee := .builtin .append, args := args, argTypes := tys }) (h1 : args.toList = [s, x]) (h2 : tys.toList = [t, t]) :
  ERok P ρ ν w hp a nv o (appOp T gl nv kn fr hp t s x) := by
 have opk : ∀ {x v}, opd gl kn fr x = some v → a.eval x = v.den ρ ν := fun hx => opd_ok hg hk hf hx
 unfold appOp
 split
 case h_2 => trivial
 rename_i ti hti
 split
 case h_2 => trivial
 rename_i e he
 obtain ⟨d, hd, hc, -⟩ := (hT.ty hti).und
 rw [he] at hc
 cases d <;> simp [tdChk] at hc
 subst hc
 split
 case h_2 => trivial
 rename_i te dst hte hs
 have hte' := hT.ty hte
 split
 ·rename_i ax n cx hx
  have hx' : a.eval x = .slice (some (ax.den ρ ν)) (n.den ρ).toNat (cx.den ρ).toNat := opk hx
  have bulk : ERok P ρ ν w hp a nv o (appSl te e nv hp dst (.lit false) ax n []) :=
   appSl_ok hT hg hk hf hh ho h1 h2 hd hte' (opk hs) hx' (fun _ => rfl) (fun _ h => by cases h) (fun h => by cases h)
  split
  ·rename_i m hm
   simp only
   split
   ·exact bulk
   ·cases hl : appLit te e kn nv hp dst ax m.toNat with
    | app b v sb k fs os =>
     intro hos
     have hm' : (n.den ρ).toNat = m.toNat := by rw [IE.lit?_ok hm]
     obtain ⟨vr, w', hr, hA⟩ := appLit_ok hT hg hk hf hh hd hte' hl hos (cx := (cx.den ρ).toNat) (ty := o.type)
     rw [hm'] at hx'
     exact ⟨vr, w', app_exec hT hg hk hf hh ho h1 h2 (opk hs) hx' hr, hA⟩
    | _ =>
     have := appLit_no (P := P) (w := w) (a := a) (nv := nv) (o := o) hT hg hk hf hh (te := te) (e := e) (dst := dst) (ax := ax) (m := m.toNat) (by rw [hl]; intro b v sb k fs os h; cases h)
     rw [hl] at this
     exact this
  ·exact bulk
 ·rename_i c ax n cx hx
  have hx0 : a.eval x = SC.den ρ ν (.sln c ax n cx) := opk hx
  cases hc : c.den ρ with
  | true =>
   have hx' : a.eval x = .slice none 0 0 := by rw [hx0]; simp [SC.den, hc]
   cases hn : (n.den ρ).toNat with
   | zero =>
    exact appSl_ok hT hg hk hf hh ho h1 h2 hd hte' (opk hs) (src := none) (cx := 0) (by rw [hx', hn]) (fun h => by rw [hc] at h; cases h) (fun hz _ => ⟨rfl, nilOb_ok (hz _ (List.mem_singleton.2 rfl)) hc⟩) (fun _ => hc)
   | succ q =>
    -- not so: a nil slice is empty
    unfold appSl
    split
    case h_2 => trivial
    rename_i cv os' hsrcOf
    cases hap : appBulk te e nv hp dst n cv ([nilOb c n] ++ os') with
    | app b v sb k fs os =>
     intro hos
     exfalso
     unfold appBulk at hap
     split at hap
     ·cases hap
     split at hap
     ·cases hap
     split at hap
     ·cases hap
     cases hap
     have := nilOb_ok (hos (nilOb c n) (by simp)) hc
     rw [this] at hn
     cases hn
    | val => unfold appBulk at hap; (split at hap; cases hap); (split at hap; cases hap); (split at hap <;> cases hap)
    | new => unfold appBulk at hap; (split at hap; cases hap); (split at hap; cases hap); (split at hap <;> cases hap)
    | st => unfold appBulk at hap; (split at hap; cases hap); (split at hap; cases hap); (split at hap <;> cases hap)
    | call => unfold appBulk at hap; (split at hap; cases hap); (split at hap; cases hap); (split at hap <;> cases hap)
    | br => trivial
    | no => trivial
  | false =>
   have hx' : a.eval x = .slice (some (ax.den ρ ν)) (n.den ρ).toNat (cx.den ρ).toNat := by rw [hx0]; simp [SC.den, hc]
   exact appSl_ok hT hg hk hf hh ho h1 h2 hd hte' (opk hs) hx' (fun _ => rfl) (fun _ h => by rw [hc] at h; cases h) (fun h => by cases h)
 ·trivial
omit hT hg hk hf hh in
theorem arr_has {ti : TI} {g : Seg} (h : arrSeg ti = some g) (t : TypeId) : SB.has ρ ν { t := t, segs := [g], own := true } (ti.zero.map (·.den ρ ν)).toArray := by
 unfold arrSeg at h
 split at h
 case h_2 => cases h
 rename_i n e hd
 split at h
 case isFalse => cases h
 rename_i hc
 simp only [Option.some.injEq] at h
 subst h
 simp only [Bool.and_eq_true, decide_eq_true_eq, beq_iff_eq, List.all_eq_true] at hc
 obtain ⟨⟨c1, c2⟩, c3⟩ := hc
 refine ⟨fun u hu => (by cases hu), fun h => (by cases h), fun e' m he => (by cases he), fun p c hp => (by simp at hp), fun gi g hg i1 i2 j h1 h2 h3 => ?_⟩
 rcases gi with _ | gi
 ·simp only [List.getElem?_cons_zero, Option.some.injEq] at hg
  subst hg
  simp only [List.length_cons, List.length_nil, IE.den] at h1 h2 h3
  obtain rfl : i2 = 0 := by omega
  obtain rfl : j = 0 := by omega
  have hi : i1 < ti.zero.length := by omega
  have hz := c3 _ (List.getElem_mem hi)
  have hl : (ti.zero.map (·.den ρ ν)).toArray[i1 * 1 + 0 * 0 + 0 + 0]? = some ((ti.zero[i1]).den ρ ν) := by
   rw [show i1 * 1 + 0 * 0 + 0 + 0 = i1 by omega, List.getElem?_toArray, List.getElem?_map, List.getElem?_eq_getElem hi]
   rfl
  simp only [upsVal]
  rw [← zeroFit_den (ρ := ρ) (ν := ν) hz _ rfl rfl]
  exact hl
 ·simp at hg
theorem effOp_ok : ERok P ρ ν w hp a nv o (effOp T gl nv kn fr hp o) := by
 have opk : ∀ {x v}, opd gl kn fr x = some v → a.eval x = v.den ρ ν := fun hx => opd_ok hg hk hf hx
 unfold effOp
 split
 ·rename_i t ho
  split
  ·rename_i ti hti
   split
   ·rename_i g hgs
    intro hν _
    obtain ⟨z, hz, hc, -⟩ := (hT.ty hti).zeroV (w := w) ρ ν
    have hzc : z.cells = (ti.zero.map (·.den ρ ν)).toArray := by rw [← hc]
    refine ⟨_, z.cells, IsObj.of_cells (hT.ty hti).lt, by rw [hzc]; exact arr_has hgs t, rfl, ?_⟩
    unfold execOp
    simp [ho, Instr.alloc, hz, newVar, newRow, SV.den, SW.den, SC.den, SA.den, SA.off, IE.den, hν, Addr.add_zero]
   intro hν _
   obtain ⟨z, hz, hc, -⟩ := (hT.ty hti).zeroV (w := w) ρ ν
   have hzc : z.cells = (ti.zero.map (·.den ρ ν)).toArray := by rw [← hc]
   refine ⟨_, z.cells, IsObj.of_cells (hT.ty hti).lt, by rw [hzc]; exact has_cells t ti.zero _ rfl rfl rfl (fun e n h => by cases h), rfl, ?_⟩
   unfold execOp
   simp [ho, Instr.alloc, hz, newVar, newRow, SV.den, SW.den, SC.den, SA.den, SA.off, IE.den, hν, Addr.add_zero]
  ·trivial
 ·rename_i t x ho
  split
  ·rename_i tb y htb hy
   intro hν _
   refine ⟨_, (y.den ρ ν).cells, IsObj.of_cells (hT.ty htb).lt, by rw [SW.cells_den]; exact has_cells t y.cells _ rfl rfl rfl (fun e n h => by cases h), rfl, ?_⟩
   have := opk hy
   unfold execOp
   simp [ho, Instr.box, this, newVar, newRow, SV.den, SW.den, SC.den, SA.den, SA.off, IE.den, hν, Addr.add_zero]
  ·trivial
 ·rename_i t len parts ho
  exact buildSl_ok hT hg hk hf ho
 ·rename_i t ax x ho
  exact store_ok hT hg hk hf hh ho
 ·rename_i t l c ho
  exact makeSl_ok hT hg hk hf ho
 ·rename_i t r ho
  exact makeMap_ok hT hg hk hf ho
 ·rename_i t m k x ho
  exact mapUpdate_ok hT hg hk hf hh ho
 ·rename_i args argTypes ho
  split
  ·rename_i m k t t2 ha ht
   exact mapDelete_ok hT hg hk hf hh ho ha ht
  ·trivial
 ·rename_i args argTypes ho
  split
  ·rename_i s x t t' hargs hty
   split
   ·rename_i htt
    simp only [beq_iff_eq] at htt
    subst htt
    exact app_ok hT hg hk hf hh ho hargs hty
   ·trivial
  ·trivial
 ·rename_i fo argos tys ho
  exact call_ok hg hk hf ho
 ·split
  ·rename_i v os hp'
   intro hos
   exact pureOp_ok hT hg hk hf hh hp' hos
  ·trivial
  ·trivial
end
end Go.Rex
