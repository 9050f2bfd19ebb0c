/- Rex, part L: what 'effOp' says is so. -/
import Derived.Test.YtlfhjmfelbomaaaDoorRexK
set_option linter.unusedSimpArgs false
set_option linter.unusedVariables false
namespace Go.Rex

def ERok (P : Program) (ρ : Env) (ν : Nat → Addr) (w : World) (hp : List SB) (a : Act) (nv : Nat) (o : Oper) : ER → Prop
  | .val v os => (∀ c ∈ os, c.den ρ = true) → (execOp a.eval o).run P w = .ok (.value (v.den ρ ν)) w
  | .new v sb os => ν hp.length = ⟨w.heap.size, 0, none⟩ → (∀ c ∈ os, c.den ρ = true) → ∃ arr, sb.has ρ ν arr ∧ sb.ro = false ∧ (execOp a.eval o).run P w = .ok (.value (v.den ρ ν)) (w.alloc (.cells arr sb.t))
  | .st b sb os => (∀ c ∈ os, c.den ρ = true) → ∃ w' sb0, hp[b]? = some sb0 ∧ sb0.own = true ∧ sb0.dead ρ = false ∧ (execOp a.eval o).run P w = .ok .skip w' ∧ Only (ν b).block w w' ∧ HpOK ρ ν (hp.set b sb) w'
  | .app b v sb _ fs os => (∀ c ∈ os, c.den ρ = true) → ∃ vr w', (execOp a.eval o).run P w = .ok (.value vr) w' ∧ AppOK ρ ν w hp nv b v sb fs vr w'
  | .call f args => ∀ fn, P.funcs[f]? = some fn → fn.body.isSome = true → (fn.name == "runtime.NumGoroutine") = false → (execOp a.eval o).run P w = .ok (.enter f (args.map (·.den ρ ν)).toArray) w
  | _ => True
theorem map_oneCells {ρ : Env} {ν : Nat → Addr} {cs : List SC} : (cs.map (·.den ρ ν)).toArray.size = cs.length := by simp
section
variable {P : Program} {T : Tab} {ρ : Env} {ν : Nat → Addr} {w : World} {gl : List (Nat × Nat)} {kn : Kn} {fr : Fr} {hp : List SB} {a : Act} {nv : Nat} {o : Oper}
theorem has_cells (t : TypeId) (cs : List SC) (sb : SB) (h1 : sb.cs = cs) (h2 : sb.segs = []) (h3 : sb.ups = []) (h4 : ∀ e n, sb.cap = some (e, n) → 0 ≤ e.den ρ ∧ cs.length = (e.den ρ).toNat * n) : sb.has ρ ν (cs.map (·.den ρ ν)).toArray := by
  refine ⟨fun u hu => (by rw [h3] at hu; cases hu), fun _ _ => by simp [h1], fun e n he => ?_, fun p c hp hh => ?_, fun gi g hg => (by rw [h2] at hg; simp at hg)⟩
  · obtain ⟨q1, q2⟩ := h4 e n he
    exact ⟨q1, by simpa using q2⟩
  · rw [h1] at hp
    simp [hp]
theorem zs_den (n size : Nat) (l : List SC) (z : Array Value) (hz : z.toList = l.map (·.den ρ ν)) (hs : l.length = size) (h0 : 0 < size) :
    ((Array.range (n * size)).map (z[· % z.size]!)) = ((zs n size l).map (·.den ρ ν)).toArray := by
  have hsz : z.size = size := by rw [← hs, ← Array.length_toList, hz, List.length_map]
  apply Array.ext'
  simp only [Array.toList_map, Array.toList_range, zs, List.map_map]
  apply List.map_congr_left
  intro i _
  have hlt : i % size < size := Nat.mod_lt _ h0
  simp only [Function.comp]
  rw [hsz]
  have h1 : z[i % size]? = some ((l.getD (i % size) .hole).den ρ ν) := by
    rw [← Array.getElem?_toList, hz, List.getElem?_map, List.getD_eq_getElem?_getD, List.getElem?_eq_getElem (by omega)]
    rfl
  rw [getElem!_def, h1]
theorem at_add (g n : Nat) : (⟨g, 0, none⟩ : Addr).add n = ⟨g, n, none⟩ := by
  unfold Addr.add
  split <;> simp_all
theorem fillW_len {place : Nat → Option (Nat × Nat)} : ∀ {parts : List (Nat × SW)} {cs cs' : List SC}, fillW place cs parts = some cs' → cs'.length = cs.length
  | [], cs, cs', h => by simp [fillW] at h; subst h; rfl
  | (i, x) :: r, cs, cs', h => by
    unfold fillW at h
    split at h
    · cases h
    · split at h
      · rw [fillW_len h, putAt_length]
      · cases h
variable (hT : TabOK P T) (hg : GlOK ν gl) (hk : Kn.ok ρ kn) (hf : FrOK ρ ν fr a) (hh : HpOK ρ ν hp w)
include hT hg hk hf
theorem buildSl_ok {t : TypeId} {len : Nat} {parts : Array (Nat × Operand)} (ho : o.op = .buildSlice t len parts) : ERok P ρ ν w hp a nv o (buildSlOp T gl kn fr hp t len parts) := by
  have opk : ∀ {x v}, opd gl kn fr x = some v → a.eval x = v.den ρ ν := fun hx => opd_ok hg hk hf hx
  unfold buildSlOp
  split
  case h_2 => trivial
  rename_i ti hti
  split
  case h_2 => trivial
  rename_i e he
  split
  case h_2 => trivial
  rename_i te ps hte hps
  split
  case isFalse => trivial
  rename_i hcond
  simp only [Bool.and_eq_true, decide_eq_true_eq] at hcond
  split
  case h_2 => trivial
  rename_i cs hfill
  intro hν _
  obtain ⟨d, hd, hc, -⟩ := (hT.ty hti).und
  rw [he] at hc
  cases d <;> simp [tdChk] at hc
  subst hc
  obtain ⟨i, z, hi, hs, hz, hzc, hza, hzl, -⟩ := (hT.ty hte).info
  have hzd := scsChk_ok (ρ := ρ) (ν := ν) hzc
  have hlen : cs.length = len * te.size := by rw [fillW_len hfill]; simp [zs]
  refine ⟨(cs.map (·.den ρ ν)).toArray, has_cells e cs _ rfl rfl rfl (fun e0 n he0 => ?_), rfl, ?_⟩
  · simp only [Option.some.injEq, Prod.mk.injEq] at he0
    obtain ⟨rfl, rfl⟩ := he0
    simp only [IE.den, Int.toNat_natCast]
    exact ⟨Int.natCast_nonneg _, hlen⟩
  have hparts : (parts.map fun (p : Nat × Operand) => (p.1, a.eval p.2)).toList = ps.map fun p => (p.1, p.2.den ρ ν) := by
    clear hfill ho
    rw [Array.toList_map]
    generalize parts.toList = l at *
    induction l generalizing ps with
    | nil => simp [wOf] at hps; subst hps; rfl
    | cons p l ih =>
      simp only [List.map_cons] at hps
      unfold wOf at hps
      split at hps
      · rename_i h0; cases h0
      · rename_i i0 x0 r0 h0
        simp only [List.cons.injEq, Prod.mk.injEq] at h0
        obtain ⟨⟨rfl, hx⟩, rfl⟩ := h0
        simp only [Option.map_eq_some_iff] at hps
        obtain ⟨q, hq, rfl⟩ := hps
        simp only [List.map_cons, ih _ hq, opk hx, SV.den]
      · cases hps
  have hf := fillW_ok (ρ := ρ) (ν := ν) (place := fun i => some (i * te.size, te.size)) (place' := fun i => some (i * te.size, te.size)) (fun k p hk => hk) hfill
  have hrun : (Instr.buildSlice t len (parts.map fun (p : Nat × Operand) => (p.1, a.eval p.2))).run P w = .ok (.slice (some ⟨w.heap.size, 0, none⟩) len len) (w.alloc (.cells (cs.map (·.den ρ ν)).toArray e)) := by
    by_cases h0 : len * te.size = 0
    · have hz0 : zs len te.size te.zero = [] := by simp [zs, h0]
      rw [hz0] at hf
      have hf' : Instr.fill (fun i => some (i * te.size, te.size)) #[] (parts.map fun (p : Nat × Operand) => (p.1, a.eval p.2)).toList = some (cs.map (·.den ρ ν)).toArray := by rw [hparts]; exact hf
      have hl0 : len = 0 := (Nat.mul_eq_zero.1 h0).resolve_right (by omega)
      subst hl0
      rw [Array.toList_map] at hf'
      have e0 : (Array.map (fun (_ : Nat) => (default : Value)) (Array.range 0)) = #[] := by apply Array.ext'; simp
      simp [Instr.buildSlice, run_underlying hd, (hT.ty hte).size, e0, hf', newRow]
    · exact run_buildSlice (P := P) w t e len (parts.map fun (p : Nat × Operand) => (p.1, a.eval p.2)) (cs.map (·.den ρ ν)).toArray i z hd hi hz (by rw [hs]; omega) (by rw [hs]; exact h0) (by
        rw [hs, hparts, zs_den (ρ := ρ) (ν := ν) len te.size te.zero z.cells hzd hzl hcond.2]
        exact hf)
  unfold execOp
  simp only [ho, Sem.run_bind]
  rw [hrun]
  simp [SV.den, SW.den, SC.den, SA.den, SA.off, IE.den, hν, Addr.add_zero]
include hh
theorem store_ok {t : TypeId} {ax x : Operand} (ho : o.op = .store t ax x) : ERok P ρ ν w hp a nv o (storeOp T gl kn fr hp t ax x) := by
  have opk : ∀ {x v}, opd gl kn fr x = some v → a.eval x = v.den ρ ν := fun hx => opd_ok hg hk hf hx
  unfold storeOp
  split
  case h_2 => trivial
  rename_i sa y ti ha hx hti
  split
  case h_2 => trivial
  rename_i sb0 hsb0
  split
  · trivial
  rename_i hgone
  simp only [Bool.or_eq_true, not_or, Bool.not_eq_true, Bool.not_eq_true', Bool.not_eq_false] at hgone
  obtain ⟨⟨hgone', hro⟩, hown⟩ := hgone
  split
  case isFalse => trivial
  rename_i hlen
  split
  case h_2 => trivial
  rename_i sb' os' hst
  intro hos
  have hd : sb0.dead ρ = false := SB.live_of hgone' fun c hm => hos c (List.mem_append_left _ hm)
  obtain ⟨hz, arr, harr, hhas⟩ := hh.blk _ _ hsb0 hd hro
  obtain ⟨arr', w', h1, h2, h3, h4, h5⟩ := stCells_ok (P := P) harr hhas hst (fun c hm => hos c (List.mem_append_right _ hm))
  have e1 : a.eval ax = .pointer (some ⟨(ν sa.blk).block, sa.off ρ, none⟩) := by
    rw [opk ha]
    simp only [SV.den, SW.den, SC.den, SA.den]
    rw [hz, at_add]
  have e2 : a.eval x = y.den ρ ν := opk hx
  refine ⟨w', sb0, hsb0, by simpa using hown, hd, ?_, h3, hh.set hsb0 hd hro h3 (by rw [h5.1]; exact h2) h4 (h5.2.1.trans hro)⟩
  have e3 : (y.den ρ ν).cells.toList = y.cells.map (·.den ρ ν) := by rw [SW.cells_den]
  have e4 : (y.den ρ ν).cells.size = ti.size := by rw [SW.cells_den]; simpa using hlen
  unfold execOp
  simp [ho, Instr.storeAt, e1, e2, Instr.sureAddr, storeVar, (hT.ty hti).size, e4, e3, h1]
omit hh in
omit hT in
theorem call_ok {fo : Operand} {argos : Array Operand} {tys : Array TypeId} (ho : o.op = .call { callee := .value fo, args := argos, argTypes := tys }) : ERok P ρ ν w hp a nv o (callOp gl kn fr fo argos) := by
  have opk : ∀ {x v}, opd gl kn fr x = some v → a.eval x = v.den ρ ν := fun hx => opd_ok hg hk hf hx
  unfold callOp
  split
  case h_2 => trivial
  rename_i g caps as hfo has
  intro fn hfn hb hn
  have e1 : a.eval fo = .func (.func g) #[] (caps.map fun b => Value.pointer (some (ν b))).toArray := opk hfo
  have e2 : argos.map a.eval = (as.map (·.den ρ ν)).toArray := by
    apply Array.ext'
    rw [Array.toList_map]
    generalize argos.toList = l at *
    clear ho
    induction l generalizing as with
    | nil => simp [swList] at has; subst has; rfl
    | cons p l ih =>
      simp only [List.map_cons] at has
      unfold swList at has
      split at has
      · rename_i h0; cases h0
      · rename_i x0 r0 h0
        simp only [List.cons.injEq] at h0
        obtain ⟨hx, rfl⟩ := h0
        simp only [Option.map_eq_some_iff] at has
        obtain ⟨q, hq, rfl⟩ := has
        have := ih _ hq
        simp only [List.map_cons, this, opk hx, SV.den]
      · cases has
  have e3 : (caps.map fun b => Value.pointer (some (ν b))) = (caps.map fun b => (SW.one (.ptr { blk := b })).den ρ ν) := by
    apply List.map_congr_left
    intro b _
    simp [SW.den, SC.den, SA.den, SA.off, IE.den, Addr.add_zero]
  unfold execOp
  simp only [ho, resolve, Deferred.ofValue, e1, e2, Sem.run_bind, Sem.run_pure, Result.andThen_ok, invoke, callFunc, run_program, hfn, hn, e3]
  have hb' : fn.body.isNone = false := by cases hq : fn.body <;> simp_all
  simp [hb', List.map_map, Function.comp]
theorem app_exec {s x : Operand} {t : TypeId} {args : Array Operand} {tys : Array TypeId} (ho : o.op = .call { callee := .builtin .append, args := args, argTypes := tys }) (h1 : args.toList = [s, x]) (h2 : tys.toList = [t, t]) {v0 v1 vr : Value} {w' : World}
    (hs : a.eval s = v0) (hx : a.eval x = v1) (hr : (Builtin.append_ #[t, t] o.type #[v0, v1]).run P w = .ok vr w') : (execOp a.eval o).run P w = .ok (.value vr) w' := by
  have _ := hT; have _ := hg; have _ := hk; have _ := hf; have _ := hh
  unfold execOp
  simp only [ho]
  have e1 : args = #[s, x] := by rw [← h1]
  have e2 : tys = #[t, t] := by rw [← h2]
  subst e1 e2
  simp [resolve, invoke, builtin, hx, hs, hr]
theorem appLit_ok {e t : TypeId} {te : TI} (ht : P.underlying t = some (.slice e)) (hte : TyOK P e te) {dst : SV} {ax : SA} {m cx : Nat} {b : Option Nat} {v : SV} {sb : SB} {k : Nat} {fs : List QF} {os : List BE}
    (h : appLit te e kn nv hp dst ax m = .app b v sb k fs os) (hos : ∀ c ∈ os, c.den ρ = true) {ty : TypeId} :
    ∃ vr w', (Builtin.append_ #[t, t] ty #[dst.den ρ ν, .slice (some (ax.den ρ ν)) m cx]).run P w = .ok vr w' ∧ AppOK ρ ν w hp nv b v sb fs vr w' := by
  have _ := hT; have _ := hg; have _ := hf
  unfold appLit at h
  split at h
  case h_2 => cases h
  rename_i sbx hsbx
  split at h
  · cases h
  rename_i hgone
  split at h
  case h_2 => cases h
  case h_3 => cases h
  rename_i news os' hld
  split at h
  case h_2 => cases h
  rename_i b' v' sb' k' fs' os2 happ
  cases h
  have hd : sbx.dead ρ = false := SB.live_of (by simpa using hgone) fun c hm => hos c (List.mem_append_right _ (List.mem_append_left _ hm))
  obtain ⟨arr, hhas, harr⟩ := hh.cells hsbx hd
  obtain ⟨hlen, hcells⟩ := ldCells_ok hk hhas hld (fun c hm => hos c (List.mem_append_left _ hm))
  refine appTo_ok hh ht hte happ (fun c hm => hos c (List.mem_append_right _ (List.mem_append_right _ hm))) _ _ fun j c hc => ?_
  have := hcells j c hc
  unfold SA.den
  rw [Addr.add_add]
  exact harr _ _ (by simpa using this)
theorem appLit_no {e : TypeId} {te : TI} {dst : SV} {ax : SA} {m : Nat} : (∀ b v sb k fs os, appLit te e kn nv hp dst ax m ≠ .app b v sb k fs os) → ERok P ρ ν w hp a nv o (appLit te e kn nv hp dst ax m) := by
  have _ := hT; have _ := hg; have _ := hk; have _ := hf; have _ := hh
  intro hne
  unfold appLit at hne ⊢
  split
  case h_2 => trivial
  rename_i sbx hsbx
  rw [hsbx] at hne
  simp only at hne
  split
  · trivial
  rename_i hg'
  rw [if_neg hg'] at hne
  split
  · rename_i news os hld
    rw [hld] at hne
    simp only at hne
    split
    · rename_i b v sb k fs os' happ
      rw [happ] at hne
      exact absurd rfl (hne b v sb k fs (os ++ (sbx.nlOb ++ os')))
    · trivial
  · trivial
  · trivial
theorem appSl_ok {s x : Operand} {e t : TypeId} {te : TI} {args : Array Operand} {tys : Array TypeId} (ho : o.op = .call { callee := .builtin .append, args := args, argTypes := tys }) (h1 : args.toList = [s, x]) (h2 : tys.toList = [t, t])
    (ht : P.underlying t = some (.slice e)) (hte : TyOK P e te) {dst : SV} (hs : a.eval s = dst.den ρ ν) {c : BE} {ax : SA} {n : IE} {os0 : List BE} {src : Option Addr} {cx : Nat} (hx : a.eval x = .slice src (n.den ρ).toNat cx)
    (hsrc : c.den ρ = false → src = some (ax.den ρ ν)) (hnil : (∀ c ∈ os0, c.den ρ = true) → c.den ρ = true → src = none ∧ n.den ρ = 0) (hns : src = none → c.den ρ = true) : ERok P ρ ν w hp a nv o (appSl te e nv hp dst c ax n os0) := by
  unfold appSl
  split
  case h_2 => trivial
  rename_i cv os' hsrcOf
  cases hap : appBulk te e nv hp dst n cv (os0 ++ os') with
  | app b v sb k fs os =>
    intro hos
    -- what must hold is among the obligations: first those of the slice
    have hsub : ∀ z ∈ os0 ++ os', z.den ρ = true := by
      unfold appBulk at hap
      split at hap
      · cases hap
      split at hap
      · cases hap
      split at hap
      · cases hap
      cases hap
      exact fun z hm => hos z (List.mem_cons_of_mem _ (List.mem_append_right _ hm))
    have hn0 : src = none → n.den ρ = 0 := fun h => (hnil (fun z hm => hsub z (List.mem_append_left _ hm)) (hns h)).2
    obtain ⟨-, vr, w', hr, hA⟩ := appBulk_ok hh ht hte hap hos src cx (ty := o.type) hn0 (fun hos2 hzl => by
      obtain ⟨q1, q2⟩ := src_ok (ν := ν) hh hzl hsrcOf (fun z hm => hos2 z (List.mem_append_right _ hm))
      refine ⟨q1, ?_⟩
      cases hc : c.den ρ with
      | false =>
        obtain ⟨news, r1, r2, r3⟩ := q2 hc
        refine ⟨news, r1, fun A hA j u hj => ?_, r3⟩
        rw [hsrc hc] at hA
        cases hA
        exact r2 j u hj
      | true =>
        obtain ⟨e1, e2⟩ := hnil (fun z hm => hos2 z (List.mem_append_left _ hm)) hc
        refine ⟨[], ⟨by rw [e2]; simp, fun i j hi => (by rw [e2] at hi; simp at hi)⟩, fun A hA => (by rw [e1] at hA; cases hA), fun u hu => (by cases hu)⟩)
    exact ⟨vr, w', app_exec hT hg hk hf hh ho h1 h2 hs hx hr, hA⟩
  | val => unfold appBulk at hap; (split at hap; cases hap); (split at hap; cases hap); (split at hap <;> cases hap)
  | new => unfold appBulk at hap; (split at hap; cases hap); (split at hap; cases hap); (split at hap <;> cases hap)
  | st => unfold appBulk at hap; (split at hap; cases hap); (split at hap; cases hap); (split at hap <;> cases hap)
  | call => unfold appBulk at hap; (split at hap; cases hap); (split at hap; cases hap); (split at hap <;> cases hap)
  | br => trivial
  | no => trivial
theorem app_ok {args : Array Operand} {tys : Array TypeId} {s x : Operand} {t : TypeId} (ho : o.op = .call { callee := .builtin .append, args := args, argTypes := tys }) (h1 : args.toList = [s, x]) (h2 : tys.toList = [t, t]) :
    ERok P ρ ν w hp a nv o (appOp T gl nv kn fr hp t s x) := by
  have opk : ∀ {x v}, opd gl kn fr x = some v → a.eval x = v.den ρ ν := fun hx => opd_ok hg hk hf hx
  unfold appOp
  split
  case h_2 => trivial
  rename_i ti hti
  split
  case h_2 => trivial
  rename_i e he
  obtain ⟨d, hd, hc, -⟩ := (hT.ty hti).und
  rw [he] at hc
  cases d <;> simp [tdChk] at hc
  subst hc
  split
  case h_2 => trivial
  rename_i te dst hte hs
  have hte' := hT.ty hte
  split
  · rename_i ax n cx hx
    have hx' : a.eval x = .slice (some (ax.den ρ ν)) (n.den ρ).toNat (cx.den ρ).toNat := opk hx
    have bulk : ERok P ρ ν w hp a nv o (appSl te e nv hp dst (.lit false) ax n []) :=
      appSl_ok hT hg hk hf hh ho h1 h2 hd hte' (opk hs) hx' (fun _ => rfl) (fun _ h => by cases h) (fun h => by cases h)
    split
    · rename_i m hm
      simp only
      split
      · exact bulk
      · cases hl : appLit te e kn nv hp dst ax m.toNat with
        | app b v sb k fs os =>
          intro hos
          have hm' : (n.den ρ).toNat = m.toNat := by rw [IE.lit?_ok hm]
          obtain ⟨vr, w', hr, hA⟩ := appLit_ok hT hg hk hf hh hd hte' hl hos (cx := (cx.den ρ).toNat) (ty := o.type)
          rw [hm'] at hx'
          exact ⟨vr, w', app_exec hT hg hk hf hh ho h1 h2 (opk hs) hx' hr, hA⟩
        | _ =>
          have := appLit_no (P := P) (w := w) (a := a) (nv := nv) (o := o) hT hg hk hf hh (te := te) (e := e) (dst := dst) (ax := ax) (m := m.toNat) (by rw [hl]; intro b v sb k fs os h; cases h)
          rw [hl] at this
          exact this
    · exact bulk
  · rename_i c ax n cx hx
    have hx0 : a.eval x = SC.den ρ ν (.sln c ax n cx) := opk hx
    cases hc : c.den ρ with
    | true =>
      have hx' : a.eval x = .slice none 0 0 := by rw [hx0]; simp [SC.den, hc]
      cases hn : (n.den ρ).toNat with
      | zero =>
        exact appSl_ok hT hg hk hf hh ho h1 h2 hd hte' (opk hs) (src := none) (cx := 0) (by rw [hx', hn]) (fun h => by rw [hc] at h; cases h) (fun hz _ => ⟨rfl, nilOb_ok (hz _ (List.mem_singleton.2 rfl)) hc⟩) (fun _ => hc)
      | succ q =>
        -- not so: a nil slice is empty
        unfold appSl
        split
        case h_2 => trivial
        rename_i cv os' hsrcOf
        cases hap : appBulk te e nv hp dst n cv ([nilOb c n] ++ os') with
        | app b v sb k fs os =>
          intro hos
          exfalso
          unfold appBulk at hap
          split at hap
          · cases hap
          split at hap
          · cases hap
          split at hap
          · cases hap
          cases hap
          have := nilOb_ok (hos (nilOb c n) (by simp)) hc
          rw [this] at hn
          cases hn
        | val => unfold appBulk at hap; (split at hap; cases hap); (split at hap; cases hap); (split at hap <;> cases hap)
        | new => unfold appBulk at hap; (split at hap; cases hap); (split at hap; cases hap); (split at hap <;> cases hap)
        | st => unfold appBulk at hap; (split at hap; cases hap); (split at hap; cases hap); (split at hap <;> cases hap)
        | call => unfold appBulk at hap; (split at hap; cases hap); (split at hap; cases hap); (split at hap <;> cases hap)
        | br => trivial
        | no => trivial
    | false =>
      have hx' : a.eval x = .slice (some (ax.den ρ ν)) (n.den ρ).toNat (cx.den ρ).toNat := by rw [hx0]; simp [SC.den, hc]
      exact appSl_ok hT hg hk hf hh ho h1 h2 hd hte' (opk hs) hx' (fun _ => rfl) (fun _ h => by rw [hc] at h; cases h) (fun h => by cases h)
  · trivial
theorem effOp_ok : ERok P ρ ν w hp a nv o (effOp T gl nv kn fr hp o) := by
  have opk : ∀ {x v}, opd gl kn fr x = some v → a.eval x = v.den ρ ν := fun hx => opd_ok hg hk hf hx
  unfold effOp
  split
  · rename_i t ho
    split
    · rename_i ti hti
      intro hν _
      obtain ⟨z, hz, hc, -⟩ := (hT.ty hti).zeroV (w := w) ρ ν
      have hzc : z.cells = (ti.zero.map (·.den ρ ν)).toArray := by rw [← hc]
      refine ⟨z.cells, by rw [hzc]; exact has_cells t ti.zero _ rfl rfl rfl (fun e n h => by cases h), rfl, ?_⟩
      unfold execOp
      simp [ho, Instr.alloc, hz, newVar, newRow, SV.den, SW.den, SC.den, SA.den, SA.off, IE.den, hν, Addr.add_zero]
    · trivial
  · rename_i t x ho
    split
    · rename_i y hy
      intro hν _
      refine ⟨(y.den ρ ν).cells, by rw [SW.cells_den]; exact has_cells t y.cells _ rfl rfl rfl (fun e n h => by cases h), rfl, ?_⟩
      have := opk hy
      unfold execOp
      simp [ho, Instr.box, this, newVar, newRow, SV.den, SW.den, SC.den, SA.den, SA.off, IE.den, hν, Addr.add_zero]
    · trivial
  · rename_i t len parts ho
    exact buildSl_ok hT hg hk hf ho
  · rename_i t ax x ho
    exact store_ok hT hg hk hf hh ho
  · rename_i args argTypes ho
    split
    · rename_i s x t t' hargs hty
      split
      · rename_i htt
        simp only [beq_iff_eq] at htt
        subst htt
        exact app_ok hT hg hk hf hh ho hargs hty
      · trivial
    · trivial
  · rename_i fo argos tys ho
    exact call_ok hg hk hf ho
  · split
    · rename_i v os hp'
      intro hos
      exact pureOp_ok hT hg hk hf hh hp' hos
    · trivial
    · trivial
end
end Go.Rex
