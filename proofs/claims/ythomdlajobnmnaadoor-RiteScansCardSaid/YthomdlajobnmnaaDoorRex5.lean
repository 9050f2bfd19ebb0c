/- Rex, part 5: operations that leave memory as it is. -/
import Derived.Test.YthomdlajobnmnaaDoorRex4
set_option linter.unusedSimpArgs false
set_option linter.unusedVariables false
namespace Go.Rex

inductive PR where
 | ok (v : SV) (obs : List BE)
 | br (c : BE)
 | no
def PR.one (c : SC) (obs : List BE := []) : PR := .ok (.w (.one c)) obs
def svInt : SV → Option (IntKind × IE)
 | .w (.one (.int k e)) => some (k, e)
 | _ => none
def svBool : SV → Option BE
 | .w (.one (.bool b)) => some b
 | _ => none

/-! ### comparing -/
def BE.ieqS (a b : IE) : BE := match a.lit?, b.lit? with
 | some x, some y => .lit (x == y)
 | _, _ => if a.same b then .lit true else .ieq a b
theorem BE.ieqS_den (ρ : Env) (a b : IE) : (BE.ieqS a b).den ρ = (a.den ρ == b.den ρ) := by
 unfold BE.ieqS
 split
 ·rename_i h1 h2; simp [BE.den, IE.lit?_ok h1, IE.lit?_ok h2]
 ·split
  ·rename_i h; simp [BE.den, IE.same_eq h]
  ·rfl
def BE.beqS (a b : BE) : BE := match a.lit?, b.lit? with
 | some x, some y => .lit (x == y)
 | some true, none => b
 | none, some true => a
 | some false, none => b.notS
 | none, some false => a.notS
 | none, none => if a.same b then .lit true else .beq a b
theorem BE.beqS_den (ρ : Env) (a b : BE) : (BE.beqS a b).den ρ = (a.den ρ == b.den ρ) := by
 unfold BE.beqS
 split
 ·rename_i h1 h2; simp [BE.den, BE.lit?_ok h1, BE.lit?_ok h2]
 ·rename_i h1 h2; rw [BE.lit?_ok h1]; simp
 ·rename_i h1 h2; rw [BE.lit?_ok h2]; simp
 ·rename_i h1 h2; rw [BE.lit?_ok h1, BE.notS_den]; simp
 ·rename_i h1 h2; rw [BE.lit?_ok h2, BE.notS_den]; simp
 ·split
  ·rename_i h; simp [BE.den, BE.same_eq h]
  ·rfl
def partW (T : Tab) (t : TypeId) (cs : List SC) (off : Nat) : Option SW :=
 match T.ty t with
 | some ti => if ti.d.isAgg then some (.agg ((cs.drop off).take ti.size)) else (cs[off]?).map .one
 | none => none
mutual
def eqW (T : Tab) : Nat → TypeId → SW → SW → Option BE
 | 0, _, _, _ => none
 | n + 1, t, x, y =>
  match T.ty t with
  | none => none
  | some ti =>
   match ti.d, x, y with
   | .int _, .one (.int k a), .one (.int l b) => if kindEq k l then some (.ieqS a b) else none
   | .bool, .one (.bool a), .one (.bool b) => some (.beqS a b)
   | .str, .one (.str a), .one (.str b) => some (.lit (a == b))
   | .ptr _, .one .nilptr, .one .nilptr => some (.lit true)
   | .ptr _, .one .nilptr, .one (.ptr _) => some (.lit false)
   | .ptr _, .one (.ptr _), .one .nilptr => some (.lit false)
   | .sl _, .one .nilsl, .one .nilsl => some (.lit true)
   | .sl _, .one .nilsl, .one (.sl _ _ _) => some (.lit false)
   | .sl _, .one (.sl _ _ _), .one .nilsl => some (.lit false)
   | .sl _, .one .nilsl, .one (.sln c _ _ _) => some c
   | .sl _, .one (.sln c _ _ _), .one .nilsl => some c
   | .ifc, .one .nilif, .one .nilif => some (.lit true)
   | .ifc, .one .nilif, .one (.iface _ _) => some (.lit false)
   | .ifc, .one (.iface _ _), .one .nilif => some (.lit false)
   | .ifc, .one .nilif, .one (.ifn c (.iface _ _)) => some c
   | .ifc, .one (.ifn c (.iface _ _)), .one .nilif => some c
   | .ifc, .one (.iface t _), .one (.iface u _) => if t == u then none else some (.lit false)
   | .fn, .one .nilfn, .one .nilfn => some (.lit true)
   | .fn, .one .nilfn, .one (.fn _ _) => some (.lit false)
   | .fn, .one (.fn _ _), .one .nilfn => some (.lit false)
   | .struct fs, .agg xs, .agg ys => if ti.eqs then eqFs T n fs xs ys else none
   | .arr m e, .agg xs, .agg ys => match T.ty e with | some te => if Nat.ble m 32 then eqIs T n e te.size (List.range m) xs ys else none | none => none
   | _, _, _ => none
def eqIs (T : Tab) : Nat → TypeId → Nat → List Nat → List SC → List SC → Option BE
 | 0, _, _, _, _, _ => none
 | _, _, _, [], _, _ => some (.lit true)
 | n + 1, e, sz, i :: r, xs, ys =>
  match partW T e xs (i * sz), partW T e ys (i * sz) with
  | some a, some b =>
   match eqW T n e a b, eqIs T n e sz r xs ys with
   | some c, some d => some (c.andS d)
   | _, _ => none
  | _, _ => none
def eqFs (T : Tab) : Nat → List (Nat × TypeId) → List SC → List SC → Option BE
 | 0, _, _, _ => none
 | _, [], _, _ => some (.lit true)
 | n + 1, (off, t) :: r, xs, ys =>
  match partW T t xs off, partW T t ys off with
  | some a, some b =>
   match eqW T n t a b, eqFs T n r xs ys with
   | some c, some d => some (c.andS d)
   | _, _ => none
  | _, _ => none
end

section
variable {P : Program} {T : Tab} (hT : TabOK P T) {w : World} {ρ : Env} {ν : Nat → Addr}
theorem partW_ok {t : TypeId} {cs : List SC} {off : Nat} {x : SW} (hT : TabOK P T) (h : partW T t cs off = some x) :
  (part t (cs.map (·.den ρ ν)).toArray off).run P w = .ok (x.den ρ ν) w := by
 unfold partW at h
 split at h
 ·rename_i ti hti
  have hok := hT.ty hti
  unfold part
  simp only [Sem.run_bind, hok.isAgg, Result.andThen_ok]
  split at h
  ·rename_i ha
   simp only [Option.some.injEq] at h
   subst h
   simp only [ha, if_true, Sem.run_bind, hok.size, Result.andThen_ok, Sem.run_pure, SW.den]
   congr 2
   simp [← List.map_drop, ← List.map_take, Nat.add_sub_cancel_left]
  ·rename_i ha
   simp only [Option.map_eq_some_iff] at h
   obtain ⟨c, hc, rfl⟩ := h
   simp [ha, hc, SW.den]
 ·cases h
end

set_option maxHeartbeats 2000000 in
theorem eqW_ok {P : Program} {T : Tab} (hT : TabOK P T) {ρ : Env} {ν : Nat → Addr} {w : World} : ∀ n : Nat,
  (∀ t x y c, eqW T n t x y = some c → ∀ d, n ≤ d → (Op.equalIn d t (x.den ρ ν) (y.den ρ ν)).run P w = .ok (c.den ρ) w) ∧
  (∀ fs xs ys c, eqFs T n fs xs ys = some c → ∀ d, n ≤ d → ∀ gs : List Field, fs = gs.map (fun g => (g.offset, g.type)) → (∀ g ∈ gs, g.name ≠ "_") →
    (Op.eqFields d (xs.map (·.den ρ ν)).toArray (ys.map (·.den ρ ν)).toArray gs).run P w = .ok (c.den ρ) w) ∧
  (∀ e sz is xs ys c, eqIs T n e sz is xs ys = some c → ∀ d, n ≤ d → (Op.eqItems d e sz (xs.map (·.den ρ ν)).toArray (ys.map (·.den ρ ν)).toArray is).run P w = .ok (c.den ρ) w) := by
 intro n
 induction n with
 | zero => exact ⟨fun t x y c h => (by simp [eqW] at h), fun fs xs ys c h => (by simp [eqFs] at h), fun e sz is xs ys c h => (by simp [eqIs] at h)⟩
 | succ n ih =>
  refine ⟨fun t x y c h d hd => ?_, fun fs xs ys c h d hd gs hgs hn => ?_, fun e sz is xs ys c h d hd => ?_⟩
  ·obtain ⟨d, rfl⟩ : ∃ e, d = e + 1 := ⟨d - 1, by omega⟩
   unfold eqW at h
   split at h
   ·cases h
   ·rename_i ti hti
    obtain ⟨des, hdes, hchk, heq⟩ := (hT.ty hti).und
    split at h
    all_goals try cases h
    ·rename_i htd
     rw [htd] at hchk
     cases des <;> simp [tdChk] at hchk
     split at h
     ·rename_i hk
      simp at h; subst h
      rw [BE.ieqS_den, kindEq_eq hk]
      exact run_equalIn_int w d t _ _ _ _ hdes
     ·cases h
    ·rename_i htd
     rw [htd] at hchk
     cases des <;> simp [tdChk] at hchk
     rw [BE.beqS_den]
     exact run_equalIn_bool' w d t _ _ hdes
    ·rename_i htd
     rw [htd] at hchk
     cases des <;> simp [tdChk] at hchk
     simp only [SW.den, SC.den]
     rw [run_equalIn_string w d t _ _ hdes, ByteArray.toList_eq, ByteArray.toList_eq]
     simp [BE.den]
    all_goals first
     | (rename_i htd
        rw [htd] at hchk
        cases des <;> simp [tdChk] at hchk
        simp [Op.equalIn, run_underlying hdes, SW.den, SC.den, BE.den]
        done)
     | (rename_i htd
        rw [htd] at hchk
        cases des <;> simp [tdChk] at hchk
        cases hcc : c.den ρ <;> simp [Op.equalIn, run_underlying hdes, SW.den, SC.den, hcc]
        done)
     | skip
    ·rename_i htd
     rw [htd] at hchk
     cases des <;> simp [tdChk] at hchk
     split at h
     ·cases h
     ·rename_i hne
      simp at hne h
      subst h
      simp [Op.equalIn, run_underlying hdes, SW.den, SC.den, BE.den, hne]
    ·rename_i htd
     rw [htd] at hchk
     split at h
     ·rename_i he
      obtain ⟨h1, h2, hnm⟩ := heq he
      cases des <;> simp [tdChk] at hchk
      rename_i fs'
      replace hnm := hnm fs' rfl
      have hfo : P.underlying t = some (.struct (P.fieldsOf t)) := by simp [Program.fieldsOf, hdes]
      have hfo2 : P.fieldsOf t = fs' := by simp [Program.fieldsOf, hdes]
      simp only [SW.den]
      rw [run_equalIn_struct w d t _ _ hfo h1, hfo2]
      exact ih.2.1 _ _ _ _ h d (by omega) fs'.toList hchk hnm
     ·cases h
    ·rename_i htd
     rw [htd] at hchk
     split at h
     case h_2 => cases h
     rename_i te hte
     split at h
     case isFalse => cases h
     cases des <;> simp [tdChk] at hchk
     obtain ⟨rfl, rfl⟩ := hchk
     obtain ⟨i, z, hi, hsz, -⟩ := (hT.ty hte).info
     simp only [SW.den]
     rw [run_equalIn_array w d _ _ hdes hi, show P.cellsOf _ = te.size by unfold Program.cellsOf; rw [hi]; simpa using hsz]
     exact ih.2.2 _ _ _ _ _ _ h d (by omega)
  ·cases gs with
   | nil =>
    simp at hgs
    subst hgs
    simp [eqFs] at h
    subst h
    simp [Op.eqFields, BE.den]
   | cons g gs =>
    simp at hgs
    subst hgs
    simp only [eqFs] at h
    split at h
    ·rename_i a b ha hb
     split at h
     ·rename_i e f he hf
      simp at h
      subst h
      have h1 := ih.1 _ _ _ _ he d (by omega)
      have h2 := ih.2.1 _ _ _ _ hf d (by omega) gs rfl (fun x hx => hn x (by simp [hx]))
      have hpa := partW_ok (w := w) (ρ := ρ) (ν := ν) hT ha
      have hpb := partW_ok (w := w) (ρ := ρ) (ν := ν) hT hb
      simp only [Op.eqFields, hn g (by simp), ne_eq, not_false_eq_true, if_true, Sem.run_bind, hpa, hpb, Result.andThen_ok, h1, Sem.run_ite, Sem.run_pure, h2, BE.andS_den]
      cases e.den ρ <;> simp
     ·cases h
    ·cases h
  ·cases is with
   | nil =>
    simp [eqIs] at h
    subst h
    simp [Op.eqItems, BE.den]
   | cons i is =>
    simp only [eqIs] at h
    split at h
    ·rename_i a b ha hb
     split at h
     ·rename_i u f he hf
      simp at h
      subst h
      have h1 := ih.1 _ _ _ _ he d (by omega)
      have h2 := ih.2.2 _ _ _ _ _ _ hf d (by omega)
      have hpa := partW_ok (w := w) (ρ := ρ) (ν := ν) hT ha
      have hpb := partW_ok (w := w) (ρ := ρ) (ν := ν) hT hb
      simp only [Op.eqItems, Sem.run_bind, hpa, hpb, Result.andThen_ok, h1, Sem.run_ite, Sem.run_pure, h2, BE.andS_den]
      cases u.den ρ <;> simp
     ·cases h
    ·cases h

end Go.Rex
