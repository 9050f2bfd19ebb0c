/- errors.Join: several errors at once -/
import Derived.Test.YtkpbbhcdmkmnfaaDoorWStrange
set_option linter.unusedSimpArgs false
set_option linter.unusedVariables false
namespace Go.Proofs.YtkpbbhcdmkmnfaaDoor
open Go.RowKit Go.Extern.Stop Go.Stop Go.Extern Go.Rex
theorem noIsJ (v : Value) (xT : TypeId) (w : World) : (Instr.typeAssert (.iface 70 v) xT 76 true).run Tryd.prog w = .ok (.tuple #[.nilIface, .bool false]) w := run_typeAssert_lacksB Tryd.underlying76 (by kernel_rfl) (by kernel_rfl) v xT w
theorem noUnJ (v : Value) (xT : TypeId) (w : World) : (Instr.typeAssert (.iface 70 v) xT 79 true).run Tryd.prog w = .ok (.tuple #[.nilIface, .bool false]) w := run_typeAssert_lacksB Tryd.underlying79 (by kernel_rfl) (by kernel_rfl) v xT w
theorem hasUnJ (v : Value) (xT : TypeId) (w : World) : (Instr.typeAssert (.iface 70 v) xT 80 true).run Tryd.prog w = .ok (.tuple #[.iface 70 v, .bool true]) w := run_typeAssert_hasB Tryd.underlying80 (by kernel_rfl) v xT w
theorem methodUnwrapJ (v : Value) (w : World) : (Go.method 216 70 v "Unwrap").run Tryd.prog w = .ok (58, v) w := by kernel_rfl
/-- two errors joined, in memory -/
def IsJ (w : World) (v1 v2 v : Value) : Prop := ∃ (b g c : Nat), v = .iface 70 (.pointer (some ⟨b, 0, none⟩)) ∧ w.cell? ⟨b, 0, none⟩ = some (.slice (some ⟨g, 0, none⟩) 2 c) ∧ w.cell? ⟨g, 0, none⟩ = some v1 ∧ w.cell? ⟨g, 1, none⟩ = some v2
theorem IsJ.nw {w w' : World} {v1 v2 v : Value} (h : IsJ w v1 v2 v) (hn : Nw w w') : IsJ w' v1 v2 v := by
  obtain ⟨b, g, c, h1, h2, h3, h4⟩ := h
  exact ⟨b, g, c, h1, hn.cell h2, hn.cell h3, hn.cell h4⟩
/-- what errors.is answers of a value, in this world and those behind it -/
def Is27 (w : World) (L : Addr → Bool) (v : Value) : Prop := ∀ w', Nw w w' → ∀ t, IsSen w' t → Calls Tryd.prog 27 #[v, .iface 56 (.pointer (some t)), .bool true] w' fun e w'' => e = .returned (.bool (L t)) ∧ w'' = w'
theorem Is27.nw {w w' : World} {L : Addr → Bool} {v : Value} (h : Is27 w L v) (hn : Nw w w') : Is27 w' L v := fun w'' h' => h w'' (hn.trans h')
theorem is27_ch (ps : List Int) (v : Value) (x : Addr) (w0 : World) (hv0 : IsCh w0 (.iface 56 (.pointer (some x))) ps v) (hx0 : IsSen w0 x) : Is27 w0 (fun t => decide (x = t)) v := by
  intro w hnw t ht
  have hv := hnw.ch hv0
  have hx := hnw.sen hx0
  clear hnw hv0 hx0
  obtain ⟨i, hi, hcmp⟩ := Option.map_eq_some_iff.1 isComp
  obtain ⟨j, hj, hjs⟩ := Option.map_eq_some_iff.1 isSize
  have nW := noIsW
  have uW := hasUnwrapW
  have mU := methodUnwrap
  have nS := noIsS
  have uS := noUnS
  have usS := noUnsS
  have hsame := run_eql_iface_ptr_same (P := Tryd.prog) w t Tryd.underlying25 Tryd.underlying56 hi hcmp hj
  have hty : ∀ a : Addr, (binOp .eql 25 (.iface 41 (.pointer (some a))) (.iface 56 (.pointer (some t)))).run Tryd.prog w = .ok (.bool false) w := fun a => run_eql_iface_types (P := Tryd.prog) 41 56 (.pointer (some a)) (.pointer (some t)) Tryd.underlying25 (by decide) w
  have hoth : x ≠ t → (binOp .eql 25 (.iface 56 (.pointer (some x))) (.iface 56 (.pointer (some t)))).run Tryd.prog w = .ok (.bool false) w := fun hne => by
    obtain ⟨cx, tx, h1⟩ := hx
    obtain ⟨ct, tt, h2⟩ := ht
    exact run_eql_iface_ptr_other (P := Tryd.prog) w Tryd.underlying25 Tryd.underlying56 hi hcmp hj (by rw [hjs]; decide) hne h1 h2
  obtain ⟨T, y, rfl⟩ := hv.if
  clear hx ht
  go_enter Tryd.func27, Tryd.ntmps27
  go_wp2
  go_loopg [0] ps.length (fun k v wr => w = wr ∧ ∃ qs, qs.length = k ∧ IsCh w (.iface 56 (.pointer (some x))) qs v)
  case atStart => exact ⟨rfl, ps, rfl, hv⟩
  case round =>
    obtain ⟨rfl, qs, hk, hq⟩ := hrel
    clear hv
    cases qs with
    | nil =>
      have hq : _ = _ := hq
      subst hq
      by_cases hxt : x = t
      · subst hxt
        go_wp2
        go_ret
        simp
      · have ho := hoth hxt
        go_wp2
        go_ret
        simp [hxt]
    | cons n qs =>
      obtain ⟨b, u, rfl, h1, h2, h3⟩ := hq
      obtain ⟨T, y, rfl⟩ := h3.if
      clear hoth hsame
      have A : Aside ((n :: qs).length = gk ∧ IsCh w (.iface 56 (.pointer (some x))) qs (.iface T y)) := ⟨hk, h3⟩
      clear hk h3
      go_wp2
      obtain ⟨hk, h3⟩ := A.out
      go_roundg qs.length
      case measure => simp at hk; omega
      case rel => exact ⟨rfl, qs, rfl, h3⟩
theorem is27_chj (ps : List Int) (v v1 v2 base : Value) (w0 : World) (L1 L2 : Addr → Bool) (hv0 : IsCh w0 base ps v) (hb0 : IsJ w0 v1 v2 base) (h10 : Is27 w0 L1 v1) (h20 : Is27 w0 L2 v2) : Is27 w0 (fun t => L1 t || L2 t) v := by
  intro w hnw t ht
  have hv := hnw.ch hv0
  have hb := hb0.nw hnw
  have h1 := h10 w hnw t ht
  have h2 := h20 w hnw t ht
  clear hnw hv0 hb0 h10 h20 ht
  have nW := noIsW
  have uW := hasUnwrapW
  have mU := methodUnwrap
  have nS := noIsJ
  have uS := noUnJ
  have usS := hasUnJ
  have mJ := methodUnwrapJ
  have hty : ∀ a : Addr, (binOp .eql 25 (.iface 41 (.pointer (some a))) (.iface 56 (.pointer (some t)))).run Tryd.prog w = .ok (.bool false) w := fun a => run_eql_iface_types (P := Tryd.prog) 41 56 (.pointer (some a)) (.pointer (some t)) Tryd.underlying25 (by decide) w
  have hty2 : ∀ a : Addr, (binOp .eql 25 (.iface 70 (.pointer (some a))) (.iface 56 (.pointer (some t)))).run Tryd.prog w = .ok (.bool false) w := fun a => run_eql_iface_types (P := Tryd.prog) 70 56 (.pointer (some a)) (.pointer (some t)) Tryd.underlying25 (by decide) w
  obtain ⟨b, g, c, rfl, hb1, hb2, hb3⟩ := hb
  change Calls Tryd.prog 27 _ _ (fun e w'' => e = .returned (.bool (L1 t || L2 t)) ∧ w'' = w)
  generalize L1 t = l1 at *
  generalize L2 t = l2 at *
  obtain ⟨T0, y0, rfl⟩ := hv.if
  go_enter Tryd.func27, Tryd.ntmps27
  go_wp2
  go_loopg [0] ps.length (fun k v wr => w = wr ∧ ∃ qs, qs.length = k ∧ IsCh w (.iface 70 (.pointer (some ⟨b, 0, none⟩))) qs v)
  case atStart => exact ⟨rfl, ps, rfl, hv⟩
  case round =>
    obtain ⟨rfl, qs, hk, hq⟩ := hrel
    clear hv
    cases qs with
    | nil =>
      have hq : _ = _ := hq
      subst hq
      have hk' : Aside ([].length = gk) := hk
      clear hk
      cases l1
      · go_wp2
        refine wp_loop_rounds 3 ?_
        rw [rounds_succ]
        go_wp2_with (go_at_call 27; (with_reducible refine h1.mono ?_); rintro ev w' ⟨rfl, rfl⟩)
        rw [rounds_succ]
        cases l2
        · go_wp2_with (go_at_call 27; (with_reducible refine h2.mono ?_); rintro ev w' ⟨rfl, rfl⟩)
          rw [rounds_succ]
          go_wp2
          go_ret
          simp
        · go_wp2_with (go_at_call 27; (with_reducible refine h2.mono ?_); rintro ev w' ⟨rfl, rfl⟩)
          go_ret
          simp
      · go_wp2
        refine wp_loop_rounds 1 ?_
        rw [rounds_succ]
        go_wp2_with (go_at_call 27; (with_reducible refine h1.mono ?_); rintro ev w' ⟨rfl, rfl⟩)
        go_ret
        simp
    | cons n qs =>
      obtain ⟨b', u, rfl, h1', h2', h3⟩ := hq
      obtain ⟨T, y, rfl⟩ := h3.if
      have A : Aside ((n :: qs).length = gk ∧ IsCh w (.iface 70 (.pointer (some ⟨b, 0, none⟩))) qs (.iface T y)) := ⟨hk, h3⟩
      clear hk h3
      go_wp2
      obtain ⟨hk, h3⟩ := A.out
      go_roundg qs.length
      case measure => simp at hk; omega
      case rel => exact ⟨rfl, qs, rfl, h3⟩
end Go.Proofs.YtkpbbhcdmkmnfaaDoor
