/- woe.Place over chains -/
import Derived.Test.YtkpbbhcdmkmnfaaDoorWFind
set_option linter.unusedSimpArgs false
set_option linter.unusedVariables false
namespace Go.Proofs.YtkpbbhcdmkmnfaaDoor
open Go.RowKit Go.Extern.Stop Go.Stop Go.Extern Go.Rex
theorem place_miss (e : Addr) (w : World) (hg : Hnd w) : Calls Tryd.prog 11 #[.iface 56 (.pointer (some e))] w fun ev w' => ev = .returned (.tuple #[.int .i64 0, .bool false]) ∧ Nw w w' := by
  have hf := find_miss e w hg
  go_enter Tryd.func11, Tryd.ntmps11
  go_wp2_with (go_at_call 24; refine hf.mono ?_; rintro ev w' ⟨rfl, hw⟩)
  go_ret2
  exact ⟨rfl, hw⟩
theorem place_nil (w : World) : Calls Tryd.prog 11 #[.nilIface] w fun ev w' => ev = .returned (.tuple #[.int .i64 0, .bool false]) ∧ Nw w w' := by
  have hf := find_nil w
  go_enter Tryd.func11, Tryd.ntmps11
  go_wp2_with (go_at_call 24; refine hf.mono ?_; rintro ev w' ⟨rfl, hw⟩)
  go_ret2
  exact ⟨rfl, hw⟩
/-- woe.Place of a chain over a sentinel -/
theorem place_walk (ps : List Int) (v : Value) (x : Addr) (w : World) (hg : Hnd w) (hv : IsCh w (.iface 56 (.pointer (some x))) ps v) :
    Calls Tryd.prog 11 #[v] w fun ev w' => ev = .returned (.tuple #[.int .i64 (ps.headD 0), .bool (!ps.isEmpty)]) ∧ Nw w w' := by
  cases ps with
  | nil =>
    have hv : _ = _ := hv
    subst hv
    exact place_miss _ w hg
  | cons n ps =>
    obtain ⟨b, u, rfl, h1, h2, h3⟩ := hv
    exact place_hit _ n w hg h1
end Go.Proofs.YtkpbbhcdmkmnfaaDoor
