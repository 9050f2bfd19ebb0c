/- 'BoardHears' answers true whatever the input, and the input reads behind the call as it read before, where the listed variable is as the program's text lays it. -/
import Derived.Test.YtlfhjmfelbomaaaDoorRows
import Derived.Test.YtlfhjmfelbomaaaDoorBHears
import Derived.ChangeSame
import Derived.ChangeVars
import Derived.JoinedOf
import Derived.RowKit
import Derived.RowKitTokens
import Derived.LaidLaws
import Derived.LaidHandle
import Derived.Stop.Joined
import Derived.Stop.LaidErr
import Derived.ProofKit
set_option linter.unusedSimpArgs false
set_option linter.unusedVariables false
namespace Go.Proofs.YtlfhjmfelbomaaaDoor
open Go.ChangeShapes Go.WideShapes Go.RowKit Go.Rex
theorem own : ownKnob Tryd.prog.godebug = none := by kernel_rfl
theorem laidOut : laidOutB Tryd.prog = true := by kernel_rfl
theorem gA : Tryd.prog.globalNamed "sexton/api.ErrArg" = some 1 := by kernel_rfl
theorem gAType : (Tryd.prog.globals[1]?).map (·.type) = some 27 := by kernel_rfl
theorem cells100 : Tryd.prog.cellsOf 100 = 1 := by kernel_rfl
theorem cells9 : Tryd.prog.cellsOf 9 = 1 := by kernel_rfl
theorem star : "*" ++ "errors.errorString" = "*errors.errorString" := by decide
theorem row75 (u : TypeId) (h : Tryd.prog.typeName? 3 u = some "*errors.errorString") : u = 75 :=
  typeName_ptr_named (nm := "errors.errorString") (by rw [star]; kernel_rfl) (by kernel_rfl) (by decide) u (by rw [star]; exact h)
abbrev argS : ByteArray := { data := #[97, 110, 32, 97, 114, 103, 117, 109, 101, 110, 116, 32, 116, 104, 97, 116, 32, 99, 97, 110, 39, 116, 32, 98, 101] }
noncomputable def low : Nat := (World.holding Tryd.prog default ⟨#[], #[], []⟩).heap.size
noncomputable def laidWorld1 (os : Os) : World :=
  let w0 := World.holding Tryd.prog os ⟨#[.cells #[.string argS] 100], #[], []⟩
  { w0 with heap := w0.heap.modify 1 fun
      | .cells _ t frozen => .cells #[.iface 75 (.pointer (some ⟨low, 0, none⟩))] t frozen
      | o => o }
theorem laid_met1 (os : Os) (args : Array Value) : laidMet Tryd.prog Rows.boardHearsRow.laid ((laidWorld1 os).forCall (fun _ _ => 0) ⟨#[], args, []⟩).memory :=
  laidMet_of_run (ps := [.cell 1 0, .cell low 0]) 8 (by kernel_rfl) (by kernel_rfl) (by kernel_rfl)
theorem sent1 {W : World} (h : laidMet Tryd.prog Rows.boardHearsRow.laid W) : ∃ a, SentOK W ss1 [a] := by
  obtain ⟨a, s, h1, h2, -, -⟩ := laid_sentinel h gA gAType Tryd.underlying27 row75 Tryd.underlying75 Tryd.underlying100 rfl rfl Tryd.underlying9 cells100 cells9
  exact ⟨a, by simpa using World.var?_cell gA h1 0, ⟨_, h2⟩, trivial⟩
set_option maxRecDepth 100000 in
theorem hears_lifted (os : Os) (started : os.Started) (H : Type) (enc : TypeId × Value → H) :
    ReturnsInHanded {} Tryd.checked os 7 .any (fun w args => (Rows.boardHearsSpec.pre enc Tryd.prog Tryd.f7 [] false w args ∧ laidMetH Tryd.prog Rows.boardHearsRow.laid w) ∧ sizedMet enc Tryd.prog Tryd.f7 (OpenSpec.ofChange Rows.boardHearsSpec) false w args)
      (Rows.boardHearsSpec.post enc Tryd.prog Tryd.f7 false true false false) := by
  refine returnsInHanded_of_change_and (C := Tryd.checked) (X := fun w _ => laidMetH Tryd.prog Rows.boardHearsRow.laid w) (fun _ _ _ hh h => h.of_heap hh) own started (by kernel_rfl) Tryd.func7
    (ChangeSpec.witness_at (enc := enc) (C := Tryd.checked) (os := os) (X := fun w _ => laidMetH Tryd.prog Rows.boardHearsRow.laid w) false (laidWorld1 os) #[.agg #[.bool false, .int .i64 0, .int .i64 0], .agg #[.bool false, .int .i64 0, .int .i64 0]] 8 rfl (by kernel_rfl) (by kernel_rfl) (by kernel_rfl) (by kernel_rfl) (by kernel_rfl) (laidMetH_of_parts (laid_met1 os _) (by kernel_rfl))) ?_
  intro W base args ds gs before hval hW _ _ hL _
  obtain ⟨a, ha⟩ := sent1 hL
  exact law_goalG laidOut (fn := Tryd.f7) (s := Rows.boardHearsSpec) (sh := [shSpan, shSpan]) (tb := 4) (by kernel_rfl) (by kernel_rfl) rfl rfl Tryd.underlying4
    (fun H ds h => by
      match ds, h with
      | [_, _], _ => exact ⟨rfl, rfl, rfl⟩) ha hears_con hval hW
theorem hears_holds : Rows.BoardHearsSaid :=
  OpenClaim.holds_of_wide 7 Tryd.f7 rfl rfl rfl rfl rfl rfl rfl ⟨rfl, rfl, rfl, rfl, rfl⟩ rfl rfl rfl rfl rfl (by kernel_rfl) Tryd.func7 (by kernel_rfl)
    (of_decide_eq_true (by kernel_rfl)) (by unfold Func.isWrapper; first | (rw [if_pos (by decide +kernel)]; kernel_rfl) | (rw [if_neg (by decide +kernel)]; exact ⟨rfl, rfl⟩))
    (fun os started H enc _ => hears_lifted os started H enc)
end Go.Proofs.YtlfhjmfelbomaaaDoor
