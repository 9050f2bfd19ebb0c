/- 'BoardOnce' answers true whatever the input, and the input reads behind the call as it read before; what its listed variables read is tied to the program's text. -/
import Derived.Test.YtlfhjmfelbomaaaDoorRows
import Derived.Test.YtlfhjmfelbomaaaDoorTie
import Derived.Test.YtlfhjmfelbomaaaDoorCards
import Derived.Test.YtlfhjmfelbomaaaDoorBOnce
import Derived.Test.YtlfhjmfelbomaaaDoorRexW
import Derived.ChangeSame
import Derived.ChangeVars
import Derived.JoinedOf
import Derived.RowKit
import Derived.RowKitTokens
import Derived.LaidLaws
import Derived.LaidHandle
import Derived.Stop.Joined
import Derived.Stop.LaidErr
import Derived.ProofKit
import Derived.SevenTiedAt
set_option linter.unusedSimpArgs false
set_option linter.unusedVariables false
namespace Go.Proofs.YtlfhjmfelbomaaaDoor
open Go Go.ChangeShapes Go.WideShapes Go.RowKit Go.Rex
theorem once_own : ownKnob Tryd.prog.godebug = none := by kernel_rfl
theorem once_laidOut : laidOutB Tryd.prog = true := by kernel_rfl
theorem once_cellsE : Tryd.prog.cellsOf 100 = 1 := by kernel_rfl
theorem once_cellsS : Tryd.prog.cellsOf 9 = 1 := by kernel_rfl
theorem once_star : "*" ++ "errors.errorString" = "*errors.errorString" := by decide
theorem once_row (u : TypeId) (h : Tryd.prog.typeName? 3 u = some "*errors.errorString") : u = 75 :=
  typeName_ptr_named (nm := "errors.errorString") (by rw [once_star]; kernel_rfl) (by kernel_rfl) (by decide) u (by rw [once_star]; exact h)
def slonce : Sents := [("sexton/api.ErrArg", 1, [97, 110, 32, 97, 114, 103, 117, 109, 101, 110, 116, 32, 116, 104, 97, 116, 32, 99, 97, 110, 39, 116, 32, 98, 101]), ("sexton/api.ErrNone", 0, [116, 104, 101, 114, 101, 32, 105, 115, 32, 110, 111, 110, 101])]
abbrev sonce0 : ByteArray := { data := #[97, 110, 32, 97, 114, 103, 117, 109, 101, 110, 116, 32, 116, 104, 97, 116, 32, 99, 97, 110, 39, 116, 32, 98, 101] }
abbrev sonce1 : ByteArray := { data := #[116, 104, 101, 114, 101, 32, 105, 115, 32, 110, 111, 110, 101] }
noncomputable def lowonce : Nat := (World.holding Tryd.prog default ⟨#[], #[], []⟩).heap.size
def setSonce (h : Array Obj) (g : Nat) (a : Addr) : Array Obj :=
  h.modify g fun
      | .cells _ t frozen => .cells #[.iface 75 (.pointer (some a))] t frozen
      | o => o
noncomputable def laidWorldonce (os : Os) : World :=
  let w0 := World.holding Tryd.prog os ⟨#[.cells #[.string sonce0] 100, .cells #[.string sonce1] 100], #[], []⟩
  { w0 with heap := (setSonce (setSonce w0.heap 1 ⟨lowonce + 0, 0, none⟩) 0 ⟨lowonce + 1, 0, none⟩) }
theorem laid_metonce (os : Os) (args : Array Value) : laidMet Tryd.prog Rows.boardOnceRow.laid ((laidWorldonce os).forCall (fun _ _ => 0) ⟨#[], args, []⟩).memory :=
  laidMet_of_run (ps := [.cell 1 0, .cell (lowonce + 0) 0, .cell 0 0, .cell (lowonce + 1) 0]) 8 (by kernel_rfl) (by kernel_rfl) (by kernel_rfl)
theorem sentsonce {W : World} (h : laidMet Tryd.prog Rows.boardOnceRow.laid W) : ∃ al : List Addr, SentOK W (slonce.ss 75 100) al ∧ al.Nodup ∧ ∀ a ∈ al, ∃ c t, W.heap[a.block]? = some (.cells c t (0, 0)) :=
  sents_of_laid (sl := slonce) (nm := "*errors.errorString") Tryd.underlying27 once_row Tryd.underlying75 Tryd.underlying100 rfl rfl Tryd.underlying9 once_cellsE once_cellsS (by kernel_rfl) h
set_option maxRecDepth 100000 in
theorem once_lifted (os : Os) (started : os.Started) (H : Type) (enc : TypeId × Value → H) :
    ReturnsInHanded {} Tryd.checked os 5 .any (fun w args => (Rows.boardOnceSpec.pre enc Tryd.prog Tryd.f5 [] false w args ∧ laidMetH Tryd.prog Rows.boardOnceRow.laid w) ∧ sizedMet enc Tryd.prog Tryd.f5 (OpenSpec.ofChange Rows.boardOnceSpec) false w args)
      (Rows.boardOnceSpec.post enc Tryd.prog Tryd.f5 false true false false) := by
  refine returnsInHanded_of_change_and (C := Tryd.checked) (X := fun w _ => laidMetH Tryd.prog Rows.boardOnceRow.laid w) (fun _ _ _ hh h => h.of_heap hh) once_own started (by kernel_rfl) Tryd.func5
    (ChangeSpec.witness_at (enc := enc) (C := Tryd.checked) (os := os) (X := fun w _ => laidMetH Tryd.prog Rows.boardOnceRow.laid w) false (laidWorldonce os) #[.int .i64 0] 8 rfl (by kernel_rfl) (by kernel_rfl) (by kernel_rfl) (by kernel_rfl) (by kernel_rfl) (laidMetH_of_parts (laid_metonce os _) (by kernel_rfl))) ?_
  intro W base args ds gs before hval hW _ _ hL _
  obtain ⟨al, ha, hnd, hcs⟩ := sentsonce hL
  exact law_goalG once_laidOut (fn := Tryd.f5) (s := Rows.boardOnceSpec) (sh := [shI]) (tb := 4) (by kernel_rfl) (by kernel_rfl) rfl rfl Tryd.underlying4
    (fun H ds h => by
      match ds, h with
      | [_], _ => exact ⟨rfl, rfl, rfl⟩) ha once_con hval hW
theorem once_holds : Rows.BoardOnceSaid :=
  OpenClaim.holds_of_wide 5 Tryd.f5 rfl rfl rfl rfl rfl rfl rfl ⟨rfl, rfl, rfl, rfl, rfl⟩ rfl rfl rfl rfl rfl (by kernel_rfl) Tryd.func5 (by kernel_rfl)
    (of_decide_eq_true (by kernel_rfl)) (by unfold Func.isWrapper; first | (rw [if_pos (by decide +kernel)]; kernel_rfl) | (rw [if_neg (by decide +kernel)]; exact ⟨rfl, rfl⟩))
    (fun os started H enc _ => once_lifted os started H enc)
theorem once_card : Rows.BoardOnceCardSaid :=
  Claim7.holds_tied_plain_at .later [] [.sentinel, .sentinel] true (true, "828090a87114d5461afac4d74bb14c0b5d74c4d1c254817937def877e92e565c") true
    once_holds (fun _ h => by cases h) (by kernel_rfl) (fun _ h => by cases h) boardOnce_row_tie rfl ⟨rfl, rfl⟩ (by kernel_rfl) rfl
    (fun f fn hf hfn => by
      obtain rfl : f = 5 := Option.some.inj ((show Tryd.prog.funcNamed "sexton/sextonlaw04.BoardOnce" = some 5 by kernel_rfl).symm.trans hf) |>.symm
      obtain rfl : fn = Tryd.f5 := (Option.some.inj (Tryd.func5.symm.trans hfn)).symm
      refine ⟨by kernel_rfl, fun j t ht => ?_⟩
      rw [Tryd.params5] at ht
      rcases j with _ | j
      · obtain rfl : t = 3 := by simpa using ht.symm
        exact (show Tryd.prog.wantsStandIn 3 = false by kernel_rfl)
      · simp at ht)
    (by kernel_rfl)
end Go.Proofs.YtlfhjmfelbomaaaDoor
