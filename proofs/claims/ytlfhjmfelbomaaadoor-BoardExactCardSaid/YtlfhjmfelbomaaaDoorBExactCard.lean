/- 'BoardExact' answers true whatever the input, and the input reads behind the call as it read before; what its listed variables read is tied to the program's text. -/
import Derived.Test.YtlfhjmfelbomaaaDoorRows
import Derived.Test.YtlfhjmfelbomaaaDoorTie
import Derived.Test.YtlfhjmfelbomaaaDoorCards
import Derived.Test.YtlfhjmfelbomaaaDoorBExact
import Derived.Test.YtlfhjmfelbomaaaDoorRexW
import Derived.ChangeSame
import Derived.ChangeVars
import Derived.JoinedOf
import Derived.RowKit
import Derived.RowKitTokens
import Derived.LaidLaws
import Derived.LaidHandle
import Derived.Stop.Joined
import Derived.Stop.LaidErr
import Derived.ProofKit
import Derived.SevenTiedAt
set_option linter.unusedSimpArgs false
set_option linter.unusedVariables false
namespace Go.Proofs.YtlfhjmfelbomaaaDoor
open Go Go.ChangeShapes Go.WideShapes Go.RowKit Go.Rex
theorem exact_own : ownKnob Tryd.prog.godebug = none := by kernel_rfl
theorem exact_laidOut : laidOutB Tryd.prog = true := by kernel_rfl
theorem exact_cellsE : Tryd.prog.cellsOf 100 = 1 := by kernel_rfl
theorem exact_cellsS : Tryd.prog.cellsOf 9 = 1 := by kernel_rfl
theorem exact_star : "*" ++ "errors.errorString" = "*errors.errorString" := by decide
theorem exact_row (u : TypeId) (h : Tryd.prog.typeName? 3 u = some "*errors.errorString") : u = 75 :=
  typeName_ptr_named (nm := "errors.errorString") (by rw [exact_star]; kernel_rfl) (by kernel_rfl) (by decide) u (by rw [exact_star]; exact h)
def slexact : Sents := [("sexton/api.ErrArg", 1, [97, 110, 32, 97, 114, 103, 117, 109, 101, 110, 116, 32, 116, 104, 97, 116, 32, 99, 97, 110, 39, 116, 32, 98, 101]), ("sexton/api.ErrNone", 0, [116, 104, 101, 114, 101, 32, 105, 115, 32, 110, 111, 110, 101])]
abbrev sexact0 : ByteArray := { data := #[97, 110, 32, 97, 114, 103, 117, 109, 101, 110, 116, 32, 116, 104, 97, 116, 32, 99, 97, 110, 39, 116, 32, 98, 101] }
abbrev sexact1 : ByteArray := { data := #[116, 104, 101, 114, 101, 32, 105, 115, 32, 110, 111, 110, 101] }
noncomputable def lowexact : Nat := (World.holding Tryd.prog default ⟨#[], #[], []⟩).heap.size
def setSexact (h : Array Obj) (g : Nat) (a : Addr) : Array Obj :=
  h.modify g fun
      | .cells _ t frozen => .cells #[.iface 75 (.pointer (some a))] t frozen
      | o => o
noncomputable def laidWorldexact (os : Os) : World :=
  let w0 := World.holding Tryd.prog os ⟨#[.cells #[.string sexact0] 100, .cells #[.string sexact1] 100], #[], []⟩
  { w0 with heap := (setSexact (setSexact w0.heap 1 ⟨lowexact + 0, 0, none⟩) 0 ⟨lowexact + 1, 0, none⟩) }
theorem laid_metexact (os : Os) (args : Array Value) : laidMet Tryd.prog Rows.boardExactRow.laid ((laidWorldexact os).forCall (fun _ _ => 0) ⟨#[], args, []⟩).memory :=
  laidMet_of_run (ps := [.cell 1 0, .cell (lowexact + 0) 0, .cell 0 0, .cell (lowexact + 1) 0]) 8 (by kernel_rfl) (by kernel_rfl) (by kernel_rfl)
theorem sentsexact {W : World} (h : laidMet Tryd.prog Rows.boardExactRow.laid W) : ∃ al : List Addr, SentOK W (slexact.ss 75 100) al ∧ al.Nodup ∧ ∀ a ∈ al, ∃ c t, W.heap[a.block]? = some (.cells c t (0, 0)) :=
  sents_of_laid (sl := slexact) (nm := "*errors.errorString") Tryd.underlying27 exact_row Tryd.underlying75 Tryd.underlying100 rfl rfl Tryd.underlying9 exact_cellsE exact_cellsS (by kernel_rfl) h
set_option maxRecDepth 100000 in
theorem exact_lifted (os : Os) (started : os.Started) (H : Type) (enc : TypeId × Value → H) :
    ReturnsInHanded {} Tryd.checked os 4 .any (fun w args => (Rows.boardExactSpec.pre enc Tryd.prog Tryd.f4 [] false w args ∧ laidMetH Tryd.prog Rows.boardExactRow.laid w) ∧ sizedMet enc Tryd.prog Tryd.f4 (OpenSpec.ofChange Rows.boardExactSpec) false w args)
      (Rows.boardExactSpec.post enc Tryd.prog Tryd.f4 false true false false) := by
  refine returnsInHanded_of_change_and (C := Tryd.checked) (X := fun w _ => laidMetH Tryd.prog Rows.boardExactRow.laid w) (fun _ _ _ hh h => h.of_heap hh) exact_own started (by kernel_rfl) Tryd.func4
    (ChangeSpec.witness_at (enc := enc) (C := Tryd.checked) (os := os) (X := fun w _ => laidMetH Tryd.prog Rows.boardExactRow.laid w) false (laidWorldexact os) #[.int .i64 0, .int .i64 0, .agg #[.int .i64 0, .int .i64 0, .int .i64 0]] 8 rfl (by kernel_rfl) (by kernel_rfl) (by kernel_rfl) (by kernel_rfl) (by kernel_rfl) (laidMetH_of_parts (laid_metexact os _) (by kernel_rfl))) ?_
  intro W base args ds gs before hval hW _ _ hL _
  obtain ⟨al, ha, hnd, hcs⟩ := sentsexact hL
  exact law_goalG exact_laidOut (fn := Tryd.f4) (s := Rows.boardExactSpec) (sh := shE) (tb := 4) (by kernel_rfl) (by kernel_rfl) rfl rfl Tryd.underlying4
    (fun H ds h => by
      match ds, h with
      | [_, _, _], _ => exact ⟨rfl, rfl, rfl⟩) ha exact_con hval hW
theorem exact_holds : Rows.BoardExactSaid :=
  OpenClaim.holds_of_wide 4 Tryd.f4 rfl rfl rfl rfl rfl rfl rfl ⟨rfl, rfl, rfl, rfl, rfl⟩ rfl rfl rfl rfl rfl (by kernel_rfl) Tryd.func4 (by kernel_rfl)
    (of_decide_eq_true (by kernel_rfl)) (by unfold Func.isWrapper; first | (rw [if_pos (by decide +kernel)]; kernel_rfl) | (rw [if_neg (by decide +kernel)]; exact ⟨rfl, rfl⟩))
    (fun os started H enc _ => exact_lifted os started H enc)
theorem exact_card : Rows.BoardExactCardSaid :=
  Claim7.holds_tied_plain_at .later [] [.sentinel, .sentinel] true (true, "828090a87114d5461afac4d74bb14c0b5d74c4d1c254817937def877e92e565c") true
    exact_holds (fun _ h => by cases h) (by kernel_rfl) (fun _ h => by cases h) boardExact_row_tie rfl ⟨rfl, rfl⟩ (by kernel_rfl) rfl
    (fun f fn hf hfn => by
      obtain rfl : f = 4 := Option.some.inj ((show Tryd.prog.funcNamed "sexton/sextonlaw04.BoardExact" = some 4 by kernel_rfl).symm.trans hf) |>.symm
      obtain rfl : fn = Tryd.f4 := (Option.some.inj (Tryd.func4.symm.trans hfn)).symm
      refine ⟨by kernel_rfl, fun j t ht => ?_⟩
      rw [Tryd.params4] at ht
      rcases j with _ | _ | _ | j
      · obtain rfl : t = 3 := by simpa using ht.symm
        exact (show Tryd.prog.wantsStandIn 3 = false by kernel_rfl)
      · obtain rfl : t = 3 := by simpa using ht.symm
        exact (show Tryd.prog.wantsStandIn 3 = false by kernel_rfl)
      · obtain rfl : t = 25 := by simpa using ht.symm
        exact (show Tryd.prog.wantsStandIn 25 = false by kernel_rfl)
      · simp at ht)
    (by kernel_rfl)
end Go.Proofs.YtlfhjmfelbomaaaDoor
