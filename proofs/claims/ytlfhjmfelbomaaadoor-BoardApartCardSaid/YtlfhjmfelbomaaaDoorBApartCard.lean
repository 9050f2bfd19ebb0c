/- 'BoardApart' answers true whatever the input, and the input reads behind the call as it read before; what its listed variables read is tied to the program's text. -/
import Derived.Test.YtlfhjmfelbomaaaDoorRows
import Derived.Test.YtlfhjmfelbomaaaDoorTie
import Derived.Test.YtlfhjmfelbomaaaDoorCards
import Derived.Test.YtlfhjmfelbomaaaDoorBApart
import Derived.Test.YtlfhjmfelbomaaaDoorRexW
import Derived.ChangeSame
import Derived.ChangeVars
import Derived.JoinedOf
import Derived.RowKit
import Derived.RowKitTokens
import Derived.LaidLaws
import Derived.LaidHandle
import Derived.Stop.Joined
import Derived.Stop.LaidErr
import Derived.ProofKit
import Derived.SevenTiedAt
set_option linter.unusedSimpArgs false
set_option linter.unusedVariables false
namespace Go.Proofs.YtlfhjmfelbomaaaDoor
open Go Go.ChangeShapes Go.WideShapes Go.RowKit Go.Rex
theorem apart_own : ownKnob Tryd.prog.godebug = none := by kernel_rfl
theorem apart_laidOut : laidOutB Tryd.prog = true := by kernel_rfl
theorem apart_cellsE : Tryd.prog.cellsOf 100 = 1 := by kernel_rfl
theorem apart_cellsS : Tryd.prog.cellsOf 9 = 1 := by kernel_rfl
theorem apart_star : "*" ++ "errors.errorString" = "*errors.errorString" := by decide
theorem apart_row (u : TypeId) (h : Tryd.prog.typeName? 3 u = some "*errors.errorString") : u = 75 :=
  typeName_ptr_named (nm := "errors.errorString") (by rw [apart_star]; kernel_rfl) (by kernel_rfl) (by decide) u (by rw [apart_star]; exact h)
def slapart : Sents := [("sexton/api.ErrArg", 1, [97, 110, 32, 97, 114, 103, 117, 109, 101, 110, 116, 32, 116, 104, 97, 116, 32, 99, 97, 110, 39, 116, 32, 98, 101])]
abbrev sapart0 : ByteArray := { data := #[97, 110, 32, 97, 114, 103, 117, 109, 101, 110, 116, 32, 116, 104, 97, 116, 32, 99, 97, 110, 39, 116, 32, 98, 101] }
noncomputable def lowapart : Nat := (World.holding Tryd.prog default ⟨#[], #[], []⟩).heap.size
def setSapart (h : Array Obj) (g : Nat) (a : Addr) : Array Obj :=
  h.modify g fun
      | .cells _ t frozen => .cells #[.iface 75 (.pointer (some a))] t frozen
      | o => o
noncomputable def laidWorldapart (os : Os) : World :=
  let w0 := World.holding Tryd.prog os ⟨#[.cells #[.string sapart0] 100], #[], []⟩
  { w0 with heap := (setSapart w0.heap 1 ⟨lowapart + 0, 0, none⟩) }
theorem laid_metapart (os : Os) (args : Array Value) : laidMet Tryd.prog Rows.boardApartRow.laid ((laidWorldapart os).forCall (fun _ _ => 0) ⟨#[], args, []⟩).memory :=
  laidMet_of_run (ps := [.cell 1 0, .cell (lowapart + 0) 0]) 8 (by kernel_rfl) (by kernel_rfl) (by kernel_rfl)
theorem sentsapart {W : World} (h : laidMet Tryd.prog Rows.boardApartRow.laid W) : ∃ al : List Addr, SentOK W (slapart.ss 75 100) al ∧ al.Nodup ∧ ∀ a ∈ al, ∃ c t, W.heap[a.block]? = some (.cells c t (0, 0)) :=
  sents_of_laid (sl := slapart) (nm := "*errors.errorString") Tryd.underlying27 apart_row Tryd.underlying75 Tryd.underlying100 rfl rfl Tryd.underlying9 apart_cellsE apart_cellsS (by kernel_rfl) h
set_option maxRecDepth 100000 in
theorem apart_lifted (os : Os) (started : os.Started) (H : Type) (enc : TypeId × Value → H) :
    ReturnsInHanded {} Tryd.checked os 3 .any (fun w args => (Rows.boardApartSpec.pre enc Tryd.prog Tryd.f3 [] false w args ∧ laidMetH Tryd.prog Rows.boardApartRow.laid w) ∧ sizedMet enc Tryd.prog Tryd.f3 (OpenSpec.ofChange Rows.boardApartSpec) false w args)
      (Rows.boardApartSpec.post enc Tryd.prog Tryd.f3 false true false false) := by
  refine returnsInHanded_of_change_and (C := Tryd.checked) (X := fun w _ => laidMetH Tryd.prog Rows.boardApartRow.laid w) (fun _ _ _ hh h => h.of_heap hh) apart_own started (by kernel_rfl) Tryd.func3
    (ChangeSpec.witness_at (enc := enc) (C := Tryd.checked) (os := os) (X := fun w _ => laidMetH Tryd.prog Rows.boardApartRow.laid w) false (laidWorldapart os) #[.agg #[.int .i64 0, .int .i64 0, .int .i64 0], .agg #[.int .i64 0, .int .i64 0, .int .i64 0]] 8 rfl (by kernel_rfl) (by kernel_rfl) (by kernel_rfl) (by kernel_rfl) (by kernel_rfl) (laidMetH_of_parts (laid_metapart os _) (by kernel_rfl))) ?_
  intro W base args ds gs before hval hW _ _ hL _
  obtain ⟨al, ha, hnd, hcs⟩ := sentsapart hL
  exact law_goalG apart_laidOut (fn := Tryd.f3) (s := Rows.boardApartSpec) (sh := [shA3, shA3]) (tb := 4) (by kernel_rfl) (by kernel_rfl) rfl rfl Tryd.underlying4
    (fun H ds h => by
      match ds, h with
      | [_, _], _ => exact ⟨rfl, rfl, rfl⟩) ha apart_con hval hW
theorem apart_holds : Rows.BoardApartSaid :=
  OpenClaim.holds_of_wide 3 Tryd.f3 rfl rfl rfl rfl rfl rfl rfl ⟨rfl, rfl, rfl, rfl, rfl⟩ rfl rfl rfl rfl rfl (by kernel_rfl) Tryd.func3 (by kernel_rfl)
    (of_decide_eq_true (by kernel_rfl)) (by unfold Func.isWrapper; first | (rw [if_pos (by decide +kernel)]; kernel_rfl) | (rw [if_neg (by decide +kernel)]; exact ⟨rfl, rfl⟩))
    (fun os started H enc _ => apart_lifted os started H enc)
theorem apart_card : Rows.BoardApartCardSaid :=
  Claim7.holds_tied_plain_at .later [] [.sentinel] true (true, "828090a87114d5461afac4d74bb14c0b5d74c4d1c254817937def877e92e565c") true
    apart_holds (fun _ h => by cases h) (by kernel_rfl) (fun _ h => by cases h) boardApart_row_tie rfl ⟨rfl, rfl⟩ (by kernel_rfl) rfl
    (fun f fn hf hfn => by
      obtain rfl : f = 3 := Option.some.inj ((show Tryd.prog.funcNamed "sexton/sextonlaw04.BoardApart" = some 3 by kernel_rfl).symm.trans hf) |>.symm
      obtain rfl : fn = Tryd.f3 := (Option.some.inj (Tryd.func3.symm.trans hfn)).symm
      refine ⟨by kernel_rfl, fun j t ht => ?_⟩
      rw [Tryd.params3] at ht
      rcases j with _ | _ | j
      · obtain rfl : t = 22 := by simpa using ht.symm
        exact (show Tryd.prog.wantsStandIn 22 = false by kernel_rfl)
      · obtain rfl : t = 22 := by simpa using ht.symm
        exact (show Tryd.prog.wantsStandIn 22 = false by kernel_rfl)
      · simp at ht)
    (by kernel_rfl)
end Go.Proofs.YtlfhjmfelbomaaaDoor
