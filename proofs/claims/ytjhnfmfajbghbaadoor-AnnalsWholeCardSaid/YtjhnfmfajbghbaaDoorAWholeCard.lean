/- 'AnnalsWhole' answers true whatever the input, and the input reads behind the call as it read before; what its listed variables read is tied to the program's text. -/
import Derived.Test.YtjhnfmfajbghbaaDoorRows
import Derived.Test.YtjhnfmfajbghbaaDoorTie
import Derived.Test.YtjhnfmfajbghbaaDoorCards
import Derived.Test.YtjhnfmfajbghbaaDoorAWhole
import Derived.Test.YtjhnfmfajbghbaaDoorRexW
import Derived.ChangeSame
import Derived.ChangeVars
import Derived.JoinedOf
import Derived.RowKit
import Derived.RowKitTokens
import Derived.LaidLaws
import Derived.LaidHandle
import Derived.Stop.Joined
import Derived.Stop.LaidErr
import Derived.ProofKit
import Derived.SevenTiedAt
set_option linter.unusedSimpArgs false
set_option linter.unusedVariables false
namespace Go.Proofs.YtjhnfmfajbghbaaDoor
open Go Go.ChangeShapes Go.WideShapes Go.RowKit Go.Rex
theorem wlaw_own : ownKnob Tryd.prog.godebug = none := by kernel_rfl
theorem wlaw_laidOut : laidOutB Tryd.prog = true := by kernel_rfl
theorem wlaw_cellsE : Tryd.prog.cellsOf 111 = 1 := by kernel_rfl
theorem wlaw_cellsS : Tryd.prog.cellsOf 9 = 1 := by kernel_rfl
theorem wlaw_star : "*" ++ "errors.errorString" = "*errors.errorString" := by decide
theorem wlaw_row (u : TypeId) (h : Tryd.prog.typeName? 3 u = some "*errors.errorString") : u = 85 :=
  typeName_ptr_named (nm := "errors.errorString") (by rw [wlaw_star]; kernel_rfl) (by kernel_rfl) (by decide) u (by rw [wlaw_star]; exact h)
def slwlaw : Sents := [("sexton/api.ErrArg", 0, [97, 110, 32, 97, 114, 103, 117, 109, 101, 110, 116, 32, 116, 104, 97, 116, 32, 99, 97, 110, 39, 116, 32, 98, 101]), ("sexton/api.ErrState", 1, [110, 111, 116, 32, 110, 111, 119])]
abbrev swlaw0 : ByteArray := { data := #[97, 110, 32, 97, 114, 103, 117, 109, 101, 110, 116, 32, 116, 104, 97, 116, 32, 99, 97, 110, 39, 116, 32, 98, 101] }
abbrev swlaw1 : ByteArray := { data := #[110, 111, 116, 32, 110, 111, 119] }
noncomputable def lowwlaw : Nat := (World.holding Tryd.prog default ⟨#[], #[], []⟩).heap.size
def setSwlaw (h : Array Obj) (g : Nat) (a : Addr) : Array Obj :=
  h.modify g fun
      | .cells _ t frozen => .cells #[.iface 85 (.pointer (some a))] t frozen
      | o => o
noncomputable def laidWorldwlaw (os : Os) : World :=
  let w0 := World.holding Tryd.prog os ⟨#[.cells #[.string swlaw0] 111, .cells #[.string swlaw1] 111], #[], []⟩
  { w0 with heap := (setSwlaw (setSwlaw w0.heap 0 ⟨lowwlaw + 0, 0, none⟩) 1 ⟨lowwlaw + 1, 0, none⟩) }
theorem laid_metwlaw (os : Os) (args : Array Value) : laidMet Tryd.prog Rows.annalsWholeRow.laid ((laidWorldwlaw os).forCall (fun _ _ => 0) ⟨#[], args, []⟩).memory :=
  laidMet_of_run (ps := [.cell 0 0, .cell (lowwlaw + 0) 0, .cell 1 0, .cell (lowwlaw + 1) 0]) 8 (by kernel_rfl) (by kernel_rfl) (by kernel_rfl)
theorem sentswlaw {W : World} (h : laidMet Tryd.prog Rows.annalsWholeRow.laid W) : ∃ al : List Addr, SentOK W (slwlaw.ss 85 111) al ∧ al.Nodup ∧ ∀ a ∈ al, ∃ c t, W.heap[a.block]? = some (.cells c t (0, 0)) :=
  sents_of_laid (sl := slwlaw) (nm := "*errors.errorString") Tryd.underlying26 wlaw_row Tryd.underlying85 Tryd.underlying111 rfl rfl Tryd.underlying9 wlaw_cellsE wlaw_cellsS (by kernel_rfl) h
theorem wlaw_drop {W : World} {x : Nat × TypeId × TypeId} {r : List (Nat × TypeId × TypeId)} : ∀ {al : List Addr}, SentOK W (x :: r) al → ∃ al', SentOK W r al'
  | [], h => h.elim
  | _ :: al', h => ⟨al', h.2.2⟩
set_option maxRecDepth 100000 in
theorem wlaw_lifted (os : Os) (started : os.Started) (H : Type) (enc : TypeId × Value → H) :
    ReturnsInHanded {} Tryd.checked os 5 .any (fun w args => (Rows.annalsWholeSpec.pre enc Tryd.prog Tryd.f5 [] false w args ∧ laidMetH Tryd.prog Rows.annalsWholeRow.laid w) ∧ sizedMet enc Tryd.prog Tryd.f5 (OpenSpec.ofChange Rows.annalsWholeSpec) false w args)
      (Rows.annalsWholeSpec.post enc Tryd.prog Tryd.f5 false true false false) := by
  refine returnsInHanded_of_change_and (C := Tryd.checked) (X := fun w _ => laidMetH Tryd.prog Rows.annalsWholeRow.laid w) (fun _ _ _ hh h => h.of_heap hh) wlaw_own started (by kernel_rfl) Tryd.func5
    (ChangeSpec.witness_at (enc := enc) (C := Tryd.checked) (os := os) (X := fun w _ => laidMetH Tryd.prog Rows.annalsWholeRow.laid w) false (laidWorldwlaw os) #[.slice none 0 0] 8 rfl (by kernel_rfl) (by kernel_rfl) (by kernel_rfl) (by kernel_rfl) (by kernel_rfl) (laidMetH_of_parts (laid_metwlaw os _) (by kernel_rfl))) ?_
  intro W base args ds gs before hval hW _ _ hL _
  obtain ⟨al, ha, hnd, hcs⟩ := sentswlaw hL
  exact law_goalG wlaw_laidOut (fn := Tryd.f5) (s := Rows.annalsWholeSpec) (sh := [shEv]) (tb := 4) (by kernel_rfl) (by kernel_rfl) rfl rfl Tryd.underlying4
    (fun H ds h => by
      match ds, h with
      | [_], _ => exact ⟨rfl, rfl, rfl⟩) ha wlaw_con hval hW
theorem wlaw_holds : Rows.AnnalsWholeSaid :=
  OpenClaim.holds_of_wide 5 Tryd.f5 rfl rfl rfl rfl rfl rfl rfl ⟨rfl, rfl, rfl, rfl, rfl⟩ rfl rfl rfl rfl rfl (by kernel_rfl) Tryd.func5 (by kernel_rfl)
    (of_decide_eq_true (by kernel_rfl)) (by unfold Func.isWrapper; first | (rw [if_pos (by decide +kernel)]; kernel_rfl) | (rw [if_neg (by decide +kernel)]; exact ⟨rfl, rfl⟩))
    (fun os started H enc _ => wlaw_lifted os started H enc)
theorem wlaw_card : Rows.AnnalsWholeCardSaid :=
  Claim7.holds_tied_plain_at .later [] [.sentinel, .sentinel] true (true, "2d91c322af8c9f18a627864bde6159f5874623d6ef4687e8e0fa68515ccf58d2") true
    wlaw_holds (fun _ h => by cases h) (by kernel_rfl) (fun _ h => by cases h) annalsWhole_row_tie rfl ⟨rfl, rfl⟩ (by kernel_rfl) rfl
    (fun f fn hf hfn => by
      obtain rfl : f = 5 := Option.some.inj ((show Tryd.prog.funcNamed "sexton/sextonlaw15.AnnalsWhole" = some 5 by kernel_rfl).symm.trans hf) |>.symm
      obtain rfl : fn = Tryd.f5 := (Option.some.inj (Tryd.func5.symm.trans hfn)).symm
      refine ⟨by kernel_rfl, fun j t ht => ?_⟩
      rw [Tryd.params5] at ht
      rcases j with _ | j
      · obtain rfl : t = 22 := by simpa using ht.symm
        exact (show Tryd.prog.wantsStandIn 22 = false by kernel_rfl)
      · simp at ht)
    (by kernel_rfl)
end Go.Proofs.YtjhnfmfajbghbaaDoor
