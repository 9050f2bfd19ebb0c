/- 'CortegeExact' answers true whatever the input, and the input reads behind the call as it read before; what its listed variables read is tied to the program's text. -/
import Derived.Test.YtinbcjdcbmppgaaDoorRows
import Derived.Test.YtinbcjdcbmppgaaDoorTie
import Derived.Test.YtinbcjdcbmppgaaDoorCards
import Derived.Test.YtinbcjdcbmppgaaDoorCLaw
import Derived.Test.YtinbcjdcbmppgaaDoorRexW
import Derived.ChangeSame
import Derived.ChangeVars
import Derived.JoinedOf
import Derived.RowKit
import Derived.RowKitTokens
import Derived.LaidLaws
import Derived.LaidHandle
import Derived.Stop.Joined
import Derived.Stop.LaidErr
import Derived.ProofKit
import Derived.SevenTiedAt
set_option linter.unusedSimpArgs false
set_option linter.unusedVariables false
namespace Go.Proofs.YtinbcjdcbmppgaaDoor
open Go Go.ChangeShapes Go.WideShapes Go.RowKit Go.Rex
theorem claw_own : ownKnob Tryd.prog.godebug = none := by kernel_rfl
theorem claw_laidOut : laidOutB Tryd.prog = true := by kernel_rfl
theorem claw_cellsE : Tryd.prog.cellsOf 112 = 1 := by kernel_rfl
theorem claw_cellsS : Tryd.prog.cellsOf 9 = 1 := by kernel_rfl
theorem claw_star : "*" ++ "errors.errorString" = "*errors.errorString" := by decide
theorem claw_row (u : TypeId) (h : Tryd.prog.typeName? 3 u = some "*errors.errorString") : u = 86 :=
  typeName_ptr_named (nm := "errors.errorString") (by rw [claw_star]; kernel_rfl) (by kernel_rfl) (by decide) u (by rw [claw_star]; exact h)
def slclaw : Sents := [("sexton/api.ErrArg", 0, [97, 110, 32, 97, 114, 103, 117, 109, 101, 110, 116, 32, 116, 104, 97, 116, 32, 99, 97, 110, 39, 116, 32, 98, 101])]
abbrev sclaw0 : ByteArray := { data := #[97, 110, 32, 97, 114, 103, 117, 109, 101, 110, 116, 32, 116, 104, 97, 116, 32, 99, 97, 110, 39, 116, 32, 98, 101] }
noncomputable def lowclaw : Nat := (World.holding Tryd.prog default ⟨#[], #[], []⟩).heap.size
def setSclaw (h : Array Obj) (g : Nat) (a : Addr) : Array Obj :=
  h.modify g fun
      | .cells _ t frozen => .cells #[.iface 86 (.pointer (some a))] t frozen
      | o => o
noncomputable def laidWorldclaw (os : Os) : World :=
  let w0 := World.holding Tryd.prog os ⟨#[.cells #[.string sclaw0] 112], #[], []⟩
  { w0 with heap := (setSclaw w0.heap 0 ⟨lowclaw + 0, 0, none⟩) }
theorem laid_metclaw (os : Os) (args : Array Value) : laidMet Tryd.prog Rows.cortegeExactRow.laid ((laidWorldclaw os).forCall (fun _ _ => 0) ⟨#[], args, []⟩).memory :=
  laidMet_of_run (ps := [.cell 0 0, .cell (lowclaw + 0) 0]) 8 (by kernel_rfl) (by kernel_rfl) (by kernel_rfl)
theorem sentsclaw {W : World} (h : laidMet Tryd.prog Rows.cortegeExactRow.laid W) : ∃ al : List Addr, SentOK W (slclaw.ss 86 112) al ∧ al.Nodup ∧ ∀ a ∈ al, ∃ c t, W.heap[a.block]? = some (.cells c t (0, 0)) :=
  sents_of_laid (sl := slclaw) (nm := "*errors.errorString") Tryd.underlying28 claw_row Tryd.underlying86 Tryd.underlying112 rfl rfl Tryd.underlying9 claw_cellsE claw_cellsS (by kernel_rfl) h
theorem claw_drop {W : World} {x : Nat × TypeId × TypeId} {r : List (Nat × TypeId × TypeId)} : ∀ {al : List Addr}, SentOK W (x :: r) al → ∃ al', SentOK W r al'
  | [], h => h.elim
  | _ :: al', h => ⟨al', h.2.2⟩
set_option maxRecDepth 100000 in
theorem claw_lifted (os : Os) (started : os.Started) (H : Type) (enc : TypeId × Value → H) :
    ReturnsInHanded {} Tryd.checked os 3 .any (fun w args => (Rows.cortegeExactSpec.pre enc Tryd.prog Tryd.f3 [] false w args ∧ laidMetH Tryd.prog Rows.cortegeExactRow.laid w) ∧ sizedMet enc Tryd.prog Tryd.f3 (OpenSpec.ofChange Rows.cortegeExactSpec) false w args)
      (Rows.cortegeExactSpec.post enc Tryd.prog Tryd.f3 false true false false) := by
  refine returnsInHanded_of_change_and (C := Tryd.checked) (X := fun w _ => laidMetH Tryd.prog Rows.cortegeExactRow.laid w) (fun _ _ _ hh h => h.of_heap hh) claw_own started (by kernel_rfl) Tryd.func3
    (ChangeSpec.witness_at (enc := enc) (C := Tryd.checked) (os := os) (X := fun w _ => laidMetH Tryd.prog Rows.cortegeExactRow.laid w) false (laidWorldclaw os) #[.agg #[.int .i64 0, .int .i64 0, .int .i64 0, .int .i64 0], .slice none 0 0] 8 rfl (by kernel_rfl) (by kernel_rfl) (by kernel_rfl) (by kernel_rfl) (by kernel_rfl) (laidMetH_of_parts (laid_metclaw os _) (by kernel_rfl))) ?_
  intro W base args ds gs before hval hW _ _ hL _
  obtain ⟨al, ha, hnd, hcs⟩ := sentsclaw hL
  exact law_goalG claw_laidOut (fn := Tryd.f3) (s := Rows.cortegeExactSpec) (sh := [shOp, shRep]) (tb := 4) (by kernel_rfl) (by kernel_rfl) rfl rfl Tryd.underlying4
    (fun H ds h => by
      match ds, h with
      | [_, _], _ => exact ⟨rfl, rfl, rfl⟩) ha claw_con hval hW
theorem claw_holds : Rows.CortegeExactSaid :=
  OpenClaim.holds_of_wide 3 Tryd.f3 rfl rfl rfl rfl rfl rfl rfl ⟨rfl, rfl, rfl, rfl, rfl⟩ rfl rfl rfl rfl rfl (by kernel_rfl) Tryd.func3 (by kernel_rfl)
    (of_decide_eq_true (by kernel_rfl)) (by unfold Func.isWrapper; first | (rw [if_pos (by decide +kernel)]; kernel_rfl) | (rw [if_neg (by decide +kernel)]; exact ⟨rfl, rfl⟩))
    (fun os started H enc _ => claw_lifted os started H enc)
theorem claw_card : Rows.CortegeExactCardSaid :=
  Claim7.holds_tied_plain_at .later [] [.sentinel] true (true, "b76c1c483dbc4947c0c87042686d43e1e0bf045004e68bdafbda1a508e1457fd") true
    claw_holds (fun _ h => by cases h) (by kernel_rfl) (fun _ h => by cases h) cortegeExact_row_tie rfl ⟨rfl, rfl⟩ (by kernel_rfl) rfl
    (fun f fn hf hfn => by
      obtain rfl : f = 3 := Option.some.inj ((show Tryd.prog.funcNamed "sexton/sextonlaw08.CortegeExact" = some 3 by kernel_rfl).symm.trans hf) |>.symm
      obtain rfl : fn = Tryd.f3 := (Option.some.inj (Tryd.func3.symm.trans hfn)).symm
      refine ⟨by kernel_rfl, fun j t ht => ?_⟩
      rw [Tryd.params3] at ht
      rcases j with _ | _ | j
      · obtain rfl : t = 23 := by simpa using ht.symm
        exact (show Tryd.prog.wantsStandIn 23 = false by kernel_rfl)
      · obtain rfl : t = 24 := by simpa using ht.symm
        exact (show Tryd.prog.wantsStandIn 24 = false by kernel_rfl)
      · simp at ht)
    (by kernel_rfl)
end Go.Proofs.YtinbcjdcbmppgaaDoor
