/- 'RiteScans' answers true whatever the input, and the input reads behind the call as it read before; what its listed variables read is tied to the program's text. -/
import Derived.Test.YthomdlajobnmnaaDoorRows
import Derived.Test.YthomdlajobnmnaaDoorTie
import Derived.Test.YthomdlajobnmnaaDoorCards
import Derived.Test.YthomdlajobnmnaaDoorRL
import Derived.Test.YthomdlajobnmnaaDoorRexW
import Derived.ChangeSame
import Derived.ChangeVars
import Derived.JoinedOf
import Derived.RowKit
import Derived.RowKitTokens
import Derived.LaidLaws
import Derived.LaidHandle
import Derived.Stop.Joined
import Derived.Stop.LaidErr
import Derived.ProofKit
import Derived.SevenTiedAt
set_option linter.unusedSimpArgs false
set_option linter.unusedVariables false
namespace Go.Proofs.YthomdlajobnmnaaDoor
open Go Go.ChangeShapes Go.WideShapes Go.RowKit Go.Rex
theorem sc_own : ownKnob Tryd.prog.godebug = none := by kernel_rfl
theorem sc_laidOut : laidOutB Tryd.prog = true := by kernel_rfl
theorem sc_cellsE : Tryd.prog.cellsOf 198 = 1 := by kernel_rfl
theorem sc_cellsS : Tryd.prog.cellsOf 9 = 1 := by kernel_rfl
theorem sc_star : "*" ++ "errors.errorString" = "*errors.errorString" := by decide
theorem sc_row (u : TypeId) (h : Tryd.prog.typeName? 3 u = some "*errors.errorString") : u = 177 :=
 typeName_ptr_named (nm := "errors.errorString") (by rw [sc_star]; kernel_rfl) (by kernel_rfl) (by decide) u (by rw [sc_star]; exact h)
def slsc : Sents := [("sexton/api.ErrArg", 0, [97, 110, 32, 97, 114, 103, 117, 109, 101, 110, 116, 32, 116, 104, 97, 116, 32, 99, 97, 110, 39, 116, 32, 98, 101]), ("sexton/api.ErrNil", 2, [97, 32, 110, 105, 108, 32, 116, 104, 105, 110, 103]), ("sexton/api.ErrState", 4, [110, 111, 116, 32, 110, 111, 119]), ("sexton/api.ErrFreed", 3, [97, 32, 115, 108, 111, 116, 32, 116, 104, 97, 116, 32, 105, 115, 32, 102, 114, 101, 101]), ("sexton/api.ErrStale", 1, [97, 32, 115, 108, 111, 116, 32, 116, 104, 97, 116, 32, 105, 115, 32, 97, 110, 111, 116, 104, 101, 114, 32, 111, 110, 101, 32, 110, 111, 119]), ("sexton/api.ErrTwice", 5, [100, 111, 110, 101, 32, 97, 108, 114, 101, 97, 100, 121])]
abbrev ssc0 : ByteArray := { data := #[97, 110, 32, 97, 114, 103, 117, 109, 101, 110, 116, 32, 116, 104, 97, 116, 32, 99, 97, 110, 39, 116, 32, 98, 101] }
abbrev ssc1 : ByteArray := { data := #[97, 32, 110, 105, 108, 32, 116, 104, 105, 110, 103] }
abbrev ssc2 : ByteArray := { data := #[110, 111, 116, 32, 110, 111, 119] }
abbrev ssc3 : ByteArray := { data := #[97, 32, 115, 108, 111, 116, 32, 116, 104, 97, 116, 32, 105, 115, 32, 102, 114, 101, 101] }
abbrev ssc4 : ByteArray := { data := #[97, 32, 115, 108, 111, 116, 32, 116, 104, 97, 116, 32, 105, 115, 32, 97, 110, 111, 116, 104, 101, 114, 32, 111, 110, 101, 32, 110, 111, 119] }
abbrev ssc5 : ByteArray := { data := #[100, 111, 110, 101, 32, 97, 108, 114, 101, 97, 100, 121] }
noncomputable def lowsc : Nat := (World.holding Tryd.prog default ⟨#[], #[], []⟩).heap.size
def setSsc (h : Array Obj) (g : Nat) (a : Addr) : Array Obj :=
 h.modify g fun
   | .cells _ t frozen => .cells #[.iface 177 (.pointer (some a))] t frozen
   | o => o
noncomputable def laidWorldsc (os : Os) : World :=
 let w0 := World.holding Tryd.prog os ⟨#[.cells #[.string ssc0] 198, .cells #[.string ssc1] 198, .cells #[.string ssc2] 198, .cells #[.string ssc3] 198, .cells #[.string ssc4] 198, .cells #[.string ssc5] 198], #[], []⟩
 { w0 with heap := (setSsc (setSsc (setSsc (setSsc (setSsc (setSsc w0.heap 0 ⟨lowsc + 0, 0, none⟩) 2 ⟨lowsc + 1, 0, none⟩) 4 ⟨lowsc + 2, 0, none⟩) 3 ⟨lowsc + 3, 0, none⟩) 1 ⟨lowsc + 4, 0, none⟩) 5 ⟨lowsc + 5, 0, none⟩) }
theorem laid_metsc (os : Os) (args : Array Value) : laidMet Tryd.prog Rows.riteScansRow.laid ((laidWorldsc os).forCall (fun _ _ => 0) ⟨#[], args, []⟩).memory :=
 laidMet_of_run (ps := [.cell 0 0, .cell (lowsc + 0) 0, .cell 2 0, .cell (lowsc + 1) 0, .cell 4 0, .cell (lowsc + 2) 0, .cell 3 0, .cell (lowsc + 3) 0, .cell 1 0, .cell (lowsc + 4) 0, .cell 5 0, .cell (lowsc + 5) 0]) 8 (by kernel_rfl) (by kernel_rfl) (by kernel_rfl)
theorem sentssc {W : World} (h : laidMet Tryd.prog Rows.riteScansRow.laid W) : ∃ al : List Addr, SentOK W (slsc.ss 177 198) al ∧ al.Nodup ∧ ∀ a ∈ al, ∃ c t, W.heap[a.block]? = some (.cells c t (0, 0)) :=
 sents_of_laid (sl := slsc) (nm := "*errors.errorString") Tryd.underlying27 sc_row Tryd.underlying177 Tryd.underlying198 rfl rfl Tryd.underlying9 sc_cellsE sc_cellsS (by kernel_rfl) h
theorem sc_drop {W : World} {x : Nat × TypeId × TypeId} {r : List (Nat × TypeId × TypeId)} : ∀ {al : List Addr}, SentOK W (x :: r) al → ∃ al', SentOK W r al'
 | [], h => h.elim
 | _ :: al', h => ⟨al', h.2.2⟩
set_option maxRecDepth 100000 in
theorem sc_lifted (os : Os) (started : os.Started) (H : Type) (enc : TypeId × Value → H) :
  ReturnsInHanded {} Tryd.checked os 11 .any (fun w args => (Rows.riteScansSpec.pre enc Tryd.prog Tryd.f11 [] false w args ∧ laidMetH Tryd.prog Rows.riteScansRow.laid w) ∧ sizedMet enc Tryd.prog Tryd.f11 (OpenSpec.ofChange Rows.riteScansSpec) false w args)
   (Rows.riteScansSpec.post enc Tryd.prog Tryd.f11 false true false false) := by
 refine returnsInHanded_of_change_and (C := Tryd.checked) (X := fun w _ => laidMetH Tryd.prog Rows.riteScansRow.laid w) (fun _ _ _ hh h => h.of_heap hh) sc_own started (by kernel_rfl) Tryd.func11
  (ChangeSpec.witness_at (enc := enc) (C := Tryd.checked) (os := os) (X := fun w _ => laidMetH Tryd.prog Rows.riteScansRow.laid w) false (laidWorldsc os) #[.int .i64 0, .slice none 0 0] 8 rfl (by kernel_rfl) (by kernel_rfl) (by kernel_rfl) (by kernel_rfl) (by kernel_rfl) (laidMetH_of_parts (laid_metsc os _) (by kernel_rfl))) ?_
 intro W base args ds gs before hval hW _ _ hL _
 obtain ⟨al, ha, hnd, hcs⟩ := sentssc hL
 exact law_goalG sc_laidOut (fn := Tryd.f11) (s := Rows.riteScansSpec) (sh := [shI, shInts]) (tb := 4) (by kernel_rfl) (by kernel_rfl) rfl rfl Tryd.underlying4
  (fun H ds h => by
    match ds, h with
    | [_, _], _ => exact ⟨rfl, rfl, rfl⟩) ha hnd hcs rfl rfl sc_con hval hW
theorem sc_holds : Rows.RiteScansSaid :=
 OpenClaim.holds_of_wide 11 Tryd.f11 rfl rfl rfl rfl rfl rfl rfl ⟨rfl, rfl, rfl, rfl, rfl⟩ rfl rfl rfl rfl rfl (by kernel_rfl) Tryd.func11 (by kernel_rfl)
  (of_decide_eq_true (by kernel_rfl)) (by unfold Func.isWrapper; first | (rw [if_pos (by decide +kernel)]; kernel_rfl) | (rw [if_neg (by decide +kernel)]; exact ⟨rfl, rfl⟩))
  (fun os started H enc _ => sc_lifted os started H enc)
theorem sc_card : Rows.RiteScansCardSaid :=
 Claim7.holds_tied_plain_at .later [] [.sentinel, .sentinel, .sentinel, .sentinel, .sentinel, .sentinel] true (true, "0a4b81ae7c557eb35923e698271d12e0952e248465ee30472e9bb18dca02c551") true
  sc_holds (fun _ h => by cases h) (by kernel_rfl) (fun _ h => by cases h) riteScans_row_tie rfl ⟨rfl, rfl⟩ (by kernel_rfl) rfl
  (fun f fn hf hfn => by
    obtain rfl : f = 11 := Option.some.inj ((show Tryd.prog.funcNamed "sexton/sextonlaw06.RiteScans" = some 11 by kernel_rfl).symm.trans hf) |>.symm
    obtain rfl : fn = Tryd.f11 := (Option.some.inj (Tryd.func11.symm.trans hfn)).symm
    refine ⟨by kernel_rfl, fun j t ht => ?_⟩
    rw [Tryd.params11] at ht
    rcases j with _ | _ | j
    · obtain rfl : t = 3 := by simpa using ht.symm
      exact (show Tryd.prog.wantsStandIn 3 = false by kernel_rfl)
    · obtain rfl : t = 22 := by simpa using ht.symm
      exact (show Tryd.prog.wantsStandIn 22 = false by kernel_rfl)
    · simp at ht)
  (by kernel_rfl)
end Go.Proofs.YthomdlajobnmnaaDoor
