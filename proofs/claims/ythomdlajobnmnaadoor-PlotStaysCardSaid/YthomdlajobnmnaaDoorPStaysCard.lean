/- 'PlotStays' answers true whatever the input, and the input reads behind the call as it read before; what its listed variables read is tied to the program's text. -/
import Derived.Test.YthomdlajobnmnaaDoorRows
import Derived.Test.YthomdlajobnmnaaDoorTie
import Derived.Test.YthomdlajobnmnaaDoorCards
import Derived.Test.YthomdlajobnmnaaDoorPStays
import Derived.Test.YthomdlajobnmnaaDoorRexW
import Derived.ChangeSame
import Derived.ChangeVars
import Derived.JoinedOf
import Derived.RowKit
import Derived.RowKitTokens
import Derived.LaidLaws
import Derived.LaidHandle
import Derived.Stop.Joined
import Derived.Stop.LaidErr
import Derived.ProofKit
import Derived.SevenTiedAt
set_option linter.unusedSimpArgs false
set_option linter.unusedVariables false
namespace Go.Proofs.YthomdlajobnmnaaDoor
open Go Go.ChangeShapes Go.WideShapes Go.RowKit Go.Rex
theorem stays_own : ownKnob Tryd.prog.godebug = none := by kernel_rfl
theorem stays_laidOut : laidOutB Tryd.prog = true := by kernel_rfl
theorem stays_cellsE : Tryd.prog.cellsOf 198 = 1 := by kernel_rfl
theorem stays_cellsS : Tryd.prog.cellsOf 9 = 1 := by kernel_rfl
theorem stays_star : "*" ++ "errors.errorString" = "*errors.errorString" := by decide
theorem stays_row (u : TypeId) (h : Tryd.prog.typeName? 3 u = some "*errors.errorString") : u = 177 :=
  typeName_ptr_named (nm := "errors.errorString") (by rw [stays_star]; kernel_rfl) (by kernel_rfl) (by decide) u (by rw [stays_star]; exact h)
def slstays : Sents := [("sexton/api.ErrArg", 0, [97, 110, 32, 97, 114, 103, 117, 109, 101, 110, 116, 32, 116, 104, 97, 116, 32, 99, 97, 110, 39, 116, 32, 98, 101]), ("sexton/api.ErrNil", 2, [97, 32, 110, 105, 108, 32, 116, 104, 105, 110, 103]), ("sexton/api.ErrFreed", 3, [97, 32, 115, 108, 111, 116, 32, 116, 104, 97, 116, 32, 105, 115, 32, 102, 114, 101, 101]), ("sexton/api.ErrStale", 1, [97, 32, 115, 108, 111, 116, 32, 116, 104, 97, 116, 32, 105, 115, 32, 97, 110, 111, 116, 104, 101, 114, 32, 111, 110, 101, 32, 110, 111, 119]), ("sexton/api.ErrTwice", 5, [100, 111, 110, 101, 32, 97, 108, 114, 101, 97, 100, 121])]
abbrev sstays0 : ByteArray := { data := #[97, 110, 32, 97, 114, 103, 117, 109, 101, 110, 116, 32, 116, 104, 97, 116, 32, 99, 97, 110, 39, 116, 32, 98, 101] }
abbrev sstays1 : ByteArray := { data := #[97, 32, 110, 105, 108, 32, 116, 104, 105, 110, 103] }
abbrev sstays2 : ByteArray := { data := #[97, 32, 115, 108, 111, 116, 32, 116, 104, 97, 116, 32, 105, 115, 32, 102, 114, 101, 101] }
abbrev sstays3 : ByteArray := { data := #[97, 32, 115, 108, 111, 116, 32, 116, 104, 97, 116, 32, 105, 115, 32, 97, 110, 111, 116, 104, 101, 114, 32, 111, 110, 101, 32, 110, 111, 119] }
abbrev sstays4 : ByteArray := { data := #[100, 111, 110, 101, 32, 97, 108, 114, 101, 97, 100, 121] }
noncomputable def lowstays : Nat := (World.holding Tryd.prog default ⟨#[], #[], []⟩).heap.size
def setSstays (h : Array Obj) (g : Nat) (a : Addr) : Array Obj :=
  h.modify g fun
      | .cells _ t frozen => .cells #[.iface 177 (.pointer (some a))] t frozen
      | o => o
def setRstays (h : Array Obj) : Array Obj :=
  h.modify 6 fun
      | .cells _ t frozen => .cells #[.iface 144 (.agg #[.pointer (some ⟨7, 27, none⟩)])] t frozen
      | o => o
noncomputable def laidWorldstays (os : Os) : World :=
  let w0 := World.holding Tryd.prog os ⟨#[.cells #[.string sstays0] 198, .cells #[.string sstays1] 198, .cells #[.string sstays2] 198, .cells #[.string sstays3] 198, .cells #[.string sstays4] 198], #[], []⟩
  { w0 with heap := (setRstays (setSstays (setSstays (setSstays (setSstays (setSstays w0.heap 0 ⟨lowstays + 0, 0, none⟩) 2 ⟨lowstays + 1, 0, none⟩) 3 ⟨lowstays + 2, 0, none⟩) 1 ⟨lowstays + 3, 0, none⟩) 5 ⟨lowstays + 4, 0, none⟩)) }
theorem laid_metstays (os : Os) (args : Array Value) : laidMet Tryd.prog (slstays.laid "*errors.errorString") ((laidWorldstays os).forCall (fun _ _ => 0) ⟨#[], args, []⟩).memory :=
  laidMet_of_run (ps := [.cell 0 0, .cell (lowstays + 0) 0, .cell 2 0, .cell (lowstays + 1) 0, .cell 3 0, .cell (lowstays + 2) 0, .cell 1 0, .cell (lowstays + 3) 0, .cell 5 0, .cell (lowstays + 4) 0]) 8 (by kernel_rfl) (by kernel_rfl) (by kernel_rfl)
theorem sentsstays {W : World} (h : laidMetH Tryd.prog Rows.plotStaysRow.laid W) : ∃ al : List Addr, SentOK W (slstays.ss 177 198) al ∧ al.Nodup ∧ ∀ a ∈ al, ∃ c t, W.heap[a.block]? = some (.cells c t (0, 0)) := by
  have h' : laidMet Tryd.prog (slstays.laid "*errors.errorString") W ∧ handlesMet Tryd.prog [("errors.errorType", Rows.laid_errors_errorType)] W := h
  exact sents_of_laid (sl := slstays) (nm := "*errors.errorString") Tryd.underlying27 stays_row Tryd.underlying177 Tryd.underlying198 rfl rfl Tryd.underlying9 stays_cellsE stays_cellsS (by kernel_rfl) h'.1
theorem stays_et : Tryd.prog.globalNamed "errors.errorType" = some 6 := by kernel_rfl
theorem stays_rt : (Tryd.prog.cutTypes.find? (·.1 == "internal/reflectlite.rtype")).map (·.2) = some 144 := by kernel_rfl
theorem stays_oneRow : ((List.range 210).filter fun t => Tryd.prog.rowNamed t [101, 114, 114, 111, 114]) = [27] := by kernel_rfl
theorem stays_size : Tryd.prog.types.size = 210 := by kernel_rfl
theorem handlestays {W : World} (h : laidMetH Tryd.prog Rows.plotStaysRow.laid W) : W.cell? ⟨6, 0, none⟩ = some (.iface 144 (.agg #[.pointer (some ⟨7, 27, none⟩)])) := by
  have h' : laidMet Tryd.prog (slstays.laid "*errors.errorString") W ∧ handlesMet Tryd.prog [("errors.errorType", Rows.laid_errors_errorType)] W := h
  obtain ⟨name, u, ty, e1, e2, e3, e4, e5⟩ := h'.2 _ List.mem_cons_self
  have en : name = [101, 114, 114, 111, 114] := (Option.some.inj e1).symm
  subst en
  obtain rfl := Option.some.inj (stays_rt.symm.trans e2)
  have hm : ty ∈ (List.range 210).filter fun t => Tryd.prog.rowNamed t [101, 114, 114, 111, 114] := List.mem_filter.2 ⟨List.mem_range.2 (by rw [← stays_size]; exact e3), e4⟩
  rw [stays_oneRow] at hm
  obtain rfl := List.mem_singleton.1 hm
  have hh : typeHandle Tryd.prog 27 = .pointer (some ⟨7, 27, none⟩) := by kernel_rfl
  rw [hh] at e5
  simpa using World.var?_cell stays_et e5 0
theorem stays_drop {W : World} {x : Nat × TypeId × TypeId} {r : List (Nat × TypeId × TypeId)} : ∀ {al : List Addr}, SentOK W (x :: r) al → ∃ al', SentOK W r al'
  | [], h => h.elim
  | _ :: al', h => ⟨al', h.2.2⟩
set_option maxRecDepth 100000 in
theorem stays_lifted (os : Os) (started : os.Started) (H : Type) (enc : TypeId × Value → H) :
    ReturnsInHanded {} Tryd.checked os 4 .any (fun w args => (Rows.plotStaysSpec.pre enc Tryd.prog Tryd.f4 [] false w args ∧ laidMetH Tryd.prog Rows.plotStaysRow.laid w) ∧ sizedMet enc Tryd.prog Tryd.f4 (OpenSpec.ofChange Rows.plotStaysSpec) false w args)
      (Rows.plotStaysSpec.post enc Tryd.prog Tryd.f4 false true false false) := by
  refine returnsInHanded_of_change_and (C := Tryd.checked) (X := fun w _ => laidMetH Tryd.prog Rows.plotStaysRow.laid w) (fun _ _ _ hh h => h.of_heap hh) stays_own started (by kernel_rfl) Tryd.func4
    (ChangeSpec.witness_at (enc := enc) (C := Tryd.checked) (os := os) (X := fun w _ => laidMetH Tryd.prog Rows.plotStaysRow.laid w) false (laidWorldstays os) #[.agg #[.int .i64 0, .int .i64 0, .int .i64 0, .int .i64 0, .bool false], .int .i64 0, .slice none 0 0] 8 rfl (by kernel_rfl) (by kernel_rfl) (by kernel_rfl) (by kernel_rfl) (by kernel_rfl) (laidMetH_of_parts (laid_metstays os _) (by kernel_rfl))) ?_
  intro W base args ds gs before hval hW _ _ hL _
  obtain ⟨al, ha, hnd, hcs⟩ := sentsstays hL
  exact law_goalR stays_laidOut (fn := Tryd.f4) (s := Rows.plotStaysSpec) (sh := [shW, shI, shAcs]) (tb := 4) (by kernel_rfl) (by kernel_rfl) rfl rfl Tryd.underlying4
    (fun H ds h => by
      match ds, h with
      | [_, _, _], _ => exact ⟨rfl, rfl, rfl⟩) ha (handlestays hL) stays_con hval hW
theorem stays_holds : Rows.PlotStaysSaid :=
  OpenClaim.holds_of_wide 4 Tryd.f4 rfl rfl rfl rfl rfl rfl rfl ⟨rfl, rfl, rfl, rfl, rfl⟩ rfl rfl rfl rfl rfl (by kernel_rfl) Tryd.func4 (by kernel_rfl)
    (of_decide_eq_true (by kernel_rfl)) (by unfold Func.isWrapper; first | (rw [if_pos (by decide +kernel)]; kernel_rfl) | (rw [if_neg (by decide +kernel)]; exact ⟨rfl, rfl⟩))
    (fun os started H enc _ => stays_lifted os started H enc)
theorem stays_card : Rows.PlotStaysCardSaid :=
  Claim7.holds_tied_plain_at .later [] [.handle, .sentinel, .sentinel, .sentinel, .sentinel, .sentinel] true (true, "0a4b81ae7c557eb35923e698271d12e0952e248465ee30472e9bb18dca02c551") true
    stays_holds (fun _ h => by cases h) (by kernel_rfl) (fun _ h => by cases h) plotStays_row_tie rfl ⟨rfl, rfl⟩ (by kernel_rfl) rfl
    (fun f fn hf hfn => by
      obtain rfl : f = 4 := Option.some.inj ((show Tryd.prog.funcNamed "sexton/sextonlaw03.PlotStays" = some 4 by kernel_rfl).symm.trans hf) |>.symm
      obtain rfl : fn = Tryd.f4 := (Option.some.inj (Tryd.func4.symm.trans hfn)).symm
      refine ⟨by kernel_rfl, fun j t ht => ?_⟩
      rw [Tryd.params4] at ht
      rcases j with _ | _ | _ | j
      · obtain rfl : t = 31 := by simpa using ht.symm
        exact (show Tryd.prog.wantsStandIn 31 = false by kernel_rfl)
      · obtain rfl : t = 3 := by simpa using ht.symm
        exact (show Tryd.prog.wantsStandIn 3 = false by kernel_rfl)
      · obtain rfl : t = 42 := by simpa using ht.symm
        exact (show Tryd.prog.wantsStandIn 42 = false by kernel_rfl)
      · simp at ht)
    (by kernel_rfl)
end Go.Proofs.YthomdlajobnmnaaDoor
