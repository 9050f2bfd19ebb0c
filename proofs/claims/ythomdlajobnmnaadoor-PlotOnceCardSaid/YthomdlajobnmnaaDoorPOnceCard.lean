/- 'PlotOnce' answers true whatever the input, and the input reads behind the call as it read before; what its listed variables read is tied to the program's text. -/
import Derived.Test.YthomdlajobnmnaaDoorRows
import Derived.Test.YthomdlajobnmnaaDoorTie
import Derived.Test.YthomdlajobnmnaaDoorCards
import Derived.Test.YthomdlajobnmnaaDoorPOnce
import Derived.Test.YthomdlajobnmnaaDoorRexW
import Derived.ChangeSame
import Derived.ChangeVars
import Derived.JoinedOf
import Derived.RowKit
import Derived.RowKitTokens
import Derived.LaidLaws
import Derived.LaidHandle
import Derived.Stop.Joined
import Derived.Stop.LaidErr
import Derived.ProofKit
import Derived.SevenTiedAt
set_option linter.unusedSimpArgs false
set_option linter.unusedVariables false
namespace Go.Proofs.YthomdlajobnmnaaDoor
open Go Go.ChangeShapes Go.WideShapes Go.RowKit Go.Rex
theorem ponce_own : ownKnob Tryd.prog.godebug = none := by kernel_rfl
theorem ponce_laidOut : laidOutB Tryd.prog = true := by kernel_rfl
theorem ponce_cellsE : Tryd.prog.cellsOf 198 = 1 := by kernel_rfl
theorem ponce_cellsS : Tryd.prog.cellsOf 9 = 1 := by kernel_rfl
theorem ponce_star : "*" ++ "errors.errorString" = "*errors.errorString" := by decide
theorem ponce_row (u : TypeId) (h : Tryd.prog.typeName? 3 u = some "*errors.errorString") : u = 177 :=
  typeName_ptr_named (nm := "errors.errorString") (by rw [ponce_star]; kernel_rfl) (by kernel_rfl) (by decide) u (by rw [ponce_star]; exact h)
def slponce : Sents := [("sexton/api.ErrArg", 0, [97, 110, 32, 97, 114, 103, 117, 109, 101, 110, 116, 32, 116, 104, 97, 116, 32, 99, 97, 110, 39, 116, 32, 98, 101]), ("sexton/api.ErrNil", 2, [97, 32, 110, 105, 108, 32, 116, 104, 105, 110, 103]), ("sexton/api.ErrFreed", 3, [97, 32, 115, 108, 111, 116, 32, 116, 104, 97, 116, 32, 105, 115, 32, 102, 114, 101, 101]), ("sexton/api.ErrStale", 1, [97, 32, 115, 108, 111, 116, 32, 116, 104, 97, 116, 32, 105, 115, 32, 97, 110, 111, 116, 104, 101, 114, 32, 111, 110, 101, 32, 110, 111, 119]), ("sexton/api.ErrTwice", 5, [100, 111, 110, 101, 32, 97, 108, 114, 101, 97, 100, 121])]
abbrev sponce0 : ByteArray := { data := #[97, 110, 32, 97, 114, 103, 117, 109, 101, 110, 116, 32, 116, 104, 97, 116, 32, 99, 97, 110, 39, 116, 32, 98, 101] }
abbrev sponce1 : ByteArray := { data := #[97, 32, 110, 105, 108, 32, 116, 104, 105, 110, 103] }
abbrev sponce2 : ByteArray := { data := #[97, 32, 115, 108, 111, 116, 32, 116, 104, 97, 116, 32, 105, 115, 32, 102, 114, 101, 101] }
abbrev sponce3 : ByteArray := { data := #[97, 32, 115, 108, 111, 116, 32, 116, 104, 97, 116, 32, 105, 115, 32, 97, 110, 111, 116, 104, 101, 114, 32, 111, 110, 101, 32, 110, 111, 119] }
abbrev sponce4 : ByteArray := { data := #[100, 111, 110, 101, 32, 97, 108, 114, 101, 97, 100, 121] }
noncomputable def lowponce : Nat := (World.holding Tryd.prog default ⟨#[], #[], []⟩).heap.size
def setSponce (h : Array Obj) (g : Nat) (a : Addr) : Array Obj :=
  h.modify g fun
      | .cells _ t frozen => .cells #[.iface 177 (.pointer (some a))] t frozen
      | o => o
def setRponce (h : Array Obj) : Array Obj :=
  h.modify 6 fun
      | .cells _ t frozen => .cells #[.iface 144 (.agg #[.pointer (some ⟨7, 27, none⟩)])] t frozen
      | o => o
noncomputable def laidWorldponce (os : Os) : World :=
  let w0 := World.holding Tryd.prog os ⟨#[.cells #[.string sponce0] 198, .cells #[.string sponce1] 198, .cells #[.string sponce2] 198, .cells #[.string sponce3] 198, .cells #[.string sponce4] 198], #[], []⟩
  { w0 with heap := (setRponce (setSponce (setSponce (setSponce (setSponce (setSponce w0.heap 0 ⟨lowponce + 0, 0, none⟩) 2 ⟨lowponce + 1, 0, none⟩) 3 ⟨lowponce + 2, 0, none⟩) 1 ⟨lowponce + 3, 0, none⟩) 5 ⟨lowponce + 4, 0, none⟩)) }
theorem laid_metponce (os : Os) (args : Array Value) : laidMet Tryd.prog (slponce.laid "*errors.errorString") ((laidWorldponce os).forCall (fun _ _ => 0) ⟨#[], args, []⟩).memory :=
  laidMet_of_run (ps := [.cell 0 0, .cell (lowponce + 0) 0, .cell 2 0, .cell (lowponce + 1) 0, .cell 3 0, .cell (lowponce + 2) 0, .cell 1 0, .cell (lowponce + 3) 0, .cell 5 0, .cell (lowponce + 4) 0]) 8 (by kernel_rfl) (by kernel_rfl) (by kernel_rfl)
theorem sentsponce {W : World} (h : laidMetH Tryd.prog Rows.plotOnceRow.laid W) : ∃ al : List Addr, SentOK W (slponce.ss 177 198) al ∧ al.Nodup ∧ ∀ a ∈ al, ∃ c t, W.heap[a.block]? = some (.cells c t (0, 0)) := by
  have h' : laidMet Tryd.prog (slponce.laid "*errors.errorString") W ∧ handlesMet Tryd.prog [("errors.errorType", Rows.laid_errors_errorType)] W := h
  exact sents_of_laid (sl := slponce) (nm := "*errors.errorString") Tryd.underlying27 ponce_row Tryd.underlying177 Tryd.underlying198 rfl rfl Tryd.underlying9 ponce_cellsE ponce_cellsS (by kernel_rfl) h'.1
theorem ponce_et : Tryd.prog.globalNamed "errors.errorType" = some 6 := by kernel_rfl
theorem ponce_rt : (Tryd.prog.cutTypes.find? (·.1 == "internal/reflectlite.rtype")).map (·.2) = some 144 := by kernel_rfl
theorem ponce_oneRow : ((List.range 210).filter fun t => Tryd.prog.rowNamed t [101, 114, 114, 111, 114]) = [27] := by kernel_rfl
theorem ponce_size : Tryd.prog.types.size = 210 := by kernel_rfl
theorem handleponce {W : World} (h : laidMetH Tryd.prog Rows.plotOnceRow.laid W) : W.cell? ⟨6, 0, none⟩ = some (.iface 144 (.agg #[.pointer (some ⟨7, 27, none⟩)])) := by
  have h' : laidMet Tryd.prog (slponce.laid "*errors.errorString") W ∧ handlesMet Tryd.prog [("errors.errorType", Rows.laid_errors_errorType)] W := h
  obtain ⟨name, u, ty, e1, e2, e3, e4, e5⟩ := h'.2 _ List.mem_cons_self
  have en : name = [101, 114, 114, 111, 114] := (Option.some.inj e1).symm
  subst en
  obtain rfl := Option.some.inj (ponce_rt.symm.trans e2)
  have hm : ty ∈ (List.range 210).filter fun t => Tryd.prog.rowNamed t [101, 114, 114, 111, 114] := List.mem_filter.2 ⟨List.mem_range.2 (by rw [← ponce_size]; exact e3), e4⟩
  rw [ponce_oneRow] at hm
  obtain rfl := List.mem_singleton.1 hm
  have hh : typeHandle Tryd.prog 27 = .pointer (some ⟨7, 27, none⟩) := by kernel_rfl
  rw [hh] at e5
  simpa using World.var?_cell ponce_et e5 0
theorem ponce_drop {W : World} {x : Nat × TypeId × TypeId} {r : List (Nat × TypeId × TypeId)} : ∀ {al : List Addr}, SentOK W (x :: r) al → ∃ al', SentOK W r al'
  | [], h => h.elim
  | _ :: al', h => ⟨al', h.2.2⟩
set_option maxRecDepth 100000 in
theorem ponce_lifted (os : Os) (started : os.Started) (H : Type) (enc : TypeId × Value → H) :
    ReturnsInHanded {} Tryd.checked os 6 .any (fun w args => (Rows.plotOnceSpec.pre enc Tryd.prog Tryd.f6 [] false w args ∧ laidMetH Tryd.prog Rows.plotOnceRow.laid w) ∧ sizedMet enc Tryd.prog Tryd.f6 (OpenSpec.ofChange Rows.plotOnceSpec) false w args)
      (Rows.plotOnceSpec.post enc Tryd.prog Tryd.f6 false true false false) := by
  refine returnsInHanded_of_change_and (C := Tryd.checked) (X := fun w _ => laidMetH Tryd.prog Rows.plotOnceRow.laid w) (fun _ _ _ hh h => h.of_heap hh) ponce_own started (by kernel_rfl) Tryd.func6
    (ChangeSpec.witness_at (enc := enc) (C := Tryd.checked) (os := os) (X := fun w _ => laidMetH Tryd.prog Rows.plotOnceRow.laid w) false (laidWorldponce os) #[.int .i64 0, .slice none 0 0] 8 rfl (by kernel_rfl) (by kernel_rfl) (by kernel_rfl) (by kernel_rfl) (by kernel_rfl) (laidMetH_of_parts (laid_metponce os _) (by kernel_rfl))) ?_
  intro W base args ds gs before hval hW _ _ hL _
  obtain ⟨al, ha, hnd, hcs⟩ := sentsponce hL
  exact law_goalR ponce_laidOut (fn := Tryd.f6) (s := Rows.plotOnceSpec) (sh := [shI, shAcs]) (tb := 4) (by kernel_rfl) (by kernel_rfl) rfl rfl Tryd.underlying4
    (fun H ds h => by
      match ds, h with
      | [_, _], _ => exact ⟨rfl, rfl, rfl⟩) ha (handleponce hL) ponce_con hval hW
theorem ponce_holds : Rows.PlotOnceSaid :=
  OpenClaim.holds_of_wide 6 Tryd.f6 rfl rfl rfl rfl rfl rfl rfl ⟨rfl, rfl, rfl, rfl, rfl⟩ rfl rfl rfl rfl rfl (by kernel_rfl) Tryd.func6 (by kernel_rfl)
    (of_decide_eq_true (by kernel_rfl)) (by unfold Func.isWrapper; first | (rw [if_pos (by decide +kernel)]; kernel_rfl) | (rw [if_neg (by decide +kernel)]; exact ⟨rfl, rfl⟩))
    (fun os started H enc _ => ponce_lifted os started H enc)
theorem ponce_card : Rows.PlotOnceCardSaid :=
  Claim7.holds_tied_plain_at .later [] [.handle, .sentinel, .sentinel, .sentinel, .sentinel, .sentinel] true (true, "0a4b81ae7c557eb35923e698271d12e0952e248465ee30472e9bb18dca02c551") true
    ponce_holds (fun _ h => by cases h) (by kernel_rfl) (fun _ h => by cases h) plotOnce_row_tie rfl ⟨rfl, rfl⟩ (by kernel_rfl) rfl
    (fun f fn hf hfn => by
      obtain rfl : f = 6 := Option.some.inj ((show Tryd.prog.funcNamed "sexton/sextonlaw03.PlotOnce" = some 6 by kernel_rfl).symm.trans hf) |>.symm
      obtain rfl : fn = Tryd.f6 := (Option.some.inj (Tryd.func6.symm.trans hfn)).symm
      refine ⟨by kernel_rfl, fun j t ht => ?_⟩
      rw [Tryd.params6] at ht
      rcases j with _ | _ | j
      · obtain rfl : t = 3 := by simpa using ht.symm
        exact (show Tryd.prog.wantsStandIn 3 = false by kernel_rfl)
      · obtain rfl : t = 42 := by simpa using ht.symm
        exact (show Tryd.prog.wantsStandIn 42 = false by kernel_rfl)
      · simp at ht)
    (by kernel_rfl)
end Go.Proofs.YthomdlajobnmnaaDoor
