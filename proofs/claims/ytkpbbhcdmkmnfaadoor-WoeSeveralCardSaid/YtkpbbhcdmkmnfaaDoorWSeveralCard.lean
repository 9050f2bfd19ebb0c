/- 'WoeSeveral' answers true whatever the input, and the input reads behind the call as it read before; what its listed variables read is tied to the program's text. -/
import Derived.Test.YtkpbbhcdmkmnfaaDoorRows
import Derived.Test.YtkpbbhcdmkmnfaaDoorTie
import Derived.Test.YtkpbbhcdmkmnfaaDoorCards
import Derived.Test.YtkpbbhcdmkmnfaaDoorWSeveral
import Derived.Test.YtkpbbhcdmkmnfaaDoorWLaw
import Derived.ChangeSame
import Derived.ChangeVars
import Derived.JoinedOf
import Derived.RowKit
import Derived.RowKitTokens
import Derived.LaidLaws
import Derived.LaidHandle
import Derived.Stop.Joined
import Derived.Stop.LaidErr
import Derived.ProofKit
import Derived.SevenTiedAt
set_option linter.unusedSimpArgs false
set_option linter.unusedVariables false
namespace Go.Proofs.YtkpbbhcdmkmnfaaDoor
open Go Go.ChangeShapes Go.WideShapes Go.RowKit Go.Rex
theorem several_own : ownKnob Tryd.prog.godebug = none := by kernel_rfl
theorem several_laidOut : laidOutB Tryd.prog = true := by kernel_rfl
theorem several_cellsE : Tryd.prog.cellsOf 58 = 1 := by kernel_rfl
theorem several_cellsS : Tryd.prog.cellsOf 9 = 1 := by kernel_rfl
theorem several_star : "*" ++ "errors.errorString" = "*errors.errorString" := by decide
theorem several_row (u : TypeId) (h : Tryd.prog.typeName? 3 u = some "*errors.errorString") : u = 56 :=
  typeName_ptr_named (nm := "errors.errorString") (by rw [several_star]; kernel_rfl) (by kernel_rfl) (by decide) u (by rw [several_star]; exact h)
def slseveral : Sents := [("sexton/api.ErrArg", 0, [97, 110, 32, 97, 114, 103, 117, 109, 101, 110, 116, 32, 116, 104, 97, 116, 32, 99, 97, 110, 39, 116, 32, 98, 101]), ("sexton/api.ErrNil", 1, [97, 32, 110, 105, 108, 32, 116, 104, 105, 110, 103]), ("sexton/api.ErrFull", 2, [110, 111, 32, 114, 111, 111, 109]), ("sexton/api.ErrNone", 3, [116, 104, 101, 114, 101, 32, 105, 115, 32, 110, 111, 110, 101]), ("sexton/api.ErrState", 4, [110, 111, 116, 32, 110, 111, 119]), ("sexton/api.ErrFreed", 5, [97, 32, 115, 108, 111, 116, 32, 116, 104, 97, 116, 32, 105, 115, 32, 102, 114, 101, 101]), ("sexton/api.ErrStale", 6, [97, 32, 115, 108, 111, 116, 32, 116, 104, 97, 116, 32, 105, 115, 32, 97, 110, 111, 116, 104, 101, 114, 32, 111, 110, 101, 32, 110, 111, 119]), ("sexton/api.ErrTwice", 7, [100, 111, 110, 101, 32, 97, 108, 114, 101, 97, 100, 121]), ("sexton/api.ErrLeft", 8, [97, 32, 102, 114, 101, 101, 32, 115, 108, 111, 116, 32, 116, 104, 97, 116, 32, 99, 97, 110, 32, 98, 101, 32, 114, 101, 97, 99, 104, 101, 100]), ("sexton/api.ErrLong", 9, [116, 111, 111, 32, 108, 111, 110, 103]), ("sexton/api.ErrWord", 10, [110, 111, 32, 119, 111, 114, 100])]
abbrev sseveral0 : ByteArray := { data := #[97, 110, 32, 97, 114, 103, 117, 109, 101, 110, 116, 32, 116, 104, 97, 116, 32, 99, 97, 110, 39, 116, 32, 98, 101] }
abbrev sseveral1 : ByteArray := { data := #[97, 32, 110, 105, 108, 32, 116, 104, 105, 110, 103] }
abbrev sseveral2 : ByteArray := { data := #[110, 111, 32, 114, 111, 111, 109] }
abbrev sseveral3 : ByteArray := { data := #[116, 104, 101, 114, 101, 32, 105, 115, 32, 110, 111, 110, 101] }
abbrev sseveral4 : ByteArray := { data := #[110, 111, 116, 32, 110, 111, 119] }
abbrev sseveral5 : ByteArray := { data := #[97, 32, 115, 108, 111, 116, 32, 116, 104, 97, 116, 32, 105, 115, 32, 102, 114, 101, 101] }
abbrev sseveral6 : ByteArray := { data := #[97, 32, 115, 108, 111, 116, 32, 116, 104, 97, 116, 32, 105, 115, 32, 97, 110, 111, 116, 104, 101, 114, 32, 111, 110, 101, 32, 110, 111, 119] }
abbrev sseveral7 : ByteArray := { data := #[100, 111, 110, 101, 32, 97, 108, 114, 101, 97, 100, 121] }
abbrev sseveral8 : ByteArray := { data := #[97, 32, 102, 114, 101, 101, 32, 115, 108, 111, 116, 32, 116, 104, 97, 116, 32, 99, 97, 110, 32, 98, 101, 32, 114, 101, 97, 99, 104, 101, 100] }
abbrev sseveral9 : ByteArray := { data := #[116, 111, 111, 32, 108, 111, 110, 103] }
abbrev sseveral10 : ByteArray := { data := #[110, 111, 32, 119, 111, 114, 100] }
noncomputable def lowseveral : Nat := (World.holding Tryd.prog default ⟨#[], #[], []⟩).heap.size
def setSseveral (h : Array Obj) (g : Nat) (a : Addr) : Array Obj :=
  h.modify g fun
      | .cells _ t frozen => .cells #[.iface 56 (.pointer (some a))] t frozen
      | o => o
def setRseveral (h : Array Obj) : Array Obj :=
  h.modify 11 fun
      | .cells _ t frozen => .cells #[.iface 74 (.agg #[.pointer (some ⟨12, 25, none⟩)])] t frozen
      | o => o
noncomputable def laidWorldseveral (os : Os) : World :=
  let w0 := World.holding Tryd.prog os ⟨#[.cells #[.string sseveral0] 58, .cells #[.string sseveral1] 58, .cells #[.string sseveral2] 58, .cells #[.string sseveral3] 58, .cells #[.string sseveral4] 58, .cells #[.string sseveral5] 58, .cells #[.string sseveral6] 58, .cells #[.string sseveral7] 58, .cells #[.string sseveral8] 58, .cells #[.string sseveral9] 58, .cells #[.string sseveral10] 58], #[], []⟩
  { w0 with heap := (setRseveral (setSseveral (setSseveral (setSseveral (setSseveral (setSseveral (setSseveral (setSseveral (setSseveral (setSseveral (setSseveral (setSseveral w0.heap 0 ⟨lowseveral + 0, 0, none⟩) 1 ⟨lowseveral + 1, 0, none⟩) 2 ⟨lowseveral + 2, 0, none⟩) 3 ⟨lowseveral + 3, 0, none⟩) 4 ⟨lowseveral + 4, 0, none⟩) 5 ⟨lowseveral + 5, 0, none⟩) 6 ⟨lowseveral + 6, 0, none⟩) 7 ⟨lowseveral + 7, 0, none⟩) 8 ⟨lowseveral + 8, 0, none⟩) 9 ⟨lowseveral + 9, 0, none⟩) 10 ⟨lowseveral + 10, 0, none⟩)) }
theorem laid_metseveral (os : Os) (args : Array Value) : laidMet Tryd.prog (slseveral.laid "*errors.errorString") ((laidWorldseveral os).forCall (fun _ _ => 0) ⟨#[], args, []⟩).memory :=
  laidMet_of_run (ps := [.cell 0 0, .cell (lowseveral + 0) 0, .cell 1 0, .cell (lowseveral + 1) 0, .cell 2 0, .cell (lowseveral + 2) 0, .cell 3 0, .cell (lowseveral + 3) 0, .cell 4 0, .cell (lowseveral + 4) 0, .cell 5 0, .cell (lowseveral + 5) 0, .cell 6 0, .cell (lowseveral + 6) 0, .cell 7 0, .cell (lowseveral + 7) 0, .cell 8 0, .cell (lowseveral + 8) 0, .cell 9 0, .cell (lowseveral + 9) 0, .cell 10 0, .cell (lowseveral + 10) 0]) 8 (by kernel_rfl) (by kernel_rfl) (by kernel_rfl)
theorem sentsseveral {W : World} (h : laidMetH Tryd.prog Rows.woeSeveralRow.laid W) : ∃ al : List Addr, SentOK W (slseveral.ss 56 58) al ∧ al.Nodup ∧ ∀ a ∈ al, ∃ c t, W.heap[a.block]? = some (.cells c t (0, 0)) := by
  have h' : laidMet Tryd.prog (slseveral.laid "*errors.errorString") W ∧ handlesMet Tryd.prog [("errors.errorType", Rows.laid_errors_errorType)] W := h
  exact sents_of_laid (sl := slseveral) (nm := "*errors.errorString") Tryd.underlying25 several_row Tryd.underlying56 Tryd.underlying58 rfl rfl Tryd.underlying9 several_cellsE several_cellsS (by kernel_rfl) h'.1
theorem several_et : Tryd.prog.globalNamed "errors.errorType" = some 11 := by kernel_rfl
theorem several_rt : (Tryd.prog.cutTypes.find? (·.1 == "internal/reflectlite.rtype")).map (·.2) = some 74 := by kernel_rfl
theorem several_oneRow : ((List.range 116).filter fun t => Tryd.prog.rowNamed t [101, 114, 114, 111, 114]) = [25] := by kernel_rfl
theorem several_size : Tryd.prog.types.size = 116 := by kernel_rfl
theorem handleseveral {W : World} (h : laidMetH Tryd.prog Rows.woeSeveralRow.laid W) : W.cell? ⟨11, 0, none⟩ = some (.iface 74 (.agg #[.pointer (some ⟨12, 25, none⟩)])) := by
  have h' : laidMet Tryd.prog (slseveral.laid "*errors.errorString") W ∧ handlesMet Tryd.prog [("errors.errorType", Rows.laid_errors_errorType)] W := h
  obtain ⟨name, u, ty, e1, e2, e3, e4, e5⟩ := h'.2 _ List.mem_cons_self
  have en : name = [101, 114, 114, 111, 114] := (Option.some.inj e1).symm
  subst en
  obtain rfl := Option.some.inj (several_rt.symm.trans e2)
  have hm : ty ∈ (List.range 116).filter fun t => Tryd.prog.rowNamed t [101, 114, 114, 111, 114] := List.mem_filter.2 ⟨List.mem_range.2 (by rw [← several_size]; exact e3), e4⟩
  rw [several_oneRow] at hm
  obtain rfl := List.mem_singleton.1 hm
  have hh : typeHandle Tryd.prog 25 = .pointer (some ⟨12, 25, none⟩) := by kernel_rfl
  rw [hh] at e5
  simpa using World.var?_cell several_et e5 0
theorem several_drop {W : World} {x : Nat × TypeId × TypeId} {r : List (Nat × TypeId × TypeId)} : ∀ {al : List Addr}, SentOK W (x :: r) al → ∃ al', SentOK W r al'
  | [], h => h.elim
  | _ :: al', h => ⟨al', h.2.2⟩
set_option maxRecDepth 100000 in
theorem several_lifted (os : Os) (started : os.Started) (H : Type) (enc : TypeId × Value → H) :
    ReturnsInHanded {} Tryd.checked os 8 .any (fun w args => (Rows.woeSeveralSpec.pre enc Tryd.prog Tryd.f8 [] false w args ∧ laidMetH Tryd.prog Rows.woeSeveralRow.laid w) ∧ sizedMet enc Tryd.prog Tryd.f8 (OpenSpec.ofChange Rows.woeSeveralSpec) false w args)
      (Rows.woeSeveralSpec.post enc Tryd.prog Tryd.f8 false true false false) := by
  refine returnsInHanded_of_change_and (C := Tryd.checked) (X := fun w _ => laidMetH Tryd.prog Rows.woeSeveralRow.laid w) (fun _ _ _ hh h => h.of_heap hh) several_own started (by kernel_rfl) Tryd.func8
    (ChangeSpec.witness_at (enc := enc) (C := Tryd.checked) (os := os) (X := fun w _ => laidMetH Tryd.prog Rows.woeSeveralRow.laid w) false (laidWorldseveral os) #[.int .i64 0, .int .i64 0, .slice none 0 0] 8 rfl (by kernel_rfl) (by kernel_rfl) (by kernel_rfl) (by kernel_rfl) (by kernel_rfl) (laidMetH_of_parts (laid_metseveral os _) (by kernel_rfl))) ?_
  intro W base args ds gs before hval hW _ _ hL _
  obtain ⟨al, ha, hnd, hcs⟩ := sentsseveral hL
  obtain ⟨S, hS⟩ := sen_of ha hnd hcs
  have hg : Hnd W := handleseveral hL
  exact law_goalW several_laidOut (fn := Tryd.f8) (s := Rows.woeSeveralSpec) (l := [.int .i64, .int .i64, .sl 3 [.int .i64]]) (tb := 4) (by kernel_rfl) (by kernel_rfl) rfl rfl Tryd.underlying4
    (fun H ds h => by
      match ds, h with
      | [_, _, _], _ => exact ⟨rfl, rfl, rfl⟩) (fun hf => by
      obtain ⟨n, m, v, l, rfl, h1, h2, h3, h4, hl⟩ := fit4 hf
      exact several_walk n m l v S W h1 h2 h3 h4 hS hg hl) hval hW
theorem several_holds : Rows.WoeSeveralSaid :=
  OpenClaim.holds_of_wide 8 Tryd.f8 rfl rfl rfl rfl rfl rfl rfl ⟨rfl, rfl, rfl, rfl, rfl⟩ rfl rfl rfl rfl rfl (by kernel_rfl) Tryd.func8 (by kernel_rfl)
    (of_decide_eq_true (by kernel_rfl)) (by unfold Func.isWrapper; first | (rw [if_pos (by decide +kernel)]; kernel_rfl) | (rw [if_neg (by decide +kernel)]; exact ⟨rfl, rfl⟩))
    (fun os started H enc _ => several_lifted os started H enc)
theorem several_card : Rows.WoeSeveralCardSaid :=
  Claim7.holds_tied_plain_at .later [] [.handle, .sentinel, .sentinel, .sentinel, .sentinel, .sentinel, .sentinel, .sentinel, .sentinel, .sentinel, .sentinel, .sentinel] true (true, "c47f3fa14db996cff11e0f6a1974ea1a39ea6ef69fc923d4838eb8eb346e4df8") true
    several_holds (fun _ h => by cases h) (by kernel_rfl) (fun _ h => by cases h) woeSeveral_row_tie rfl ⟨rfl, rfl⟩ (by kernel_rfl) rfl
    (fun f fn hf hfn => by
      obtain rfl : f = 8 := Option.some.inj ((show Tryd.prog.funcNamed "sexton/sextonlaw01.WoeSeveral" = some 8 by kernel_rfl).symm.trans hf) |>.symm
      obtain rfl : fn = Tryd.f8 := (Option.some.inj (Tryd.func8.symm.trans hfn)).symm
      refine ⟨by kernel_rfl, fun j t ht => ?_⟩
      rw [Tryd.params8] at ht
      rcases j with _ | _ | _ | j
      · obtain rfl : t = 3 := by simpa using ht.symm
        exact (show Tryd.prog.wantsStandIn 3 = false by kernel_rfl)
      · obtain rfl : t = 3 := by simpa using ht.symm
        exact (show Tryd.prog.wantsStandIn 3 = false by kernel_rfl)
      · obtain rfl : t = 22 := by simpa using ht.symm
        exact (show Tryd.prog.wantsStandIn 22 = false by kernel_rfl)
      · simp at ht)
    (by kernel_rfl)
end Go.Proofs.YtkpbbhcdmkmnfaaDoor
