/- 'WoeOpens' answers true whatever the input, and the input reads behind the call as it read before; what its listed variables read is tied to the program's text. -/
import Derived.Test.YtkpbbhcdmkmnfaaDoorRows
import Derived.Test.YtkpbbhcdmkmnfaaDoorTie
import Derived.Test.YtkpbbhcdmkmnfaaDoorCards
import Derived.Test.YtkpbbhcdmkmnfaaDoorWOpens
import Derived.Test.YtkpbbhcdmkmnfaaDoorWLaw
import Derived.ChangeSame
import Derived.ChangeVars
import Derived.JoinedOf
import Derived.RowKit
import Derived.RowKitTokens
import Derived.LaidLaws
import Derived.LaidHandle
import Derived.Stop.Joined
import Derived.Stop.LaidErr
import Derived.ProofKit
import Derived.SevenTiedAt
set_option linter.unusedSimpArgs false
set_option linter.unusedVariables false
namespace Go.Proofs.YtkpbbhcdmkmnfaaDoor
open Go Go.ChangeShapes Go.WideShapes Go.RowKit Go.Rex
theorem opens_own : ownKnob Tryd.prog.godebug = none := by kernel_rfl
theorem opens_laidOut : laidOutB Tryd.prog = true := by kernel_rfl
theorem opens_cellsE : Tryd.prog.cellsOf 58 = 1 := by kernel_rfl
theorem opens_cellsS : Tryd.prog.cellsOf 9 = 1 := by kernel_rfl
theorem opens_star : "*" ++ "errors.errorString" = "*errors.errorString" := by decide
theorem opens_row (u : TypeId) (h : Tryd.prog.typeName? 3 u = some "*errors.errorString") : u = 56 :=
  typeName_ptr_named (nm := "errors.errorString") (by rw [opens_star]; kernel_rfl) (by kernel_rfl) (by decide) u (by rw [opens_star]; exact h)
def slopens : Sents := [("sexton/api.ErrArg", 0, [97, 110, 32, 97, 114, 103, 117, 109, 101, 110, 116, 32, 116, 104, 97, 116, 32, 99, 97, 110, 39, 116, 32, 98, 101]), ("sexton/api.ErrNil", 1, [97, 32, 110, 105, 108, 32, 116, 104, 105, 110, 103]), ("sexton/api.ErrFull", 2, [110, 111, 32, 114, 111, 111, 109]), ("sexton/api.ErrNone", 3, [116, 104, 101, 114, 101, 32, 105, 115, 32, 110, 111, 110, 101]), ("sexton/api.ErrState", 4, [110, 111, 116, 32, 110, 111, 119]), ("sexton/api.ErrFreed", 5, [97, 32, 115, 108, 111, 116, 32, 116, 104, 97, 116, 32, 105, 115, 32, 102, 114, 101, 101]), ("sexton/api.ErrStale", 6, [97, 32, 115, 108, 111, 116, 32, 116, 104, 97, 116, 32, 105, 115, 32, 97, 110, 111, 116, 104, 101, 114, 32, 111, 110, 101, 32, 110, 111, 119]), ("sexton/api.ErrTwice", 7, [100, 111, 110, 101, 32, 97, 108, 114, 101, 97, 100, 121]), ("sexton/api.ErrLeft", 8, [97, 32, 102, 114, 101, 101, 32, 115, 108, 111, 116, 32, 116, 104, 97, 116, 32, 99, 97, 110, 32, 98, 101, 32, 114, 101, 97, 99, 104, 101, 100]), ("sexton/api.ErrLong", 9, [116, 111, 111, 32, 108, 111, 110, 103]), ("sexton/api.ErrWord", 10, [110, 111, 32, 119, 111, 114, 100])]
abbrev sopens0 : ByteArray := { data := #[97, 110, 32, 97, 114, 103, 117, 109, 101, 110, 116, 32, 116, 104, 97, 116, 32, 99, 97, 110, 39, 116, 32, 98, 101] }
abbrev sopens1 : ByteArray := { data := #[97, 32, 110, 105, 108, 32, 116, 104, 105, 110, 103] }
abbrev sopens2 : ByteArray := { data := #[110, 111, 32, 114, 111, 111, 109] }
abbrev sopens3 : ByteArray := { data := #[116, 104, 101, 114, 101, 32, 105, 115, 32, 110, 111, 110, 101] }
abbrev sopens4 : ByteArray := { data := #[110, 111, 116, 32, 110, 111, 119] }
abbrev sopens5 : ByteArray := { data := #[97, 32, 115, 108, 111, 116, 32, 116, 104, 97, 116, 32, 105, 115, 32, 102, 114, 101, 101] }
abbrev sopens6 : ByteArray := { data := #[97, 32, 115, 108, 111, 116, 32, 116, 104, 97, 116, 32, 105, 115, 32, 97, 110, 111, 116, 104, 101, 114, 32, 111, 110, 101, 32, 110, 111, 119] }
abbrev sopens7 : ByteArray := { data := #[100, 111, 110, 101, 32, 97, 108, 114, 101, 97, 100, 121] }
abbrev sopens8 : ByteArray := { data := #[97, 32, 102, 114, 101, 101, 32, 115, 108, 111, 116, 32, 116, 104, 97, 116, 32, 99, 97, 110, 32, 98, 101, 32, 114, 101, 97, 99, 104, 101, 100] }
abbrev sopens9 : ByteArray := { data := #[116, 111, 111, 32, 108, 111, 110, 103] }
abbrev sopens10 : ByteArray := { data := #[110, 111, 32, 119, 111, 114, 100] }
noncomputable def lowopens : Nat := (World.holding Tryd.prog default ⟨#[], #[], []⟩).heap.size
def setSopens (h : Array Obj) (g : Nat) (a : Addr) : Array Obj :=
  h.modify g fun
      | .cells _ t frozen => .cells #[.iface 56 (.pointer (some a))] t frozen
      | o => o
def setRopens (h : Array Obj) : Array Obj :=
  h.modify 11 fun
      | .cells _ t frozen => .cells #[.iface 74 (.agg #[.pointer (some ⟨12, 25, none⟩)])] t frozen
      | o => o
noncomputable def laidWorldopens (os : Os) : World :=
  let w0 := World.holding Tryd.prog os ⟨#[.cells #[.string sopens0] 58, .cells #[.string sopens1] 58, .cells #[.string sopens2] 58, .cells #[.string sopens3] 58, .cells #[.string sopens4] 58, .cells #[.string sopens5] 58, .cells #[.string sopens6] 58, .cells #[.string sopens7] 58, .cells #[.string sopens8] 58, .cells #[.string sopens9] 58, .cells #[.string sopens10] 58], #[], []⟩
  { w0 with heap := (setRopens (setSopens (setSopens (setSopens (setSopens (setSopens (setSopens (setSopens (setSopens (setSopens (setSopens (setSopens w0.heap 0 ⟨lowopens + 0, 0, none⟩) 1 ⟨lowopens + 1, 0, none⟩) 2 ⟨lowopens + 2, 0, none⟩) 3 ⟨lowopens + 3, 0, none⟩) 4 ⟨lowopens + 4, 0, none⟩) 5 ⟨lowopens + 5, 0, none⟩) 6 ⟨lowopens + 6, 0, none⟩) 7 ⟨lowopens + 7, 0, none⟩) 8 ⟨lowopens + 8, 0, none⟩) 9 ⟨lowopens + 9, 0, none⟩) 10 ⟨lowopens + 10, 0, none⟩)) }
theorem laid_metopens (os : Os) (args : Array Value) : laidMet Tryd.prog (slopens.laid "*errors.errorString") ((laidWorldopens os).forCall (fun _ _ => 0) ⟨#[], args, []⟩).memory :=
  laidMet_of_run (ps := [.cell 0 0, .cell (lowopens + 0) 0, .cell 1 0, .cell (lowopens + 1) 0, .cell 2 0, .cell (lowopens + 2) 0, .cell 3 0, .cell (lowopens + 3) 0, .cell 4 0, .cell (lowopens + 4) 0, .cell 5 0, .cell (lowopens + 5) 0, .cell 6 0, .cell (lowopens + 6) 0, .cell 7 0, .cell (lowopens + 7) 0, .cell 8 0, .cell (lowopens + 8) 0, .cell 9 0, .cell (lowopens + 9) 0, .cell 10 0, .cell (lowopens + 10) 0]) 8 (by kernel_rfl) (by kernel_rfl) (by kernel_rfl)
theorem sentsopens {W : World} (h : laidMetH Tryd.prog Rows.woeOpensRow.laid W) : ∃ al : List Addr, SentOK W (slopens.ss 56 58) al ∧ al.Nodup ∧ ∀ a ∈ al, ∃ c t, W.heap[a.block]? = some (.cells c t (0, 0)) := by
  have h' : laidMet Tryd.prog (slopens.laid "*errors.errorString") W ∧ handlesMet Tryd.prog [("errors.errorType", Rows.laid_errors_errorType)] W := h
  exact sents_of_laid (sl := slopens) (nm := "*errors.errorString") Tryd.underlying25 opens_row Tryd.underlying56 Tryd.underlying58 rfl rfl Tryd.underlying9 opens_cellsE opens_cellsS (by kernel_rfl) h'.1
theorem opens_et : Tryd.prog.globalNamed "errors.errorType" = some 11 := by kernel_rfl
theorem opens_rt : (Tryd.prog.cutTypes.find? (·.1 == "internal/reflectlite.rtype")).map (·.2) = some 74 := by kernel_rfl
theorem opens_oneRow : ((List.range 116).filter fun t => Tryd.prog.rowNamed t [101, 114, 114, 111, 114]) = [25] := by kernel_rfl
theorem opens_size : Tryd.prog.types.size = 116 := by kernel_rfl
theorem handleopens {W : World} (h : laidMetH Tryd.prog Rows.woeOpensRow.laid W) : W.cell? ⟨11, 0, none⟩ = some (.iface 74 (.agg #[.pointer (some ⟨12, 25, none⟩)])) := by
  have h' : laidMet Tryd.prog (slopens.laid "*errors.errorString") W ∧ handlesMet Tryd.prog [("errors.errorType", Rows.laid_errors_errorType)] W := h
  obtain ⟨name, u, ty, e1, e2, e3, e4, e5⟩ := h'.2 _ List.mem_cons_self
  have en : name = [101, 114, 114, 111, 114] := (Option.some.inj e1).symm
  subst en
  obtain rfl := Option.some.inj (opens_rt.symm.trans e2)
  have hm : ty ∈ (List.range 116).filter fun t => Tryd.prog.rowNamed t [101, 114, 114, 111, 114] := List.mem_filter.2 ⟨List.mem_range.2 (by rw [← opens_size]; exact e3), e4⟩
  rw [opens_oneRow] at hm
  obtain rfl := List.mem_singleton.1 hm
  have hh : typeHandle Tryd.prog 25 = .pointer (some ⟨12, 25, none⟩) := by kernel_rfl
  rw [hh] at e5
  simpa using World.var?_cell opens_et e5 0
theorem opens_drop {W : World} {x : Nat × TypeId × TypeId} {r : List (Nat × TypeId × TypeId)} : ∀ {al : List Addr}, SentOK W (x :: r) al → ∃ al', SentOK W r al'
  | [], h => h.elim
  | _ :: al', h => ⟨al', h.2.2⟩
set_option maxRecDepth 100000 in
theorem opens_lifted (os : Os) (started : os.Started) (H : Type) (enc : TypeId × Value → H) :
    ReturnsInHanded {} Tryd.checked os 7 .any (fun w args => (Rows.woeOpensSpec.pre enc Tryd.prog Tryd.f7 [] false w args ∧ laidMetH Tryd.prog Rows.woeOpensRow.laid w) ∧ sizedMet enc Tryd.prog Tryd.f7 (OpenSpec.ofChange Rows.woeOpensSpec) false w args)
      (Rows.woeOpensSpec.post enc Tryd.prog Tryd.f7 false true false false) := by
  refine returnsInHanded_of_change_and (C := Tryd.checked) (X := fun w _ => laidMetH Tryd.prog Rows.woeOpensRow.laid w) (fun _ _ _ hh h => h.of_heap hh) opens_own started (by kernel_rfl) Tryd.func7
    (ChangeSpec.witness_at (enc := enc) (C := Tryd.checked) (os := os) (X := fun w _ => laidMetH Tryd.prog Rows.woeOpensRow.laid w) false (laidWorldopens os) #[.int .i64 0, .slice none 0 0] 8 rfl (by kernel_rfl) (by kernel_rfl) (by kernel_rfl) (by kernel_rfl) (by kernel_rfl) (laidMetH_of_parts (laid_metopens os _) (by kernel_rfl))) ?_
  intro W base args ds gs before hval hW _ _ hL _
  obtain ⟨al, ha, hnd, hcs⟩ := sentsopens hL
  obtain ⟨S, hS⟩ := sen_of ha hnd hcs
  have hg : Hnd W := handleopens hL
  exact law_goalW opens_laidOut (fn := Tryd.f7) (s := Rows.woeOpensSpec) (l := [.int .i64, .sl 3 [.int .i64]]) (tb := 4) (by kernel_rfl) (by kernel_rfl) rfl rfl Tryd.underlying4
    (fun H ds h => by
      match ds, h with
      | [_, _], _ => exact ⟨rfl, rfl, rfl⟩) (fun hf => by
      obtain ⟨n, v, l, rfl, hl⟩ := fit2 hf
      exact opens_walk n l v S W hS hg hl) hval hW
theorem opens_holds : Rows.WoeOpensSaid :=
  OpenClaim.holds_of_wide 7 Tryd.f7 rfl rfl rfl rfl rfl rfl rfl ⟨rfl, rfl, rfl, rfl, rfl⟩ rfl rfl rfl rfl rfl (by kernel_rfl) Tryd.func7 (by kernel_rfl)
    (of_decide_eq_true (by kernel_rfl)) (by unfold Func.isWrapper; first | (rw [if_pos (by decide +kernel)]; kernel_rfl) | (rw [if_neg (by decide +kernel)]; exact ⟨rfl, rfl⟩))
    (fun os started H enc _ => opens_lifted os started H enc)
theorem opens_card : Rows.WoeOpensCardSaid :=
  Claim7.holds_tied_plain_at .later [] [.handle, .sentinel, .sentinel, .sentinel, .sentinel, .sentinel, .sentinel, .sentinel, .sentinel, .sentinel, .sentinel, .sentinel] true (true, "c47f3fa14db996cff11e0f6a1974ea1a39ea6ef69fc923d4838eb8eb346e4df8") true
    opens_holds (fun _ h => by cases h) (by kernel_rfl) (fun _ h => by cases h) woeOpens_row_tie rfl ⟨rfl, rfl⟩ (by kernel_rfl) rfl
    (fun f fn hf hfn => by
      obtain rfl : f = 7 := Option.some.inj ((show Tryd.prog.funcNamed "sexton/sextonlaw01.WoeOpens" = some 7 by kernel_rfl).symm.trans hf) |>.symm
      obtain rfl : fn = Tryd.f7 := (Option.some.inj (Tryd.func7.symm.trans hfn)).symm
      refine ⟨by kernel_rfl, fun j t ht => ?_⟩
      rw [Tryd.params7] at ht
      rcases j with _ | _ | j
      · obtain rfl : t = 3 := by simpa using ht.symm
        exact (show Tryd.prog.wantsStandIn 3 = false by kernel_rfl)
      · obtain rfl : t = 22 := by simpa using ht.symm
        exact (show Tryd.prog.wantsStandIn 22 = false by kernel_rfl)
      · simp at ht)
    (by kernel_rfl)
end Go.Proofs.YtkpbbhcdmkmnfaaDoor
