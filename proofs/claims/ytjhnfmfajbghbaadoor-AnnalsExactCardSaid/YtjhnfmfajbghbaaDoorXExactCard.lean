/- 'AnnalsExact' answers true whatever the input, and the input reads behind the call as it read before; what its listed variables read is tied to the program's text. -/
import Derived.Test.YtjhnfmfajbghbaaDoorRows
import Derived.Test.YtjhnfmfajbghbaaDoorTie
import Derived.Test.YtjhnfmfajbghbaaDoorCards
import Derived.Test.YtjhnfmfajbghbaaDoorXExact
import Derived.Test.YtjhnfmfajbghbaaDoorRexUW
import Derived.ChangeSame
import Derived.ChangeVars
import Derived.JoinedOf
import Derived.RowKit
import Derived.RowKitTokens
import Derived.LaidLaws
import Derived.LaidHandle
import Derived.Stop.Joined
import Derived.Stop.LaidErr
import Derived.ProofKit
import Derived.SevenTiedAt
set_option linter.unusedSimpArgs false
set_option linter.unusedVariables false
namespace Go.Proofs.YtjhnfmfajbghbaaDoor
open Go Go.ChangeShapes Go.WideShapes Go.RowKit Go.Rex
theorem exact_own : ownKnob Tryd.prog.godebug = none := by kernel_rfl
theorem exact_laidOut : laidOutB Tryd.prog = true := by kernel_rfl
theorem exact_cellsE : Tryd.prog.cellsOf 111 = 1 := by kernel_rfl
theorem exact_cellsS : Tryd.prog.cellsOf 9 = 1 := by kernel_rfl
theorem exact_star : "*" ++ "errors.errorString" = "*errors.errorString" := by decide
theorem exact_row (u : TypeId) (h : Tryd.prog.typeName? 3 u = some "*errors.errorString") : u = 85 :=
  typeName_ptr_named (nm := "errors.errorString") (by rw [exact_star]; kernel_rfl) (by kernel_rfl) (by decide) u (by rw [exact_star]; exact h)
def slexact : Sents := [("sexton/api.ErrArg", 0, [97, 110, 32, 97, 114, 103, 117, 109, 101, 110, 116, 32, 116, 104, 97, 116, 32, 99, 97, 110, 39, 116, 32, 98, 101]), ("sexton/api.ErrNil", 2, [97, 32, 110, 105, 108, 32, 116, 104, 105, 110, 103]), ("sexton/api.ErrFull", 3, [110, 111, 32, 114, 111, 111, 109]), ("sexton/api.ErrNone", 4, [116, 104, 101, 114, 101, 32, 105, 115, 32, 110, 111, 110, 101]), ("sexton/api.ErrState", 1, [110, 111, 116, 32, 110, 111, 119]), ("sexton/api.ErrFreed", 5, [97, 32, 115, 108, 111, 116, 32, 116, 104, 97, 116, 32, 105, 115, 32, 102, 114, 101, 101]), ("sexton/api.ErrStale", 6, [97, 32, 115, 108, 111, 116, 32, 116, 104, 97, 116, 32, 105, 115, 32, 97, 110, 111, 116, 104, 101, 114, 32, 111, 110, 101, 32, 110, 111, 119]), ("sexton/api.ErrTwice", 7, [100, 111, 110, 101, 32, 97, 108, 114, 101, 97, 100, 121]), ("sexton/api.ErrLeft", 8, [97, 32, 102, 114, 101, 101, 32, 115, 108, 111, 116, 32, 116, 104, 97, 116, 32, 99, 97, 110, 32, 98, 101, 32, 114, 101, 97, 99, 104, 101, 100]), ("sexton/api.ErrLong", 9, [116, 111, 111, 32, 108, 111, 110, 103]), ("sexton/api.ErrWord", 10, [110, 111, 32, 119, 111, 114, 100])]
abbrev sexact0 : ByteArray := { data := #[97, 110, 32, 97, 114, 103, 117, 109, 101, 110, 116, 32, 116, 104, 97, 116, 32, 99, 97, 110, 39, 116, 32, 98, 101] }
abbrev sexact1 : ByteArray := { data := #[97, 32, 110, 105, 108, 32, 116, 104, 105, 110, 103] }
abbrev sexact2 : ByteArray := { data := #[110, 111, 32, 114, 111, 111, 109] }
abbrev sexact3 : ByteArray := { data := #[116, 104, 101, 114, 101, 32, 105, 115, 32, 110, 111, 110, 101] }
abbrev sexact4 : ByteArray := { data := #[110, 111, 116, 32, 110, 111, 119] }
abbrev sexact5 : ByteArray := { data := #[97, 32, 115, 108, 111, 116, 32, 116, 104, 97, 116, 32, 105, 115, 32, 102, 114, 101, 101] }
abbrev sexact6 : ByteArray := { data := #[97, 32, 115, 108, 111, 116, 32, 116, 104, 97, 116, 32, 105, 115, 32, 97, 110, 111, 116, 104, 101, 114, 32, 111, 110, 101, 32, 110, 111, 119] }
abbrev sexact7 : ByteArray := { data := #[100, 111, 110, 101, 32, 97, 108, 114, 101, 97, 100, 121] }
abbrev sexact8 : ByteArray := { data := #[97, 32, 102, 114, 101, 101, 32, 115, 108, 111, 116, 32, 116, 104, 97, 116, 32, 99, 97, 110, 32, 98, 101, 32, 114, 101, 97, 99, 104, 101, 100] }
abbrev sexact9 : ByteArray := { data := #[116, 111, 111, 32, 108, 111, 110, 103] }
abbrev sexact10 : ByteArray := { data := #[110, 111, 32, 119, 111, 114, 100] }
noncomputable def lowexact : Nat := (World.holding Tryd.prog default ⟨#[], #[], []⟩).heap.size
def setSexact (h : Array Obj) (g : Nat) (a : Addr) : Array Obj :=
  h.modify g fun
      | .cells _ t frozen => .cells #[.iface 85 (.pointer (some a))] t frozen
      | o => o
noncomputable def laidWorldexact (os : Os) : World :=
  let w0 := World.holding Tryd.prog os ⟨#[.cells #[.string sexact0] 111, .cells #[.string sexact1] 111, .cells #[.string sexact2] 111, .cells #[.string sexact3] 111, .cells #[.string sexact4] 111, .cells #[.string sexact5] 111, .cells #[.string sexact6] 111, .cells #[.string sexact7] 111, .cells #[.string sexact8] 111, .cells #[.string sexact9] 111, .cells #[.string sexact10] 111], #[], []⟩
  { w0 with heap := (setSexact (setSexact (setSexact (setSexact (setSexact (setSexact (setSexact (setSexact (setSexact (setSexact (setSexact w0.heap 0 ⟨lowexact + 0, 0, none⟩) 2 ⟨lowexact + 1, 0, none⟩) 3 ⟨lowexact + 2, 0, none⟩) 4 ⟨lowexact + 3, 0, none⟩) 1 ⟨lowexact + 4, 0, none⟩) 5 ⟨lowexact + 5, 0, none⟩) 6 ⟨lowexact + 6, 0, none⟩) 7 ⟨lowexact + 7, 0, none⟩) 8 ⟨lowexact + 8, 0, none⟩) 9 ⟨lowexact + 9, 0, none⟩) 10 ⟨lowexact + 10, 0, none⟩) }
theorem laid_metexact (os : Os) (args : Array Value) : laidMet Tryd.prog Rows.annalsExactRow.laid ((laidWorldexact os).forCall (fun _ _ => 0) ⟨#[], args, []⟩).memory :=
  laidMet_of_run (ps := [.cell 0 0, .cell (lowexact + 0) 0, .cell 2 0, .cell (lowexact + 1) 0, .cell 3 0, .cell (lowexact + 2) 0, .cell 4 0, .cell (lowexact + 3) 0, .cell 1 0, .cell (lowexact + 4) 0, .cell 5 0, .cell (lowexact + 5) 0, .cell 6 0, .cell (lowexact + 6) 0, .cell 7 0, .cell (lowexact + 7) 0, .cell 8 0, .cell (lowexact + 8) 0, .cell 9 0, .cell (lowexact + 9) 0, .cell 10 0, .cell (lowexact + 10) 0]) 8 (by kernel_rfl) (by kernel_rfl) (by kernel_rfl)
theorem sentsexact {W : World} (h : laidMet Tryd.prog Rows.annalsExactRow.laid W) : ∃ al : List Addr, SentOK W (slexact.ss 85 111) al ∧ al.Nodup ∧ ∀ a ∈ al, ∃ c t, W.heap[a.block]? = some (.cells c t (0, 0)) :=
  sents_of_laid (sl := slexact) (nm := "*errors.errorString") Tryd.underlying26 exact_row Tryd.underlying85 Tryd.underlying111 rfl rfl Tryd.underlying9 exact_cellsE exact_cellsS (by kernel_rfl) h
theorem exact_drop {W : World} {x : Nat × TypeId × TypeId} {r : List (Nat × TypeId × TypeId)} : ∀ {al : List Addr}, SentOK W (x :: r) al → ∃ al', SentOK W r al'
  | [], h => h.elim
  | _ :: al', h => ⟨al', h.2.2⟩
set_option maxRecDepth 100000 in
theorem exact_lifted (os : Os) (started : os.Started) (H : Type) (enc : TypeId × Value → H) :
    ReturnsInHanded {} Tryd.checked os 7 .any (fun w args => (Rows.annalsExactSpec.pre enc Tryd.prog Tryd.f7 [] false w args ∧ laidMetH Tryd.prog Rows.annalsExactRow.laid w) ∧ sizedMet enc Tryd.prog Tryd.f7 (OpenSpec.ofChange Rows.annalsExactSpec) false w args)
      (Rows.annalsExactSpec.post enc Tryd.prog Tryd.f7 false true false false) := by
  refine returnsInHanded_of_change_and (C := Tryd.checked) (X := fun w _ => laidMetH Tryd.prog Rows.annalsExactRow.laid w) (fun _ _ _ hh h => h.of_heap hh) exact_own started (by kernel_rfl) Tryd.func7
    (ChangeSpec.witness_at (enc := enc) (C := Tryd.checked) (os := os) (X := fun w _ => laidMetH Tryd.prog Rows.annalsExactRow.laid w) false (laidWorldexact os) #[.slice none 0 0, .slice none 0 0, .slice none 0 0] 8 rfl (by kernel_rfl) (by kernel_rfl) (by kernel_rfl) (by kernel_rfl) (by kernel_rfl) (laidMetH_of_parts (laid_metexact os _) (by kernel_rfl))) ?_
  intro W base args ds gs before hval hW _ _ hL _
  obtain ⟨al, ha, hnd, hcs⟩ := sentsexact hL
  obtain ⟨al2, ha2, hnd2, hcs2⟩ := exact_pick ha hnd hcs
  exact law_goalG exact_laidOut (fn := Tryd.f7) (s := Rows.annalsExactSpec) (sh := shX) (tb := 4) (by kernel_rfl) (by kernel_rfl) rfl rfl Tryd.underlying4
    (fun H ds h => by
      match ds, h with
      | [_, _, _], _ => exact ⟨rfl, rfl, rfl⟩) ha2 hnd2 hcs2 rfl rfl exact_con hval hW
theorem exact_holds : Rows.AnnalsExactSaid :=
  OpenClaim.holds_of_wide 7 Tryd.f7 rfl rfl rfl rfl rfl rfl rfl ⟨rfl, rfl, rfl, rfl, rfl⟩ rfl rfl rfl rfl rfl (by kernel_rfl) Tryd.func7 (by kernel_rfl)
    (of_decide_eq_true (by kernel_rfl)) (by unfold Func.isWrapper; first | (rw [if_pos (by decide +kernel)]; kernel_rfl) | (rw [if_neg (by decide +kernel)]; exact ⟨rfl, rfl⟩))
    (fun os started H enc _ => exact_lifted os started H enc)
theorem exact_card : Rows.AnnalsExactCardSaid :=
  Claim7.holds_tied_plain_at .later [] [.sentinel, .sentinel, .sentinel, .sentinel, .sentinel, .sentinel, .sentinel, .sentinel, .sentinel, .sentinel, .sentinel] true (true, "2d91c322af8c9f18a627864bde6159f5874623d6ef4687e8e0fa68515ccf58d2") true
    exact_holds (fun _ h => by cases h) (by kernel_rfl) (fun _ h => by cases h) annalsExact_row_tie rfl ⟨rfl, rfl⟩ (by kernel_rfl) rfl
    (fun f fn hf hfn => by
      obtain rfl : f = 7 := Option.some.inj ((show Tryd.prog.funcNamed "sexton/sextonlaw15.AnnalsExact" = some 7 by kernel_rfl).symm.trans hf) |>.symm
      obtain rfl : fn = Tryd.f7 := (Option.some.inj (Tryd.func7.symm.trans hfn)).symm
      refine ⟨by kernel_rfl, fun j t ht => ?_⟩
      rw [Tryd.params7] at ht
      rcases j with _ | _ | _ | j
      · obtain rfl : t = 45 := by simpa using ht.symm
        exact (show Tryd.prog.wantsStandIn 45 = false by kernel_rfl)
      · obtain rfl : t = 22 := by simpa using ht.symm
        exact (show Tryd.prog.wantsStandIn 22 = false by kernel_rfl)
      · obtain rfl : t = 23 := by simpa using ht.symm
        exact (show Tryd.prog.wantsStandIn 23 = false by kernel_rfl)
      · simp at ht)
    (by kernel_rfl)
end Go.Proofs.YtjhnfmfajbghbaaDoor
