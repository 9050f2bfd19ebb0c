/- 'BoardHears' answers true whatever the input, and the input reads behind the call as it read before; what its listed variable reads is tied to the program's text. -/
import Derived.Test.YtlfhjmfelbomaaaDoorBHearsRow
import Derived.Test.YtlfhjmfelbomaaaDoorTie
import Derived.Test.YtlfhjmfelbomaaaDoorCards
import Derived.SevenTiedAt
set_option linter.unusedSimpArgs false
set_option linter.unusedVariables false
namespace Go.Proofs.YtlfhjmfelbomaaaDoor
open Go
theorem hears_card : Rows.BoardHearsCardSaid :=
  Claim7.holds_tied_plain_at .later [] [.sentinel] true (true, "828090a87114d5461afac4d74bb14c0b5d74c4d1c254817937def877e92e565c") true
    hears_holds (fun _ h => by cases h) (by kernel_rfl) (fun _ h => by cases h) boardHears_row_tie rfl ⟨rfl, rfl⟩ (by kernel_rfl) rfl
    (fun f fn hf hfn => by
      obtain rfl : f = 7 := Option.some.inj ((show Tryd.prog.funcNamed "sexton/sextonlaw04.BoardHears" = some 7 by kernel_rfl).symm.trans hf) |>.symm
      obtain rfl : fn = Tryd.f7 := (Option.some.inj (Tryd.func7.symm.trans hfn)).symm
      exact ⟨by kernel_rfl, fun j t ht => by
        rw [Tryd.params7] at ht
        have h3 : t = 48 := by
          rcases j with _ | _ | j
          · simpa using ht.symm
          · simpa using ht.symm
          · simp at ht
        subst h3
        exact (show Tryd.prog.wantsStandIn 48 = false by kernel_rfl)⟩)
    (by kernel_rfl)
end Go.Proofs.YtlfhjmfelbomaaaDoor
