/- 'PileEmpty' answers true whatever the input, and the input reads behind the call as it read before; what its listed variables read is tied to the program's text. -/
import Derived.Test.YthomdlajobnmnaaGreatDoorRows
import Derived.Test.YthomdlajobnmnaaGreatDoorTie
import Derived.Test.YthomdlajobnmnaaGreatDoorCards
import Derived.ChangeSame
import Derived.ChangeVars
import Derived.JoinedOf
import Derived.RowKit
import Derived.RowKitTokens
import Derived.LaidLaws
import Derived.LaidHandle
import Derived.Stop.Joined
import Derived.Stop.LaidErr
import Derived.ProofKit
import Derived.SevenTiedAt
import Derived.Test.YthomdlajobnmnaaGreatDoorV11
import Derived.Test.YthomdlajobnmnaaGreatDoorWEmpL
set_option linter.unusedSimpArgs false
set_option linter.unusedVariables false
namespace Go.Proofs.YthomdlajobnmnaaGreatDoor
open Go Go.ChangeShapes Go.WideShapes Go.RowKit Go.Rex
theorem Q8:ownKnob Tryz.prog.godebug=none:=by kernel_rfl
theorem GG:laidOutB Tryz.prog=true:=by kernel_rfl
theorem Km:Tryz.prog.cellsOf 249=1:=by kernel_rfl
theorem Ko:Tryz.prog.cellsOf 9=1:=by kernel_rfl
theorem Ei : "*" ++ "errors.errorString" = "*errors.errorString" := by decide
theorem Q9 (u:TypeId) (h:Tryz.prog.typeName? 3 u=some "*errors.errorString"):u=224 :=
 typeName_ptr_named (nm := "errors.errorString") (by rw [Ei];kernel_rfl) (by kernel_rfl) (by decide) u (by rw [Ei];exact h)
def Mc:og:=[("sexton/api.ErrArg",0,[97,110,32,97,114,103,117,109,101,110,116,32,116,104,97,116,32,99,97,110,39,116,32,98,101]),("sexton/api.ErrNil",1,[97,32,110,105,108,32,116,104,105,110,103]),("sexton/api.ErrState",4,[110,111,116,32,110,111,119]),("sexton/api.ErrFreed",5,[97,32,115,108,111,116,32,116,104,97,116,32,105,115,32,102,114,101,101]),("sexton/api.ErrStale",7,[97,32,115,108,111,116,32,116,104,97,116,32,105,115,32,97,110,111,116,104,101,114,32,111,110,101,32,110,111,119]),("sexton/api.ErrTwice",6,[100,111,110,101,32,97,108,114,101,97,100,121]),("sexton/api.ErrLeft",2,[97,32,102,114,101,101,32,115,108,111,116,32,116,104,97,116,32,99,97,110,32,98,101,32,114,101,97,99,104,101,100])]
abbrev Wj:ByteArray:={data:=#[97,110,32,97,114,103,117,109,101,110,116,32,116,104,97,116,32,99,97,110,39,116,32,98,101]}
abbrev Wl:ByteArray:={data:=#[97,32,110,105,108,32,116,104,105,110,103]}
abbrev Wm:ByteArray:={data:=#[110,111,116,32,110,111,119]}
abbrev Wn:ByteArray:={data:=#[97,32,115,108,111,116,32,116,104,97,116,32,105,115,32,102,114,101,101]}
abbrev Wo:ByteArray:={data:=#[97,32,115,108,111,116,32,116,104,97,116,32,105,115,32,97,110,111,116,104,101,114,32,111,110,101,32,110,111,119]}
abbrev Wp:ByteArray:={data:=#[100,111,110,101,32,97,108,114,101,97,100,121]}
abbrev Wq:ByteArray:={data:=#[97,32,102,114,101,101,32,115,108,111,116,32,116,104,97,116,32,99,97,110,32,98,101,32,114,101,97,99,104,101,100]}
noncomputable def gP:Nat:=(World.holding Tryz.prog default ⟨#[],#[],[]⟩).heap.size
def lT (h:Array Obj) (g:Nat) (a:Addr):Array Obj :=
 h.modify g fun
   | .cells _ t frozen=>.cells #[.iface 224 (.pointer (some a))] t frozen
   | o=>o
noncomputable def vw (os:Os):World :=
 let w0:=World.holding Tryz.prog os ⟨#[.cells #[.string Wj] 249,.cells #[.string Wl] 249,.cells #[.string Wm] 249,.cells #[.string Wn] 249,.cells #[.string Wo] 249,.cells #[.string Wp] 249,.cells #[.string Wq] 249],#[],[]⟩
 {w0 with heap:=(lT (lT (lT (lT (lT (lT (lT w0.heap 0 ⟨gP+0,0,none⟩) 1 ⟨gP+1,0,none⟩) 4 ⟨gP+2,0,none⟩) 5 ⟨gP+3,0,none⟩) 7 ⟨gP+4,0,none⟩) 6 ⟨gP+5,0,none⟩) 2 ⟨gP+6,0,none⟩)}
theorem GH (os:Os) (args:Array Value):laidMet Tryz.prog Rows.pileEmptyRow.laid ((vw os).forCall (fun _ _=>0) ⟨#[],args,[]⟩).memory :=
 laidMet_of_run (ps:=[.cell 0 0,.cell (gP+0) 0,.cell 1 0,.cell (gP+1) 0,.cell 4 0,.cell (gP+2) 0,.cell 5 0,.cell (gP+3) 0,.cell 7 0,.cell (gP+4) 0,.cell 6 0,.cell (gP+5) 0,.cell 2 0,.cell (gP+6) 0]) 8 (by kernel_rfl) (by kernel_rfl) (by kernel_rfl)
theorem Ow {W:World} (h:laidMet Tryz.prog Rows.pileEmptyRow.laid W):∃al:List Addr,pQ W (Mc.ss 224 249) al∧al.Nodup∧∀a∈al,∃c t,W.heap[a.block]?=some (.cells c t (0,0)) :=
 GD (sl:=Mc) (nm := "*errors.errorString") Tryz.underlying36 Q9 Tryz.underlying224 Tryz.underlying249 rfl rfl Tryz.underlying9 Km Ko (by kernel_rfl) h
set_option maxRecDepth 100000 in
theorem Kq (os:Os) (started:os.Started) (H:Type) (enc:TypeId × Value→H) :
  ReturnsInHanded {} Tryz.checked os 4 .any (fun w args=>(Rows.pileEmptySpec.pre enc Tryz.prog Tryz.f4 [] false w args∧laidMetH Tryz.prog Rows.pileEmptyRow.laid w)∧sizedMet enc Tryz.prog Tryz.f4 (OpenSpec.ofChange Rows.pileEmptySpec) false w args)
   (Rows.pileEmptySpec.post enc Tryz.prog Tryz.f4 false true false false):=by
 refine returnsInHanded_of_change_and (C:=Tryz.checked) (X:=fun w _=>laidMetH Tryz.prog Rows.pileEmptyRow.laid w) (fun _ _ _ hh h=>h.of_heap hh) Q8 started (by kernel_rfl) Tryz.func4
  (ChangeSpec.witness_at (enc:=enc) (C:=Tryz.checked) (os:=os) (X:=fun w _=>laidMetH Tryz.prog Rows.pileEmptyRow.laid w) false (vw os) #[.int .i64 0,.int .i64 0,.slice none 0 0] 8 rfl (by kernel_rfl) (by kernel_rfl) (by kernel_rfl) (by kernel_rfl) (by kernel_rfl) (laidMetH_of_parts (GH os _) (by kernel_rfl))) ?_
 intro W base args ds gs before hval hW _ _ hL _
 obtain ⟨al,ha,hnd,hcs⟩:=Ow hL
 exact Ps GG (fn:=Tryz.f4) (s:=Rows.pileEmptySpec) (sh:=[tV,tV,su]) (tb:=4) (by kernel_rfl) (by kernel_rfl) rfl rfl Tryz.underlying4
  (fun H ds h=>by
    match ds,h with
    | [_,_,_],_=>exact ⟨rfl,rfl,rfl⟩) ha hnd hcs rfl rfl Q7 hval hW
theorem KM:Rows.PileEmptySaid :=
 OpenClaim.holds_of_wide 4 Tryz.f4 rfl rfl rfl rfl rfl rfl rfl ⟨rfl,rfl,rfl,rfl,rfl⟩ rfl rfl rfl rfl rfl (by kernel_rfl) Tryz.func4 (by kernel_rfl)
  (of_decide_eq_true (by kernel_rfl)) (by unfold Func.isWrapper;first | (rw [if_pos (by decide +kernel)];kernel_rfl) | (rw [if_neg (by decide +kernel)];exact ⟨rfl,rfl⟩))
  (fun os started H enc _=>Kq os started H enc)
theorem empty_card:Rows.PileEmptyCardSaid :=
 Claim7.holds_tied_plain_at .later [] [.sentinel,.sentinel,.sentinel,.sentinel,.sentinel,.sentinel,.sentinel] true (true, "efba8ee1ec4f9df9f28ae7153f3d6aefa31e2cfeae81c69304947112a85292a8") true
  KM (fun _ h=>by cases h) (by kernel_rfl) (fun _ h=>by cases h) pileEmpty_row_tie rfl ⟨rfl,rfl⟩ (by kernel_rfl) rfl
  (fun f fn hf hfn=>by
    obtain rfl:f=4:=Option.some.inj ((show Tryz.prog.funcNamed "sexton/sextonlaw07.PileEmpty" = some 4 by kernel_rfl).symm.trans hf) |>.symm
    obtain rfl:fn=Tryz.f4:=(Option.some.inj (Tryz.func4.symm.trans hfn)).symm
    refine ⟨by kernel_rfl,fun j t ht=>?_⟩
    rw [Tryz.params4] at ht
    rcases j with _ | _ | _ | j
    · obtain rfl:t=3:=by simpa using ht.symm
      exact (show Tryz.prog.wantsStandIn 3=false by kernel_rfl)
    · obtain rfl:t=3:=by simpa using ht.symm
      exact (show Tryz.prog.wantsStandIn 3=false by kernel_rfl)
    · obtain rfl:t=23:=by simpa using ht.symm
      exact (show Tryz.prog.wantsStandIn 23=false by kernel_rfl)
    · simp at ht)
  (by kernel_rfl)
end Go.Proofs.YthomdlajobnmnaaGreatDoor
