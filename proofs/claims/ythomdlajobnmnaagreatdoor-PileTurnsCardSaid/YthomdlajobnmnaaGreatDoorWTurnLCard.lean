/- 'PileTurns' answers true whatever the input, and the input reads behind the call as it read before; what its listed variables read is tied to the program's text. -/
import Derived.Test.YthomdlajobnmnaaGreatDoorRows
import Derived.Test.YthomdlajobnmnaaGreatDoorTie
import Derived.Test.YthomdlajobnmnaaGreatDoorCards
import Derived.ChangeSame
import Derived.ChangeVars
import Derived.JoinedOf
import Derived.RowKit
import Derived.RowKitTokens
import Derived.LaidLaws
import Derived.LaidHandle
import Derived.Stop.Joined
import Derived.Stop.LaidErr
import Derived.ProofKit
import Derived.SevenTiedAt
import Derived.Test.YthomdlajobnmnaaGreatDoorT11
import Derived.Test.YthomdlajobnmnaaGreatDoorWTurnL
set_option linter.unusedSimpArgs false
set_option linter.unusedVariables false
namespace Go.Proofs.YthomdlajobnmnaaGreatDoor
open Go Go.ChangeShapes Go.WideShapes Go.RowKit Go.Rex
theorem OT:ownKnob Tryz.prog.godebug=none:=by kernel_rfl
theorem FL:laidOutB Tryz.prog=true:=by kernel_rfl
theorem G9:Tryz.prog.cellsOf 249=1:=by kernel_rfl
theorem Ha:Tryz.prog.cellsOf 9=1:=by kernel_rfl
theorem AX : "*" ++ "errors.errorString" = "*errors.errorString" := by decide
theorem OU (u:TypeId) (h:Tryz.prog.typeName? 3 u=some "*errors.errorString"):u=224 :=
 typeName_ptr_named (nm := "errors.errorString") (by rw [AX];kernel_rfl) (by kernel_rfl) (by decide) u (by rw [AX];exact h)
def KQ:om:=[("sexton/api.ErrArg",0,[97,110,32,97,114,103,117,109,101,110,116,32,116,104,97,116,32,99,97,110,39,116,32,98,101]),("sexton/api.ErrNil",1,[97,32,110,105,108,32,116,104,105,110,103]),("sexton/api.ErrState",4,[110,111,116,32,110,111,119]),("sexton/api.ErrFreed",5,[97,32,115,108,111,116,32,116,104,97,116,32,105,115,32,102,114,101,101]),("sexton/api.ErrStale",7,[97,32,115,108,111,116,32,116,104,97,116,32,105,115,32,97,110,111,116,104,101,114,32,111,110,101,32,110,111,119]),("sexton/api.ErrTwice",6,[100,111,110,101,32,97,108,114,101,97,100,121])]
abbrev Uo:ByteArray:={data:=#[97,110,32,97,114,103,117,109,101,110,116,32,116,104,97,116,32,99,97,110,39,116,32,98,101]}
abbrev Uq:ByteArray:={data:=#[97,32,110,105,108,32,116,104,105,110,103]}
abbrev Ur:ByteArray:={data:=#[110,111,116,32,110,111,119]}
abbrev Us:ByteArray:={data:=#[97,32,115,108,111,116,32,116,104,97,116,32,105,115,32,102,114,101,101]}
abbrev Ut:ByteArray:={data:=#[97,32,115,108,111,116,32,116,104,97,116,32,105,115,32,97,110,111,116,104,101,114,32,111,110,101,32,110,111,119]}
abbrev Uu:ByteArray:={data:=#[100,111,110,101,32,97,108,114,101,97,100,121]}
noncomputable def gX:Nat:=(World.holding Tryz.prog default ⟨#[],#[],[]⟩).heap.size
def mo (h:Array Obj) (g:Nat) (a:Addr):Array Obj :=
 h.modify g fun
   | .cells _ t frozen=>.cells #[.iface 224 (.pointer (some a))] t frozen
   | o=>o
noncomputable def uf (os:Os):World :=
 let w0:=World.holding Tryz.prog os ⟨#[.cells #[.string Uo] 249,.cells #[.string Uq] 249,.cells #[.string Ur] 249,.cells #[.string Us] 249,.cells #[.string Ut] 249,.cells #[.string Uu] 249],#[],[]⟩
 {w0 with heap:=(mo (mo (mo (mo (mo (mo w0.heap 0 ⟨gX+0,0,none⟩) 1 ⟨gX+1,0,none⟩) 4 ⟨gX+2,0,none⟩) 5 ⟨gX+3,0,none⟩) 7 ⟨gX+4,0,none⟩) 6 ⟨gX+5,0,none⟩)}
theorem FM (os:Os) (args:Array Value):laidMet Tryz.prog Rows.pileTurnsRow.laid ((uf os).forCall (fun _ _=>0) ⟨#[],args,[]⟩).memory :=
 laidMet_of_run (ps:=[.cell 0 0,.cell (gX+0) 0,.cell 1 0,.cell (gX+1) 0,.cell 4 0,.cell (gX+2) 0,.cell 5 0,.cell (gX+3) 0,.cell 7 0,.cell (gX+4) 0,.cell 6 0,.cell (gX+5) 0]) 8 (by kernel_rfl) (by kernel_rfl) (by kernel_rfl)
theorem Lb {W:World} (h:laidMet Tryz.prog Rows.pileTurnsRow.laid W):∃al:List Addr,p9 W (KQ.ss 224 249) al∧al.Nodup∧∀a∈al,∃c t,W.heap[a.block]?=some (.cells c t (0,0)) :=
 G8 (sl:=KQ) (nm := "*errors.errorString") Tryz.underlying36 OU Tryz.underlying224 Tryz.underlying249 rfl rfl Tryz.underlying9 G9 Ha (by kernel_rfl) h
set_option maxRecDepth 100000 in
theorem Hd (os:Os) (started:os.Started) (H:Type) (enc:TypeId × Value→H) :
  ReturnsInHanded {} Tryz.checked os 3 .any (fun w args=>(Rows.pileTurnsSpec.pre enc Tryz.prog Tryz.f3 [] false w args∧laidMetH Tryz.prog Rows.pileTurnsRow.laid w)∧sizedMet enc Tryz.prog Tryz.f3 (OpenSpec.ofChange Rows.pileTurnsSpec) false w args)
   (Rows.pileTurnsSpec.post enc Tryz.prog Tryz.f3 false true false false):=by
 refine returnsInHanded_of_change_and (C:=Tryz.checked) (X:=fun w _=>laidMetH Tryz.prog Rows.pileTurnsRow.laid w) (fun _ _ _ hh h=>h.of_heap hh) OT started (by kernel_rfl) Tryz.func3
  (ChangeSpec.witness_at (enc:=enc) (C:=Tryz.checked) (os:=os) (X:=fun w _=>laidMetH Tryz.prog Rows.pileTurnsRow.laid w) false (uf os) #[.agg #[.int .i64 0,.int .i64 0],.slice none 0 0] 8 rfl (by kernel_rfl) (by kernel_rfl) (by kernel_rfl) (by kernel_rfl) (by kernel_rfl) (laidMetH_of_parts (FM os _) (by kernel_rfl))) ?_
 intro W base args ds gs before hval hW _ _ hL _
 obtain ⟨al,ha,hnd,hcs⟩:=Lb hL
 exact PU FL (fn:=Tryz.f3) (s:=Rows.pileTurnsSpec) (sh:=(KC 2)) (tb:=4) (by kernel_rfl) (by kernel_rfl) rfl rfl Tryz.underlying4
  (fun H ds h=>by
    match ds,h with
    | [_,_],_=>exact ⟨rfl,rfl,rfl⟩) ha hnd hcs rfl rfl Ry hval hW
theorem KR:Rows.PileTurnsSaid :=
 OpenClaim.holds_of_wide 3 Tryz.f3 rfl rfl rfl rfl rfl rfl rfl ⟨rfl,rfl,rfl,rfl,rfl⟩ rfl rfl rfl rfl rfl (by kernel_rfl) Tryz.func3 (by kernel_rfl)
  (of_decide_eq_true (by kernel_rfl)) (by unfold Func.isWrapper;first | (rw [if_pos (by decide +kernel)];kernel_rfl) | (rw [if_neg (by decide +kernel)];exact ⟨rfl,rfl⟩))
  (fun os started H enc _=>Hd os started H enc)
theorem pturns_card:Rows.PileTurnsCardSaid :=
 Claim7.holds_tied_plain_at .later [] [.sentinel,.sentinel,.sentinel,.sentinel,.sentinel,.sentinel] true (true, "efba8ee1ec4f9df9f28ae7153f3d6aefa31e2cfeae81c69304947112a85292a8") true
  KR (fun _ h=>by cases h) (by kernel_rfl) (fun _ h=>by cases h) pileTurns_row_tie rfl ⟨rfl,rfl⟩ (by kernel_rfl) rfl
  (fun f fn hf hfn=>by
    obtain rfl:f=3:=Option.some.inj ((show Tryz.prog.funcNamed "sexton/sextonlaw07.PileTurns" = some 3 by kernel_rfl).symm.trans hf) |>.symm
    obtain rfl:fn=Tryz.f3:=(Option.some.inj (Tryz.func3.symm.trans hfn)).symm
    refine ⟨by kernel_rfl,fun j t ht=>?_⟩
    rw [Tryz.params3] at ht
    rcases j with _ | _ | j
    · obtain rfl:t=22:=by simpa using ht.symm
      exact (show Tryz.prog.wantsStandIn 22=false by kernel_rfl)
    · obtain rfl:t=23:=by simpa using ht.symm
      exact (show Tryz.prog.wantsStandIn 23=false by kernel_rfl)
    · simp at ht)
  (by kernel_rfl)
end Go.Proofs.YthomdlajobnmnaaGreatDoor
