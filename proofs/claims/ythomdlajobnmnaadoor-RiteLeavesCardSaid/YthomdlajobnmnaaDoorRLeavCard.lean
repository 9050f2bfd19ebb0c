/- 'RiteLeaves' answers true whatever the input, and the input reads behind the call as it read before; what its listed variables read is tied to the program's text. -/
import Derived.Test.YthomdlajobnmnaaDoorRows
import Derived.Test.YthomdlajobnmnaaDoorTie
import Derived.Test.YthomdlajobnmnaaDoorCards
import Derived.ChangeSame
import Derived.ChangeVars
import Derived.JoinedOf
import Derived.RowKit
import Derived.RowKitTokens
import Derived.LaidLaws
import Derived.LaidHandle
import Derived.Stop.Joined
import Derived.Stop.LaidErr
import Derived.ProofKit
import Derived.SevenTiedAt
import Derived.Test.YthomdlajobnmnaaDoorQ10
import Derived.Test.YthomdlajobnmnaaDoorRLeav
set_option linter.unusedSimpArgs false
set_option linter.unusedVariables false
namespace Go.Proofs.YthomdlajobnmnaaDoor
open Go Go.ChangeShapes Go.WideShapes Go.RowKit Go.Rex
theorem Oh:ownKnob Tryd.prog.godebug=none:=by kernel_rfl
theorem FL:laidOutB Tryd.prog=true:=by kernel_rfl
theorem Hd:Tryd.prog.cellsOf 198=1:=by kernel_rfl
theorem He:Tryd.prog.cellsOf 9=1:=by kernel_rfl
theorem Bi : "*" ++ "errors.errorString" = "*errors.errorString" := by decide
theorem Oi (u:TypeId) (h:Tryd.prog.typeName? 3 u=some "*errors.errorString"):u=177 :=
 typeName_ptr_named (nm := "errors.errorString") (by rw [Bi];kernel_rfl) (by kernel_rfl) (by decide) u (by rw [Bi];exact h)
def Kv:nZ:=[("sexton/api.ErrArg",0,[97,110,32,97,114,103,117,109,101,110,116,32,116,104,97,116,32,99,97,110,39,116,32,98,101]),("sexton/api.ErrNil",2,[97,32,110,105,108,32,116,104,105,110,103]),("sexton/api.ErrState",4,[110,111,116,32,110,111,119]),("sexton/api.ErrFreed",3,[97,32,115,108,111,116,32,116,104,97,116,32,105,115,32,102,114,101,101]),("sexton/api.ErrStale",1,[97,32,115,108,111,116,32,116,104,97,116,32,105,115,32,97,110,111,116,104,101,114,32,111,110,101,32,110,111,119]),("sexton/api.ErrTwice",5,[100,111,110,101,32,97,108,114,101,97,100,121])]
abbrev TN:ByteArray:={data:=#[97,110,32,97,114,103,117,109,101,110,116,32,116,104,97,116,32,99,97,110,39,116,32,98,101]}
abbrev TP:ByteArray:={data:=#[97,32,110,105,108,32,116,104,105,110,103]}
abbrev TQ:ByteArray:={data:=#[110,111,116,32,110,111,119]}
abbrev TR:ByteArray:={data:=#[97,32,115,108,111,116,32,116,104,97,116,32,105,115,32,102,114,101,101]}
abbrev TS:ByteArray:={data:=#[97,32,115,108,111,116,32,116,104,97,116,32,105,115,32,97,110,111,116,104,101,114,32,111,110,101,32,110,111,119]}
abbrev TT:ByteArray:={data:=#[100,111,110,101,32,97,108,114,101,97,100,121]}
noncomputable def iR:Nat:=(World.holding Tryd.prog default ⟨#[],#[],[]⟩).heap.size
def nJ (h:Array Obj) (g:Nat) (a:Addr):Array Obj :=
 h.modify g fun
   | .cells _ t frozen=>.cells #[.iface 177 (.pointer (some a))] t frozen
   | o=>o
noncomputable def vg (os:Os):World :=
 let w0:=World.holding Tryd.prog os ⟨#[.cells #[.string TN] 198,.cells #[.string TP] 198,.cells #[.string TQ] 198,.cells #[.string TR] 198,.cells #[.string TS] 198,.cells #[.string TT] 198],#[],[]⟩
 {w0 with heap:=(nJ (nJ (nJ (nJ (nJ (nJ w0.heap 0 ⟨iR+0,0,none⟩) 2 ⟨iR+1,0,none⟩) 4 ⟨iR+2,0,none⟩) 3 ⟨iR+3,0,none⟩) 1 ⟨iR+4,0,none⟩) 5 ⟨iR+5,0,none⟩)}
theorem FM (os:Os) (args:Array Value):laidMet Tryd.prog Rows.riteLeavesRow.laid ((vg os).forCall (fun _ _=>0) ⟨#[],args,[]⟩).memory :=
 laidMet_of_run (ps:=[.cell 0 0,.cell (iR+0) 0,.cell 2 0,.cell (iR+1) 0,.cell 4 0,.cell (iR+2) 0,.cell 3 0,.cell (iR+3) 0,.cell 1 0,.cell (iR+4) 0,.cell 5 0,.cell (iR+5) 0]) 8 (by kernel_rfl) (by kernel_rfl) (by kernel_rfl)
theorem KP {W:World} (h:laidMet Tryd.prog Rows.riteLeavesRow.laid W):∃al:List Addr,pz W (Kv.ss 177 198) al∧al.Nodup∧∀a∈al,∃c t,W.heap[a.block]?=some (.cells c t (0,0)) :=
 yx (sl:=Kv) (nm := "*errors.errorString") Tryd.underlying27 Oi Tryd.underlying177 Tryd.underlying198 rfl rfl Tryd.underlying9 Hd He (by kernel_rfl) h
set_option maxRecDepth 100000 in
theorem Hf (os:Os) (started:os.Started) (H:Type) (enc:TypeId × Value→H) :
  ReturnsInHanded {} Tryd.checked os 8 .any (fun w args=>(Rows.riteLeavesSpec.pre enc Tryd.prog Tryd.f8 [] false w args∧laidMetH Tryd.prog Rows.riteLeavesRow.laid w)∧sizedMet enc Tryd.prog Tryd.f8 (OpenSpec.ofChange Rows.riteLeavesSpec) false w args)
   (Rows.riteLeavesSpec.post enc Tryd.prog Tryd.f8 false true false false):=by
 refine returnsInHanded_of_change_and (C:=Tryd.checked) (X:=fun w _=>laidMetH Tryd.prog Rows.riteLeavesRow.laid w) (fun _ _ _ hh h=>h.of_heap hh) Oh started (by kernel_rfl) Tryd.func8
  (ChangeSpec.witness_at (enc:=enc) (C:=Tryd.checked) (os:=os) (X:=fun w _=>laidMetH Tryd.prog Rows.riteLeavesRow.laid w) false (vg os) #[.agg #[.int .i64 0,.int .i64 0,.int .i64 0,.int .i64 0],.slice none 0 0] 8 rfl (by kernel_rfl) (by kernel_rfl) (by kernel_rfl) (by kernel_rfl) (by kernel_rfl) (laidMetH_of_parts (FM os _) (by kernel_rfl))) ?_
 intro W base args ds gs before hval hW _ _ hL _
 obtain ⟨al,ha,hnd,hcs⟩:=KP hL
 exact Gu FL (fn:=Tryd.f8) (s:=Rows.riteLeavesSpec) (sh:=(u6 4)) (tb:=4) (by kernel_rfl) (by kernel_rfl) rfl rfl Tryd.underlying4
  (fun H ds h=>by
    match ds,h with
    | [_,_],_=>exact ⟨rfl,rfl,rfl⟩) ha hnd hcs rfl rfl Og hval hW
theorem Kw:Rows.RiteLeavesSaid :=
 OpenClaim.holds_of_wide 8 Tryd.f8 rfl rfl rfl rfl rfl rfl rfl ⟨rfl,rfl,rfl,rfl,rfl⟩ rfl rfl rfl rfl rfl (by kernel_rfl) Tryd.func8 (by kernel_rfl)
  (of_decide_eq_true (by kernel_rfl)) (by unfold Func.isWrapper;first | (rw [if_pos (by decide +kernel)];kernel_rfl) | (rw [if_neg (by decide +kernel)];exact ⟨rfl,rfl⟩))
  (fun os started H enc _=>Hf os started H enc)
theorem leaves_card:Rows.RiteLeavesCardSaid :=
 Claim7.holds_tied_plain_at .later [] [.sentinel,.sentinel,.sentinel,.sentinel,.sentinel,.sentinel] true (true, "0a4b81ae7c557eb35923e698271d12e0952e248465ee30472e9bb18dca02c551") true
  Kw (fun _ h=>by cases h) (by kernel_rfl) (fun _ h=>by cases h) riteLeaves_row_tie rfl ⟨rfl,rfl⟩ (by kernel_rfl) rfl
  (fun f fn hf hfn=>by
    obtain rfl:f=8:=Option.some.inj ((show Tryd.prog.funcNamed "sexton/sextonlaw06.RiteLeaves" = some 8 by kernel_rfl).symm.trans hf) |>.symm
    obtain rfl:fn=Tryd.f8:=(Option.some.inj (Tryd.func8.symm.trans hfn)).symm
    refine ⟨by kernel_rfl,fun j t ht=>?_⟩
    rw [Tryd.params8] at ht
    rcases j with _ | _ | j
    · obtain rfl:t=52:=by simpa using ht.symm
      exact (show Tryd.prog.wantsStandIn 52=false by kernel_rfl)
    · obtain rfl:t=22:=by simpa using ht.symm
      exact (show Tryd.prog.wantsStandIn 22=false by kernel_rfl)
    · simp at ht)
  (by kernel_rfl)
end Go.Proofs.YthomdlajobnmnaaDoor
