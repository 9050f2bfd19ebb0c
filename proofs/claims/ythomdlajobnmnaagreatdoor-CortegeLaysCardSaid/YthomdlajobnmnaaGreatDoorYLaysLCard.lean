/- 'CortegeLays' answers true whatever the input, and the input reads behind the call as it read before; what its listed variables read is tied to the program's text. -/
import Derived.Test.YthomdlajobnmnaaGreatDoorRows
import Derived.Test.YthomdlajobnmnaaGreatDoorTie
import Derived.Test.YthomdlajobnmnaaGreatDoorCards
import Derived.ChangeSame
import Derived.ChangeVars
import Derived.JoinedOf
import Derived.RowKit
import Derived.RowKitTokens
import Derived.LaidLaws
import Derived.LaidHandle
import Derived.Stop.Joined
import Derived.Stop.LaidErr
import Derived.ProofKit
import Derived.SevenTiedAt
import Derived.Test.YthomdlajobnmnaaGreatDoorL10
import Derived.Test.YthomdlajobnmnaaGreatDoorYLaysL
set_option linter.unusedSimpArgs false
set_option linter.unusedVariables false
namespace Go.Proofs.YthomdlajobnmnaaGreatDoor
open Go Go.ChangeShapes Go.WideShapes Go.RowKit Go.Rex
theorem Sj:ownKnob Tryz.prog.godebug=none:=by kernel_rfl
theorem Ib:laidOutB Tryz.prog=true:=by kernel_rfl
theorem Lr:Tryz.prog.cellsOf 249=1:=by kernel_rfl
theorem Ls:Tryz.prog.cellsOf 9=1:=by kernel_rfl
theorem Fb : "*" ++ "errors.errorString" = "*errors.errorString" := by decide
theorem Sk (u:TypeId) (h:Tryz.prog.typeName? 3 u=some "*errors.errorString"):u=224 :=
 typeName_ptr_named (nm := "errors.errorString") (by rw [Fb];kernel_rfl) (by kernel_rfl) (by decide) u (by rw [Fb];exact h)
def Ng:oO:=[("sexton/api.ErrArg",0,[97,110,32,97,114,103,117,109,101,110,116,32,116,104,97,116,32,99,97,110,39,116,32,98,101]),("sexton/api.ErrNil",1,[97,32,110,105,108,32,116,104,105,110,103]),("sexton/api.ErrFull",3,[110,111,32,114,111,111,109]),("sexton/api.ErrState",4,[110,111,116,32,110,111,119]),("sexton/api.ErrFreed",5,[97,32,115,108,111,116,32,116,104,97,116,32,105,115,32,102,114,101,101]),("sexton/api.ErrStale",7,[97,32,115,108,111,116,32,116,104,97,116,32,105,115,32,97,110,111,116,104,101,114,32,111,110,101,32,110,111,119]),("sexton/api.ErrTwice",6,[100,111,110,101,32,97,108,114,101,97,100,121]),("sexton/api.ErrLeft",2,[97,32,102,114,101,101,32,115,108,111,116,32,116,104,97,116,32,99,97,110,32,98,101,32,114,101,97,99,104,101,100])]
abbrev XM:ByteArray:={data:=#[97,110,32,97,114,103,117,109,101,110,116,32,116,104,97,116,32,99,97,110,39,116,32,98,101]}
abbrev XN:ByteArray:={data:=#[97,32,110,105,108,32,116,104,105,110,103]}
abbrev XO:ByteArray:={data:=#[110,111,32,114,111,111,109]}
abbrev XP:ByteArray:={data:=#[110,111,116,32,110,111,119]}
abbrev XQ:ByteArray:={data:=#[97,32,115,108,111,116,32,116,104,97,116,32,105,115,32,102,114,101,101]}
abbrev XR:ByteArray:={data:=#[97,32,115,108,111,116,32,116,104,97,116,32,105,115,32,97,110,111,116,104,101,114,32,111,110,101,32,110,111,119]}
abbrev XT:ByteArray:={data:=#[100,111,110,101,32,97,108,114,101,97,100,121]}
abbrev XU:ByteArray:={data:=#[97,32,102,114,101,101,32,115,108,111,116,32,116,104,97,116,32,99,97,110,32,98,101,32,114,101,97,99,104,101,100]}
noncomputable def gG:Nat:=(World.holding Tryz.prog default ⟨#[],#[],[]⟩).heap.size
def kR (h:Array Obj) (g:Nat) (a:Addr):Array Obj :=
 h.modify g fun
   | .cells _ t frozen=>.cells #[.iface 224 (.pointer (some a))] t frozen
   | o=>o
noncomputable def vX (os:Os):World :=
 let w0:=World.holding Tryz.prog os ⟨#[.cells #[.string XM] 249,.cells #[.string XN] 249,.cells #[.string XO] 249,.cells #[.string XP] 249,.cells #[.string XQ] 249,.cells #[.string XR] 249,.cells #[.string XT] 249,.cells #[.string XU] 249],#[],[]⟩
 {w0 with heap:=(kR (kR (kR (kR (kR (kR (kR (kR w0.heap 0 ⟨gG+0,0,none⟩) 1 ⟨gG+1,0,none⟩) 3 ⟨gG+2,0,none⟩) 4 ⟨gG+3,0,none⟩) 5 ⟨gG+4,0,none⟩) 7 ⟨gG+5,0,none⟩) 6 ⟨gG+6,0,none⟩) 2 ⟨gG+7,0,none⟩)}
theorem Ic (os:Os) (args:Array Value):laidMet Tryz.prog Rows.cortegeLaysRow.laid ((vX os).forCall (fun _ _=>0) ⟨#[],args,[]⟩).memory :=
 laidMet_of_run (ps:=[.cell 0 0,.cell (gG+0) 0,.cell 1 0,.cell (gG+1) 0,.cell 3 0,.cell (gG+2) 0,.cell 4 0,.cell (gG+3) 0,.cell 5 0,.cell (gG+4) 0,.cell 7 0,.cell (gG+5) 0,.cell 6 0,.cell (gG+6) 0,.cell 2 0,.cell (gG+7) 0]) 8 (by kernel_rfl) (by kernel_rfl) (by kernel_rfl)
theorem Pq {W:World} (h:laidMet Tryz.prog Rows.cortegeLaysRow.laid W):∃al:List Addr,qx W (Ng.ss 224 249) al∧al.Nodup∧∀a∈al,∃c t,W.heap[a.block]?=some (.cells c t (0,0)) :=
 Ia (sl:=Ng) (nm := "*errors.errorString") Tryz.underlying36 Sk Tryz.underlying224 Tryz.underlying249 rfl rfl Tryz.underlying9 Lr Ls (by kernel_rfl) h
set_option maxRecDepth 100000 in
theorem Lt (os:Os) (started:os.Started) (H:Type) (enc:TypeId × Value→H) :
  ReturnsInHanded {} Tryz.checked os 5 .any (fun w args=>(Rows.cortegeLaysSpec.pre enc Tryz.prog Tryz.f5 [] false w args∧laidMetH Tryz.prog Rows.cortegeLaysRow.laid w)∧sizedMet enc Tryz.prog Tryz.f5 (OpenSpec.ofChange Rows.cortegeLaysSpec) false w args)
   (Rows.cortegeLaysSpec.post enc Tryz.prog Tryz.f5 false true false false):=by
 refine returnsInHanded_of_change_and (C:=Tryz.checked) (X:=fun w _=>laidMetH Tryz.prog Rows.cortegeLaysRow.laid w) (fun _ _ _ hh h=>h.of_heap hh) Sj started (by kernel_rfl) Tryz.func5
  (ChangeSpec.witness_at (enc:=enc) (C:=Tryz.checked) (os:=os) (X:=fun w _=>laidMetH Tryz.prog Rows.cortegeLaysRow.laid w) false (vX os) #[.int .i64 0,.int .i64 0] 8 rfl (by kernel_rfl) (by kernel_rfl) (by kernel_rfl) (by kernel_rfl) (by kernel_rfl) (laidMetH_of_parts (Ic os _) (by kernel_rfl))) ?_
 intro W base args ds gs before hval hW _ _ hL _
 obtain ⟨al,ha,hnd,hcs⟩:=Pq hL
 exact Qo Ib (fn:=Tryz.f5) (s:=Rows.cortegeLaysSpec) (sh:=[uy,uy]) (tb:=4) (by kernel_rfl) (by kernel_rfl) rfl rfl Tryz.underlying4
  (fun H ds h=>by
    match ds,h with
    | [_,_],_=>exact ⟨rfl,rfl,rfl⟩) ha hnd hcs rfl rfl Cq.U7 hval hW
theorem LQ:Rows.CortegeLaysSaid :=
 OpenClaim.holds_of_wide 5 Tryz.f5 rfl rfl rfl rfl rfl rfl rfl ⟨rfl,rfl,rfl,rfl,rfl⟩ rfl rfl rfl rfl rfl (by kernel_rfl) Tryz.func5 (by kernel_rfl)
  (of_decide_eq_true (by kernel_rfl)) (by unfold Func.isWrapper;first | (rw [if_pos (by decide +kernel)];kernel_rfl) | (rw [if_neg (by decide +kernel)];exact ⟨rfl,rfl⟩))
  (fun os started H enc _=>Lt os started H enc)
theorem clays_card:Rows.CortegeLaysCardSaid :=
 Claim7.holds_tied_plain_at .later [] [.sentinel,.sentinel,.sentinel,.sentinel,.sentinel,.sentinel,.sentinel,.sentinel] true (true, "efba8ee1ec4f9df9f28ae7153f3d6aefa31e2cfeae81c69304947112a85292a8") true
  LQ (fun _ h=>by cases h) (by kernel_rfl) (fun _ h=>by cases h) cortegeLays_row_tie rfl ⟨rfl,rfl⟩ (by kernel_rfl) rfl
  (fun f fn hf hfn=>by
    obtain rfl:f=5:=Option.some.inj ((show Tryz.prog.funcNamed "sexton/sextonlaw08.CortegeLays" = some 5 by kernel_rfl).symm.trans hf) |>.symm
    obtain rfl:fn=Tryz.f5:=(Option.some.inj (Tryz.func5.symm.trans hfn)).symm
    refine ⟨by kernel_rfl,fun j t ht=>?_⟩
    rw [Tryz.params5] at ht
    rcases j with _ | _ | j
    · obtain rfl:t=3:=by simpa using ht.symm
      exact (show Tryz.prog.wantsStandIn 3=false by kernel_rfl)
    · obtain rfl:t=3:=by simpa using ht.symm
      exact (show Tryz.prog.wantsStandIn 3=false by kernel_rfl)
    · simp at ht)
  (by kernel_rfl)
end Go.Proofs.YthomdlajobnmnaaGreatDoor
