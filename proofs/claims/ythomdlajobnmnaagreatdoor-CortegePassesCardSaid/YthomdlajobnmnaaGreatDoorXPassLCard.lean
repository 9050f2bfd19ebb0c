/- 'CortegePasses' answers true whatever the input, and the input reads behind the call as it read before; what its listed variables read is tied to the program's text. -/
import Derived.Test.YthomdlajobnmnaaGreatDoorRows
import Derived.Test.YthomdlajobnmnaaGreatDoorTie
import Derived.Test.YthomdlajobnmnaaGreatDoorCards
import Derived.ChangeSame
import Derived.ChangeVars
import Derived.JoinedOf
import Derived.RowKit
import Derived.RowKitTokens
import Derived.LaidLaws
import Derived.LaidHandle
import Derived.Stop.Joined
import Derived.Stop.LaidErr
import Derived.ProofKit
import Derived.SevenTiedAt
import Derived.Test.YthomdlajobnmnaaGreatDoorX11
import Derived.Test.YthomdlajobnmnaaGreatDoorXPassL
set_option linter.unusedSimpArgs false
set_option linter.unusedVariables false
namespace Go.Proofs.YthomdlajobnmnaaGreatDoor
open Go Go.ChangeShapes Go.WideShapes Go.RowKit Go.Rex
theorem Po:ownKnob Tryz.prog.godebug=none:=by kernel_rfl
theorem H5:laidOutB Tryz.prog=true:=by kernel_rfl
theorem Jh:Tryz.prog.cellsOf 249=1:=by kernel_rfl
theorem Ji:Tryz.prog.cellsOf 9=1:=by kernel_rfl
theorem Cv : "*" ++ "errors.errorString" = "*errors.errorString" := by decide
theorem Pp (u:TypeId) (h:Tryz.prog.typeName? 3 u=some "*errors.errorString"):u=224 :=
 typeName_ptr_named (nm := "errors.errorString") (by rw [Cv];kernel_rfl) (by kernel_rfl) (by decide) u (by rw [Cv];exact h)
def KD:pU:=[("sexton/api.ErrArg",0,[97,110,32,97,114,103,117,109,101,110,116,32,116,104,97,116,32,99,97,110,39,116,32,98,101]),("sexton/api.ErrNil",1,[97,32,110,105,108,32,116,104,105,110,103]),("sexton/api.ErrFull",3,[110,111,32,114,111,111,109]),("sexton/api.ErrState",4,[110,111,116,32,110,111,119]),("sexton/api.ErrFreed",5,[97,32,115,108,111,116,32,116,104,97,116,32,105,115,32,102,114,101,101]),("sexton/api.ErrStale",7,[97,32,115,108,111,116,32,116,104,97,116,32,105,115,32,97,110,111,116,104,101,114,32,111,110,101,32,110,111,119]),("sexton/api.ErrTwice",6,[100,111,110,101,32,97,108,114,101,97,100,121]),("sexton/api.ErrLeft",2,[97,32,102,114,101,101,32,115,108,111,116,32,116,104,97,116,32,99,97,110,32,98,101,32,114,101,97,99,104,101,100])]
abbrev Xi:ByteArray:={data:=#[97,110,32,97,114,103,117,109,101,110,116,32,116,104,97,116,32,99,97,110,39,116,32,98,101]}
abbrev Xj:ByteArray:={data:=#[97,32,110,105,108,32,116,104,105,110,103]}
abbrev Xk:ByteArray:={data:=#[110,111,32,114,111,111,109]}
abbrev Xl:ByteArray:={data:=#[110,111,116,32,110,111,119]}
abbrev Xm:ByteArray:={data:=#[97,32,115,108,111,116,32,116,104,97,116,32,105,115,32,102,114,101,101]}
abbrev Xn:ByteArray:={data:=#[97,32,115,108,111,116,32,116,104,97,116,32,105,115,32,97,110,111,116,104,101,114,32,111,110,101,32,110,111,119]}
abbrev Xo:ByteArray:={data:=#[100,111,110,101,32,97,108,114,101,97,100,121]}
abbrev Xp:ByteArray:={data:=#[97,32,102,114,101,101,32,115,108,111,116,32,116,104,97,116,32,99,97,110,32,98,101,32,114,101,97,99,104,101,100]}
noncomputable def fu:Nat:=(World.holding Tryz.prog default ⟨#[],#[],[]⟩).heap.size
def jH (h:Array Obj) (g:Nat) (a:Addr):Array Obj :=
 h.modify g fun
   | .cells _ t frozen=>.cells #[.iface 224 (.pointer (some a))] t frozen
   | o=>o
noncomputable def uM (os:Os):World :=
 let w0:=World.holding Tryz.prog os ⟨#[.cells #[.string Xi] 249,.cells #[.string Xj] 249,.cells #[.string Xk] 249,.cells #[.string Xl] 249,.cells #[.string Xm] 249,.cells #[.string Xn] 249,.cells #[.string Xo] 249,.cells #[.string Xp] 249],#[],[]⟩
 {w0 with heap:=(jH (jH (jH (jH (jH (jH (jH (jH w0.heap 0 ⟨fu+0,0,none⟩) 1 ⟨fu+1,0,none⟩) 3 ⟨fu+2,0,none⟩) 4 ⟨fu+3,0,none⟩) 5 ⟨fu+4,0,none⟩) 7 ⟨fu+5,0,none⟩) 6 ⟨fu+6,0,none⟩) 2 ⟨fu+7,0,none⟩)}
theorem H6 (os:Os) (args:Array Value):laidMet Tryz.prog Rows.cortegePassesRow.laid ((uM os).forCall (fun _ _=>0) ⟨#[],args,[]⟩).memory :=
 laidMet_of_run (ps:=[.cell 0 0,.cell (fu+0) 0,.cell 1 0,.cell (fu+1) 0,.cell 3 0,.cell (fu+2) 0,.cell 4 0,.cell (fu+3) 0,.cell 5 0,.cell (fu+4) 0,.cell 7 0,.cell (fu+5) 0,.cell 6 0,.cell (fu+6) 0,.cell 2 0,.cell (fu+7) 0]) 8 (by kernel_rfl) (by kernel_rfl) (by kernel_rfl)
theorem O1 {W:World} (h:laidMet Tryz.prog Rows.cortegePassesRow.laid W):∃al:List Addr,rC W (KD.ss 224 249) al∧al.Nodup∧∀a∈al,∃c t,W.heap[a.block]?=some (.cells c t (0,0)) :=
 KG (sl:=KD) (nm := "*errors.errorString") Tryz.underlying36 Pp Tryz.underlying224 Tryz.underlying249 rfl rfl Tryz.underlying9 Jh Ji (by kernel_rfl) h
set_option maxRecDepth 100000 in
theorem Jj (os:Os) (started:os.Started) (H:Type) (enc:TypeId × Value→H) :
  ReturnsInHanded {} Tryz.checked os 6 .any (fun w args=>(Rows.cortegePassesSpec.pre enc Tryz.prog Tryz.f6 [] false w args∧laidMetH Tryz.prog Rows.cortegePassesRow.laid w)∧sizedMet enc Tryz.prog Tryz.f6 (OpenSpec.ofChange Rows.cortegePassesSpec) false w args)
   (Rows.cortegePassesSpec.post enc Tryz.prog Tryz.f6 false true false false):=by
 refine returnsInHanded_of_change_and (C:=Tryz.checked) (X:=fun w _=>laidMetH Tryz.prog Rows.cortegePassesRow.laid w) (fun _ _ _ hh h=>h.of_heap hh) Po started (by kernel_rfl) Tryz.func6
  (ChangeSpec.witness_at (enc:=enc) (C:=Tryz.checked) (os:=os) (X:=fun w _=>laidMetH Tryz.prog Rows.cortegePassesRow.laid w) false (uM os) #[.agg #[.int .i64 0,.int .i64 0],.agg #[.int .i64 0,.int .i64 0],.slice none 0 0] 8 rfl (by kernel_rfl) (by kernel_rfl) (by kernel_rfl) (by kernel_rfl) (by kernel_rfl) (laidMetH_of_parts (H6 os _) (by kernel_rfl))) ?_
 intro W base args ds gs before hval hW _ _ hL _
 obtain ⟨al,ha,hnd,hcs⟩:=O1 hL
 exact Vb H5 (fn:=Tryz.f6) (s:=Rows.cortegePassesSpec) (sh:=Cq.OX) (tb:=4) (by kernel_rfl) (by kernel_rfl) rfl rfl Tryz.underlying4
  (fun H ds h=>by
    match ds,h with
    | [_,_,_],_=>exact ⟨rfl,rfl,rfl⟩) ha hnd hcs rfl rfl Cq.Uc hval hW
theorem KH:Rows.CortegePassesSaid :=
 OpenClaim.holds_of_wide 6 Tryz.f6 rfl rfl rfl rfl rfl rfl rfl ⟨rfl,rfl,rfl,rfl,rfl⟩ rfl rfl rfl rfl rfl (by kernel_rfl) Tryz.func6 (by kernel_rfl)
  (of_decide_eq_true (by kernel_rfl)) (by unfold Func.isWrapper;first | (rw [if_pos (by decide +kernel)];kernel_rfl) | (rw [if_neg (by decide +kernel)];exact ⟨rfl,rfl⟩))
  (fun os started H enc _=>Jj os started H enc)
theorem cpasses_card:Rows.CortegePassesCardSaid :=
 Claim7.holds_tied_plain_at .later [] [.sentinel,.sentinel,.sentinel,.sentinel,.sentinel,.sentinel,.sentinel,.sentinel] true (true, "efba8ee1ec4f9df9f28ae7153f3d6aefa31e2cfeae81c69304947112a85292a8") true
  KH (fun _ h=>by cases h) (by kernel_rfl) (fun _ h=>by cases h) cortegePasses_row_tie rfl ⟨rfl,rfl⟩ (by kernel_rfl) rfl
  (fun f fn hf hfn=>by
    obtain rfl:f=6:=Option.some.inj ((show Tryz.prog.funcNamed "sexton/sextonlaw08.CortegePasses" = some 6 by kernel_rfl).symm.trans hf) |>.symm
    obtain rfl:fn=Tryz.f6:=(Option.some.inj (Tryz.func6.symm.trans hfn)).symm
    refine ⟨by kernel_rfl,fun j t ht=>?_⟩
    rw [Tryz.params6] at ht
    rcases j with _ | _ | _ | j
    · obtain rfl:t=22:=by simpa using ht.symm
      exact (show Tryz.prog.wantsStandIn 22=false by kernel_rfl)
    · obtain rfl:t=22:=by simpa using ht.symm
      exact (show Tryz.prog.wantsStandIn 22=false by kernel_rfl)
    · obtain rfl:t=23:=by simpa using ht.symm
      exact (show Tryz.prog.wantsStandIn 23=false by kernel_rfl)
    · simp at ht)
  (by kernel_rfl)
end Go.Proofs.YthomdlajobnmnaaGreatDoor
