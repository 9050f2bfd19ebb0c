/- 'SteepleRises' answers true whatever the input, and the input reads behind the call as it read before; what its listed variables read is tied to the program's text. -/
import Derived.Test.YthomdlajobnmnaaGreatDoorRows
import Derived.Test.YthomdlajobnmnaaGreatDoorTie
import Derived.Test.YthomdlajobnmnaaGreatDoorCards
import Derived.ChangeSame
import Derived.ChangeVars
import Derived.JoinedOf
import Derived.RowKit
import Derived.RowKitTokens
import Derived.LaidLaws
import Derived.LaidHandle
import Derived.Stop.Joined
import Derived.Stop.LaidErr
import Derived.ProofKit
import Derived.SevenTiedAt
import Derived.Test.YthomdlajobnmnaaGreatDoorXIn
import Derived.Test.YthomdlajobnmnaaGreatDoorX8
set_option linter.unusedSimpArgs false
set_option linter.unusedVariables false
namespace Go.Proofs.YthomdlajobnmnaaGreatDoor
open Go Go.ChangeShapes Go.WideShapes Go.RowKit Go.Rex
theorem Zn:ownKnob Tryz.prog.godebug=none:=by kernel_rfl
theorem Nh:laidOutB Tryz.prog=true:=by kernel_rfl
theorem Rs:Tryz.prog.cellsOf 249=1:=by kernel_rfl
theorem Ru:Tryz.prog.cellsOf 9=1:=by kernel_rfl
theorem Kj : "*" ++ "errors.errorString" = "*errors.errorString" := by decide
theorem Zo (u:TypeId) (h:Tryz.prog.typeName? 3 u=some "*errors.errorString"):u=224 :=
 typeName_ptr_named (nm := "errors.errorString") (by rw [Kj];kernel_rfl) (by kernel_rfl) (by decide) u (by rw [Kj];exact h)
def Uc:rT:=[("sexton/api.ErrArg",0,[97,110,32,97,114,103,117,109,101,110,116,32,116,104,97,116,32,99,97,110,39,116,32,98,101]),("sexton/api.ErrNil",1,[97,32,110,105,108,32,116,104,105,110,103]),("sexton/api.ErrState",4,[110,111,116,32,110,111,119]),("sexton/api.ErrFreed",5,[97,32,115,108,111,116,32,116,104,97,116,32,105,115,32,102,114,101,101]),("sexton/api.ErrStale",7,[97,32,115,108,111,116,32,116,104,97,116,32,105,115,32,97,110,111,116,104,101,114,32,111,110,101,32,110,111,119]),("sexton/api.ErrTwice",6,[100,111,110,101,32,97,108,114,101,97,100,121]),("sexton/api.ErrLeft",2,[97,32,102,114,101,101,32,115,108,111,116,32,116,104,97,116,32,99,97,110,32,98,101,32,114,101,97,99,104,101,100])]
abbrev afs:ByteArray:={data:=#[97,110,32,97,114,103,117,109,101,110,116,32,116,104,97,116,32,99,97,110,39,116,32,98,101]}
abbrev aft:ByteArray:={data:=#[97,32,110,105,108,32,116,104,105,110,103]}
abbrev afu:ByteArray:={data:=#[110,111,116,32,110,111,119]}
abbrev afv:ByteArray:={data:=#[97,32,115,108,111,116,32,116,104,97,116,32,105,115,32,102,114,101,101]}
abbrev afw:ByteArray:={data:=#[97,32,115,108,111,116,32,116,104,97,116,32,105,115,32,97,110,111,116,104,101,114,32,111,110,101,32,110,111,119]}
abbrev afx:ByteArray:={data:=#[100,111,110,101,32,97,108,114,101,97,100,121]}
abbrev afy:ByteArray:={data:=#[97,32,102,114,101,101,32,115,108,111,116,32,116,104,97,116,32,99,97,110,32,98,101,32,114,101,97,99,104,101,100]}
noncomputable def je:Nat:=(World.holding Tryz.prog default ⟨#[],#[],[]⟩).heap.size
def pF (h:Array Obj) (g:Nat) (a:Addr):Array Obj :=
 h.modify g fun
   | .cells _ t frozen=>.cells #[.iface 224 (.pointer (some a))] t frozen
   | o=>o
noncomputable def Ae (os:Os):World :=
 let a:=World.holding Tryz.prog os ⟨#[.cells #[.string afs] 249,.cells #[.string aft] 249,.cells #[.string afu] 249,.cells #[.string afv] 249,.cells #[.string afw] 249,.cells #[.string afx] 249,.cells #[.string afy] 249],#[],[]⟩
 {a with heap:=(pF (pF (pF (pF (pF (pF (pF a.heap 0 ⟨je+0,0,none⟩) 1 ⟨je+1,0,none⟩) 4 ⟨je+2,0,none⟩) 5 ⟨je+3,0,none⟩) 7 ⟨je+4,0,none⟩) 6 ⟨je+5,0,none⟩) 2 ⟨je+6,0,none⟩)}
theorem Ni (os:Os) (args:Array Value):laidMet Tryz.prog Rows.steepleRisesRow.laid ((Ae os).forCall (λ_ _=>0) ⟨#[],args,[]⟩).memory :=
 laidMet_of_run (ps:=[.cell 0 0,.cell (je+0) 0,.cell 1 0,.cell (je+1) 0,.cell 4 0,.cell (je+2) 0,.cell 5 0,.cell (je+3) 0,.cell 7 0,.cell (je+4) 0,.cell 6 0,.cell (je+5) 0,.cell 2 0,.cell (je+6) 0]) 8 (by kernel_rfl) (by kernel_rfl) (by kernel_rfl)
theorem Wt {W:World} (h:laidMet Tryz.prog Rows.steepleRisesRow.laid W):∃b:List Addr,uz W (Uc.ss 224 249) b/\b.Nodup/\∀a∈b,∃c t,W.heap[a.block]?=some (.cells c t (0,0)) :=
 Ng (sl:=Uc) (nm := "*errors.errorString") Tryz.underlying36 Zo Tryz.underlying224 Tryz.underlying249 rfl rfl Tryz.underlying9 Rs Ru (by kernel_rfl) h
set_option maxRecDepth 100000 in
theorem Rv (os:Os) (started:os.Started) (H:Type) (enc:TypeId × Value->H) :
  ReturnsInHanded {} Tryz.checked os 7 .any (λw args=>(Rows.steepleRisesSpec.pre enc Tryz.prog Tryz.f7 [] false w args/\laidMetH Tryz.prog Rows.steepleRisesRow.laid w)/\sizedMet enc Tryz.prog Tryz.f7 (OpenSpec.ofChange Rows.steepleRisesSpec) false w args)
   (Rows.steepleRisesSpec.post enc Tryz.prog Tryz.f7 false true false false):=by
 refine returnsInHanded_of_change_and (C:=Tryz.checked) (X:=λw _=>laidMetH Tryz.prog Rows.steepleRisesRow.laid w) (λ_ _ _ i h=>h.of_heap i) Zn started (by kernel_rfl) Tryz.func7
  (ChangeSpec.witness_at (enc:=enc) (C:=Tryz.checked) (os:=os) (X:=λw _=>laidMetH Tryz.prog Rows.steepleRisesRow.laid w) false (Ae os) #[.agg #[.int .i64 0,.int .i64 0,.int .i64 0],.slice none 0 0,.slice none 0 0] 8 rfl (by kernel_rfl) (by kernel_rfl) (by kernel_rfl) (by kernel_rfl) (by kernel_rfl) (laidMetH_of_parts (Ni os _) (by kernel_rfl))) ?_
 intro W base args e k before a d _ _ f _
 obtain ⟨l,j,b,c⟩:=Wt f
 exact Zm Nh (fn:=Tryz.f7) (s:=Rows.steepleRisesSpec) (tb:=4) (by kernel_rfl) rfl rfl Tryz.underlying4
  (λH e h=>by
    match e,h with
    | [_,_,_],_=>exact ⟨rfl,rfl,rfl⟩) d (by
      obtain ⟨p,q,g,-⟩:=d
      exact Sk.Ws j b c a g)
theorem RH:Rows.SteepleRisesSaid :=
 OpenClaim.holds_of_wide 7 Tryz.f7 rfl rfl rfl rfl rfl rfl rfl ⟨rfl,rfl,rfl,rfl,rfl⟩ rfl rfl rfl rfl rfl (by kernel_rfl) Tryz.func7 (by kernel_rfl)
  (of_decide_eq_true (by kernel_rfl)) (by unfold Func.isWrapper;first | (rw [if_pos (by decide +kernel)];kernel_rfl) | (rw [if_neg (by decide +kernel)];exact ⟨rfl,rfl⟩))
  (λa started H enc _=>Rv a started H enc)
theorem rises_card:Rows.SteepleRisesCardSaid :=
 Claim7.holds_tied_plain_at .later [] [.sentinel,.sentinel,.sentinel,.sentinel,.sentinel,.sentinel,.sentinel] true (true, "efba8ee1ec4f9df9f28ae7153f3d6aefa31e2cfeae81c69304947112a85292a8") true
  RH (λ_ h=>by cases h) (by kernel_rfl) (λ_ h=>by cases h) steepleRises_row_tie rfl ⟨rfl,rfl⟩ (by kernel_rfl) rfl
  (λf fn c b=>by
    obtain rfl:f=7:=Option.some.inj ((show Tryz.prog.funcNamed "sexton/sextonlaw11.SteepleRises" = some 7 by kernel_rfl).symm.trans c) |>.symm
    obtain rfl:fn=Tryz.f7:=(Option.some.inj (Tryz.func7.symm.trans b)).symm
    refine ⟨by kernel_rfl,λj t a=>?_⟩
    rw [Tryz.params7] at a
    rcases j with _ | _ | _ | j
    · obtain rfl:t=66:=by simpa using a.symm
      exact (show Tryz.prog.wantsStandIn 66=false by kernel_rfl)
    · obtain rfl:t=33:=by simpa using a.symm
      exact (show Tryz.prog.wantsStandIn 33=false by kernel_rfl)
    · obtain rfl:t=23:=by simpa using a.symm
      exact (show Tryz.prog.wantsStandIn 23=false by kernel_rfl)
    · simp at a)
  (by kernel_rfl)
end Go.Proofs.YthomdlajobnmnaaGreatDoor
