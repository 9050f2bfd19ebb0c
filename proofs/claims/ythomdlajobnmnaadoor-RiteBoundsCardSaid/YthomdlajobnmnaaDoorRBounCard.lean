/- 'RiteBounds' answers true whatever the input, and the input reads behind the call as it read before; what its listed variables read is tied to the program's text. -/
import Derived.Test.YthomdlajobnmnaaDoorRows
import Derived.Test.YthomdlajobnmnaaDoorTie
import Derived.Test.YthomdlajobnmnaaDoorCards
import Derived.ChangeSame
import Derived.ChangeVars
import Derived.JoinedOf
import Derived.RowKit
import Derived.RowKitTokens
import Derived.LaidLaws
import Derived.LaidHandle
import Derived.Stop.Joined
import Derived.Stop.LaidErr
import Derived.ProofKit
import Derived.SevenTiedAt
import Derived.Test.YthomdlajobnmnaaDoorQ10
import Derived.Test.YthomdlajobnmnaaDoorRBoun
set_option linter.unusedSimpArgs false
set_option linter.unusedVariables false
namespace Go.Proofs.YthomdlajobnmnaaDoor
open Go Go.ChangeShapes Go.WideShapes Go.RowKit Go.Rex
theorem Od:ownKnob Tryd.prog.godebug=none:=by kernel_rfl
theorem FH:laidOutB Tryd.prog=true:=by kernel_rfl
theorem G8:Tryd.prog.cellsOf 198=1:=by kernel_rfl
theorem G9:Tryd.prog.cellsOf 9=1:=by kernel_rfl
theorem Bh : "*" ++ "errors.errorString" = "*errors.errorString" := by decide
theorem Oe (u:TypeId) (h:Tryd.prog.typeName? 3 u=some "*errors.errorString"):u=177 :=
 typeName_ptr_named (nm := "errors.errorString") (by rw [Bh];kernel_rfl) (by kernel_rfl) (by decide) u (by rw [Bh];exact h)
def Kq:nZ:=[("sexton/api.ErrArg",0,[97,110,32,97,114,103,117,109,101,110,116,32,116,104,97,116,32,99,97,110,39,116,32,98,101]),("sexton/api.ErrNil",2,[97,32,110,105,108,32,116,104,105,110,103]),("sexton/api.ErrState",4,[110,111,116,32,110,111,119]),("sexton/api.ErrFreed",3,[97,32,115,108,111,116,32,116,104,97,116,32,105,115,32,102,114,101,101]),("sexton/api.ErrStale",1,[97,32,115,108,111,116,32,116,104,97,116,32,105,115,32,97,110,111,116,104,101,114,32,111,110,101,32,110,111,119]),("sexton/api.ErrTwice",5,[100,111,110,101,32,97,108,114,101,97,100,121])]
abbrev TA:ByteArray:={data:=#[97,110,32,97,114,103,117,109,101,110,116,32,116,104,97,116,32,99,97,110,39,116,32,98,101]}
abbrev TB:ByteArray:={data:=#[97,32,110,105,108,32,116,104,105,110,103]}
abbrev TC:ByteArray:={data:=#[110,111,116,32,110,111,119]}
abbrev TE:ByteArray:={data:=#[97,32,115,108,111,116,32,116,104,97,116,32,105,115,32,102,114,101,101]}
abbrev TF:ByteArray:={data:=#[97,32,115,108,111,116,32,116,104,97,116,32,105,115,32,97,110,111,116,104,101,114,32,111,110,101,32,110,111,119]}
abbrev TG:ByteArray:={data:=#[100,111,110,101,32,97,108,114,101,97,100,121]}
noncomputable def iQ:Nat:=(World.holding Tryd.prog default ⟨#[],#[],[]⟩).heap.size
def nI (h:Array Obj) (g:Nat) (a:Addr):Array Obj :=
 h.modify g fun
   | .cells _ t frozen=>.cells #[.iface 177 (.pointer (some a))] t frozen
   | o=>o
noncomputable def u7 (os:Os):World :=
 let w0:=World.holding Tryd.prog os ⟨#[.cells #[.string TA] 198,.cells #[.string TB] 198,.cells #[.string TC] 198,.cells #[.string TE] 198,.cells #[.string TF] 198,.cells #[.string TG] 198],#[],[]⟩
 {w0 with heap:=(nI (nI (nI (nI (nI (nI w0.heap 0 ⟨iQ+0,0,none⟩) 2 ⟨iQ+1,0,none⟩) 4 ⟨iQ+2,0,none⟩) 3 ⟨iQ+3,0,none⟩) 1 ⟨iQ+4,0,none⟩) 5 ⟨iQ+5,0,none⟩)}
theorem FJ (os:Os) (args:Array Value):laidMet Tryd.prog Rows.riteBoundsRow.laid ((u7 os).forCall (fun _ _=>0) ⟨#[],args,[]⟩).memory :=
 laidMet_of_run (ps:=[.cell 0 0,.cell (iQ+0) 0,.cell 2 0,.cell (iQ+1) 0,.cell 4 0,.cell (iQ+2) 0,.cell 3 0,.cell (iQ+3) 0,.cell 1 0,.cell (iQ+4) 0,.cell 5 0,.cell (iQ+5) 0]) 8 (by kernel_rfl) (by kernel_rfl) (by kernel_rfl)
theorem KN {W:World} (h:laidMet Tryd.prog Rows.riteBoundsRow.laid W):∃al:List Addr,pz W (Kq.ss 177 198) al∧al.Nodup∧∀a∈al,∃c t,W.heap[a.block]?=some (.cells c t (0,0)) :=
 yx (sl:=Kq) (nm := "*errors.errorString") Tryd.underlying27 Oe Tryd.underlying177 Tryd.underlying198 rfl rfl Tryd.underlying9 G8 G9 (by kernel_rfl) h
set_option maxRecDepth 100000 in
theorem Ha (os:Os) (started:os.Started) (H:Type) (enc:TypeId × Value→H) :
  ReturnsInHanded {} Tryd.checked os 9 .any (fun w args=>(Rows.riteBoundsSpec.pre enc Tryd.prog Tryd.f9 [] false w args∧laidMetH Tryd.prog Rows.riteBoundsRow.laid w)∧sizedMet enc Tryd.prog Tryd.f9 (OpenSpec.ofChange Rows.riteBoundsSpec) false w args)
   (Rows.riteBoundsSpec.post enc Tryd.prog Tryd.f9 false true false false):=by
 refine returnsInHanded_of_change_and (C:=Tryd.checked) (X:=fun w _=>laidMetH Tryd.prog Rows.riteBoundsRow.laid w) (fun _ _ _ hh h=>h.of_heap hh) Od started (by kernel_rfl) Tryd.func9
  (ChangeSpec.witness_at (enc:=enc) (C:=Tryd.checked) (os:=os) (X:=fun w _=>laidMetH Tryd.prog Rows.riteBoundsRow.laid w) false (u7 os) #[.agg #[.int .i64 0,.int .i64 0,.int .i64 0],.slice none 0 0] 8 rfl (by kernel_rfl) (by kernel_rfl) (by kernel_rfl) (by kernel_rfl) (by kernel_rfl) (laidMetH_of_parts (FJ os _) (by kernel_rfl))) ?_
 intro W base args ds gs before hval hW _ _ hL _
 obtain ⟨al,ha,hnd,hcs⟩:=KN hL
 exact Gu FH (fn:=Tryd.f9) (s:=Rows.riteBoundsSpec) (sh:=(u6 3)) (tb:=4) (by kernel_rfl) (by kernel_rfl) rfl rfl Tryd.underlying4
  (fun H ds h=>by
    match ds,h with
    | [_,_],_=>exact ⟨rfl,rfl,rfl⟩) ha hnd hcs rfl rfl Oc hval hW
theorem Kr:Rows.RiteBoundsSaid :=
 OpenClaim.holds_of_wide 9 Tryd.f9 rfl rfl rfl rfl rfl rfl rfl ⟨rfl,rfl,rfl,rfl,rfl⟩ rfl rfl rfl rfl rfl (by kernel_rfl) Tryd.func9 (by kernel_rfl)
  (of_decide_eq_true (by kernel_rfl)) (by unfold Func.isWrapper;first | (rw [if_pos (by decide +kernel)];kernel_rfl) | (rw [if_neg (by decide +kernel)];exact ⟨rfl,rfl⟩))
  (fun os started H enc _=>Ha os started H enc)
theorem bounds_card:Rows.RiteBoundsCardSaid :=
 Claim7.holds_tied_plain_at .later [] [.sentinel,.sentinel,.sentinel,.sentinel,.sentinel,.sentinel] true (true, "0a4b81ae7c557eb35923e698271d12e0952e248465ee30472e9bb18dca02c551") true
  Kr (fun _ h=>by cases h) (by kernel_rfl) (fun _ h=>by cases h) riteBounds_row_tie rfl ⟨rfl,rfl⟩ (by kernel_rfl) rfl
  (fun f fn hf hfn=>by
    obtain rfl:f=9:=Option.some.inj ((show Tryd.prog.funcNamed "sexton/sextonlaw06.RiteBounds" = some 9 by kernel_rfl).symm.trans hf) |>.symm
    obtain rfl:fn=Tryd.f9:=(Option.some.inj (Tryd.func9.symm.trans hfn)).symm
    refine ⟨by kernel_rfl,fun j t ht=>?_⟩
    rw [Tryd.params9] at ht
    rcases j with _ | _ | j
    · obtain rfl:t=65:=by simpa using ht.symm
      exact (show Tryd.prog.wantsStandIn 65=false by kernel_rfl)
    · obtain rfl:t=22:=by simpa using ht.symm
      exact (show Tryd.prog.wantsStandIn 22=false by kernel_rfl)
    · simp at ht)
  (by kernel_rfl)
end Go.Proofs.YthomdlajobnmnaaDoor
