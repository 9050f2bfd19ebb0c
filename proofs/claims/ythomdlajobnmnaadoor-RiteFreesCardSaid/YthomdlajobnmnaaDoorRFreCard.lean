/- 'RiteFrees' answers true whatever the input, and the input reads behind the call as it read before; what its listed variables read is tied to the program's text. -/
import Derived.Test.YthomdlajobnmnaaDoorRows
import Derived.Test.YthomdlajobnmnaaDoorTie
import Derived.Test.YthomdlajobnmnaaDoorCards
import Derived.ChangeSame
import Derived.ChangeVars
import Derived.JoinedOf
import Derived.RowKit
import Derived.RowKitTokens
import Derived.LaidLaws
import Derived.LaidHandle
import Derived.Stop.Joined
import Derived.Stop.LaidErr
import Derived.ProofKit
import Derived.SevenTiedAt
import Derived.Test.YthomdlajobnmnaaDoorRFre
import Derived.Test.YthomdlajobnmnaaDoorV10
set_option linter.unusedSimpArgs false
set_option linter.unusedVariables false
namespace Go.Proofs.YthomdlajobnmnaaDoor
open Go Go.ChangeShapes Go.WideShapes Go.RowKit Go.Rex
theorem QW:ownKnob Tryd.prog.godebug=none:=by kernel_rfl
theorem Hd:laidOutB Tryd.prog=true:=by kernel_rfl
theorem Kv:Tryd.prog.cellsOf 198=1:=by kernel_rfl
theorem Kw:Tryd.prog.cellsOf 9=1:=by kernel_rfl
theorem EC : "*" ++ "errors.errorString" = "*errors.errorString" := by decide
theorem QX (u:TypeId) (h:Tryd.prog.typeName? 3 u=some "*errors.errorString"):u=177 :=
 typeName_ptr_named (nm := "errors.errorString") (by rw [EC];kernel_rfl) (by kernel_rfl) (by decide) u (by rw [EC];exact h)
def Mg:pF:=[("sexton/api.ErrArg",0,[97,110,32,97,114,103,117,109,101,110,116,32,116,104,97,116,32,99,97,110,39,116,32,98,101]),("sexton/api.ErrNil",2,[97,32,110,105,108,32,116,104,105,110,103]),("sexton/api.ErrState",4,[110,111,116,32,110,111,119]),("sexton/api.ErrFreed",3,[97,32,115,108,111,116,32,116,104,97,116,32,105,115,32,102,114,101,101]),("sexton/api.ErrStale",1,[97,32,115,108,111,116,32,116,104,97,116,32,105,115,32,97,110,111,116,104,101,114,32,111,110,101,32,110,111,119]),("sexton/api.ErrTwice",5,[100,111,110,101,32,97,108,114,101,97,100,121])]
abbrev V5:ByteArray:={data:=#[97,110,32,97,114,103,117,109,101,110,116,32,116,104,97,116,32,99,97,110,39,116,32,98,101]}
abbrev V6:ByteArray:={data:=#[97,32,110,105,108,32,116,104,105,110,103]}
abbrev V7:ByteArray:={data:=#[110,111,116,32,110,111,119]}
abbrev V8:ByteArray:={data:=#[97,32,115,108,111,116,32,116,104,97,116,32,105,115,32,102,114,101,101]}
abbrev V9:ByteArray:={data:=#[97,32,115,108,111,116,32,116,104,97,116,32,105,115,32,97,110,111,116,104,101,114,32,111,110,101,32,110,111,119]}
abbrev We:ByteArray:={data:=#[100,111,110,101,32,97,108,114,101,97,100,121]}
noncomputable def jv:Nat:=(World.holding Tryd.prog default ⟨#[],#[],[]⟩).heap.size
def oU (h:Array Obj) (g:Nat) (a:Addr):Array Obj :=
 h.modify g fun
   | .cells _ t frozen=>.cells #[.iface 177 (.pointer (some a))] t frozen
   | o=>o
noncomputable def wL (os:Os):World :=
 let w0:=World.holding Tryd.prog os ⟨#[.cells #[.string V5] 198,.cells #[.string V6] 198,.cells #[.string V7] 198,.cells #[.string V8] 198,.cells #[.string V9] 198,.cells #[.string We] 198],#[],[]⟩
 {w0 with heap:=(oU (oU (oU (oU (oU (oU w0.heap 0 ⟨jv+0,0,none⟩) 2 ⟨jv+1,0,none⟩) 4 ⟨jv+2,0,none⟩) 3 ⟨jv+3,0,none⟩) 1 ⟨jv+4,0,none⟩) 5 ⟨jv+5,0,none⟩)}
theorem He (os:Os) (args:Array Value):laidMet Tryd.prog Rows.riteFreesRow.laid ((wL os).forCall (fun _ _=>0) ⟨#[],args,[]⟩).memory :=
 laidMet_of_run (ps:=[.cell 0 0,.cell (jv+0) 0,.cell 2 0,.cell (jv+1) 0,.cell 4 0,.cell (jv+2) 0,.cell 3 0,.cell (jv+3) 0,.cell 1 0,.cell (jv+4) 0,.cell 5 0,.cell (jv+5) 0]) 8 (by kernel_rfl) (by kernel_rfl) (by kernel_rfl)
theorem Oe {W:World} (h:laidMet Tryd.prog Rows.riteFreesRow.laid W):∃al:List Addr,qZ W (Mg.ss 177 198) al∧al.Nodup∧∀a∈al,∃c t,W.heap[a.block]?=some (.cells c t (0,0)) :=
 Ha (sl:=Mg) (nm := "*errors.errorString") Tryd.underlying27 QX Tryd.underlying177 Tryd.underlying198 rfl rfl Tryd.underlying9 Kv Kw (by kernel_rfl) h
set_option maxRecDepth 100000 in
theorem Ky (os:Os) (started:os.Started) (H:Type) (enc:TypeId × Value→H) :
  ReturnsInHanded {} Tryd.checked os 10 .any (fun w args=>(Rows.riteFreesSpec.pre enc Tryd.prog Tryd.f10 [] false w args∧laidMetH Tryd.prog Rows.riteFreesRow.laid w)∧sizedMet enc Tryd.prog Tryd.f10 (OpenSpec.ofChange Rows.riteFreesSpec) false w args)
   (Rows.riteFreesSpec.post enc Tryd.prog Tryd.f10 false true false false):=by
 refine returnsInHanded_of_change_and (C:=Tryd.checked) (X:=fun w _=>laidMetH Tryd.prog Rows.riteFreesRow.laid w) (fun _ _ _ hh h=>h.of_heap hh) QW started (by kernel_rfl) Tryd.func10
  (ChangeSpec.witness_at (enc:=enc) (C:=Tryd.checked) (os:=os) (X:=fun w _=>laidMetH Tryd.prog Rows.riteFreesRow.laid w) false (wL os) #[.agg #[.int .i64 0,.int .i64 0,.int .i64 0,.int .i64 0],.slice none 0 0] 8 rfl (by kernel_rfl) (by kernel_rfl) (by kernel_rfl) (by kernel_rfl) (by kernel_rfl) (laidMetH_of_parts (He os _) (by kernel_rfl))) ?_
 intro W base args ds gs before hval hW _ _ hL _
 obtain ⟨al,ha,hnd,hcs⟩:=Oe hL
 exact O9 Hd (fn:=Tryd.f10) (s:=Rows.riteFreesSpec) (sh:=(Kt 4)) (tb:=4) (by kernel_rfl) (by kernel_rfl) rfl rfl Tryd.underlying4
  (fun H ds h=>by
    match ds,h with
    | [_,_],_=>exact ⟨rfl,rfl,rfl⟩) ha hnd hcs rfl rfl QV hval hW
theorem KN:Rows.RiteFreesSaid :=
 OpenClaim.holds_of_wide 10 Tryd.f10 rfl rfl rfl rfl rfl rfl rfl ⟨rfl,rfl,rfl,rfl,rfl⟩ rfl rfl rfl rfl rfl (by kernel_rfl) Tryd.func10 (by kernel_rfl)
  (of_decide_eq_true (by kernel_rfl)) (by unfold Func.isWrapper;first | (rw [if_pos (by decide +kernel)];kernel_rfl) | (rw [if_neg (by decide +kernel)];exact ⟨rfl,rfl⟩))
  (fun os started H enc _=>Ky os started H enc)
theorem frees_card:Rows.RiteFreesCardSaid :=
 Claim7.holds_tied_plain_at .later [] [.sentinel,.sentinel,.sentinel,.sentinel,.sentinel,.sentinel] true (true, "0a4b81ae7c557eb35923e698271d12e0952e248465ee30472e9bb18dca02c551") true
  KN (fun _ h=>by cases h) (by kernel_rfl) (fun _ h=>by cases h) riteFrees_row_tie rfl ⟨rfl,rfl⟩ (by kernel_rfl) rfl
  (fun f fn hf hfn=>by
    obtain rfl:f=10:=Option.some.inj ((show Tryd.prog.funcNamed "sexton/sextonlaw06.RiteFrees" = some 10 by kernel_rfl).symm.trans hf) |>.symm
    obtain rfl:fn=Tryd.f10:=(Option.some.inj (Tryd.func10.symm.trans hfn)).symm
    refine ⟨by kernel_rfl,fun j t ht=>?_⟩
    rw [Tryd.params10] at ht
    rcases j with _ | _ | j
    · obtain rfl:t=52:=by simpa using ht.symm
      exact (show Tryd.prog.wantsStandIn 52=false by kernel_rfl)
    · obtain rfl:t=22:=by simpa using ht.symm
      exact (show Tryd.prog.wantsStandIn 22=false by kernel_rfl)
    · simp at ht)
  (by kernel_rfl)
end Go.Proofs.YthomdlajobnmnaaDoor
