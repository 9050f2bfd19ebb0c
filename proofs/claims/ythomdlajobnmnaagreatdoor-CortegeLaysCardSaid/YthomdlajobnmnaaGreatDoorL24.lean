/- part 24 of the proof -/
import Derived.Tactics
import Derived.Tactics2
import Derived.Deep.QuietTactic
import Derived.BigQuiet
import Derived.Maps.AppendAt
import Derived.Test.YthomdlajobnmnaaGreatDoorL10
import Derived.Test.YthomdlajobnmnaaGreatDoorL18
import Derived.Test.YthomdlajobnmnaaGreatDoorL20
import Derived.Test.YthomdlajobnmnaaGreatDoorL21
import Derived.Test.YthomdlajobnmnaaGreatDoorL22
import Derived.Test.YthomdlajobnmnaaGreatDoorL23
set_option linter.unusedSimpArgs false
set_option linter.unusedVariables false
namespace Go.Proofs.YthomdlajobnmnaaGreatDoor
open Go.RowKit Go.Rex
section
variable {I:Nat→Wk→Prop} {w:World} {b base A:Nat} {k:Wk} {aP:Addr} {p:PS} {B BP:Nat→Prop} {cZ:Nat→Addr}
end
section
variable {w:World} {b base A:Nat} {k:Wk} {B:Nat→Prop}
end
structure jC (w1 w:World) (aP:Addr) (aW A:Nat→Nat) (base g n:Nat) (p:PS) (W:Nat→Wk):Prop where
 cr:∃F:Nat→Prop,jf w aP aW A base n p W F∧∀b,F b→w1.heap.size≤b∧b≠g
 row:∀i,i<n→w.cell? ⟨g,i,none⟩=some (.pointer (some ⟨aW i,0,none⟩))
 nw:Nw w1 w
 hbase:base≤w.heap.size
section
variable {w1 w w':World} {aP:Addr} {aW A:Nat→Nat} {base g n i:Nat} {p:PS} {W:Nat→Wk} {I:Nat→Wk→Prop} {cZ:Nat→Addr}
theorem jC.wk (R:jC w1 w aP aW A base g n p W) (hi:i<n):∃B,aO w (aW i) base (A i) (W i) B:=by
 obtain ⟨F,hC,-⟩:=R.cr
 obtain ⟨BP,BM,h1,h2,-⟩:=hC.ex
 exact ⟨_,h2 i hi⟩
end
section
variable {w1 w:World} {aP:Addr} {aW A:Nat→Nat} {base g n c:Nat} {p:PS} {W:Nat→Wk} {cZ:Nat→Addr} {S:Nat→Nat→PS→(Nat→Wk)→Prop}
end
theorem Y8 {α:Type} (f:Nat→α) (i:Nat):lS f i (f i)=f:=by
 funext k
 by_cases h:k=i
 ·rw [h,df]
 ·rw [eY _ _ h]
theorem EO (w:World):Calls Tryz.prog 17 #[] w fun e w'=>e=.returned (.int .i64 85)∧w'=w:=by
 go_enter Tryz.func17,Tryz.ntmps17
 go_wp2
 go_ret
 exact ⟨rfl,rfl⟩
def sW:dJ:={f:=33,nv:=0,args:=[],hp:=[],iC:=0,ret:=.w (.agg [.int .i64 (.lit 0),.int .i64 (.lit 0),.int .i64 (.lit 24)]),hp':=[]}
noncomputable def Y9:Ex:={sched:=sched,loops:=[],cons:=[],fin:=sW}
theorem Xp:exec tab Y9 1000 [] (dZ sW.f sW.nv [] sW.gl sW.hp sW.args)=.fin {lo:=0,az:=0}:=by kernel_rfl
theorem Xq:aV Tryz.prog sW (fun _=>True) (fun _=>True) :=
 cK dF (E:=Y9) (cs:=[]) rfl (fun k pre post h=>by cases h) bO rfl Xp (by kernel_rfl) (fun ρ _ p hp=>by cases hp) (fun ρ _=>Sat.fin trivial)
theorem UF (w:World):Calls Tryz.prog 33 #[] w fun e w'=>e=.returned (.agg #[.int .i64 0,.int .i64 0,.int .i64 24])∧Nw w w':=by
 refine Calls.mono (Xq.run (Rj fun _=>0) (fun _=>⟨0,0,none⟩) w EH ⟨fun g k _ h=>(by cases h),fun g g' k k' _ _ h=>(by cases h)⟩ trivial) ?_
 rintro e w' ⟨ρ,ν,hA,rfl,gJ,hwr,how,-⟩
 exact ⟨rfl,hwr.os,hwr.tape,hwr.output,hwr.size,fun k hk _=>hwr.block k hk fun ⟨j,sb,hj,_⟩=>by
   have hj:([]:List SB)[j]?=some sb:=hj
   simp at hj⟩
def EP:Ac:=⟨2,0,0,24,⟨0,0,0,0,false⟩,⟨0,0,0,1,false⟩⟩
theorem Rt {p:PS} {m:Int} (h:xL p 85 m):∃p',p.act EP=(p',some ⟨Wd.zero,true⟩)∧p'={p with steps:=p.steps+1,bd:=fun b=>if b=24 then ⟨0,0,0,1,false⟩ else p.bd b}:=by
 have hv:p.has 0 0 24:=by simp [PS.has,h.nb]
 refine ⟨_,oo hv (.inl rfl),?_⟩
 unfold PS.put
 rw [if_pos rfl]
 rfl
theorem jA.nw {w w':World} {cZ:Nat→Addr} (h:jA w cZ) (hz:∀k,k<8→(cZ k).block<w.heap.size) (hn:Nw w w'):jA w' cZ :=
 h.frame hn.size fun k hk=>hn.block _ (hz k hk) id
theorem Za {w w':World} {base:Nat} {e:TypeId} {size:Nat} {v:Value} {n:Nat} {xs:List Value} (h:w.ownsRow base e size v n xs) (hn:Nw w w'):w'.ownsRow base e size v n xs:=by
 obtain ⟨h1,h2 | ⟨g,cap,cur,h2,h3,h4,h5⟩⟩:=h
 ·exact ⟨h1,.inl h2⟩
 ·refine ⟨h1,.inr ⟨g,cap,cur,h2,h3,?_,h5⟩⟩
  rw [hn.block g ?_ id]
  ·exact h4
  ·rcases Nat.lt_or_ge g w.heap.size with h | h
   ·exact h
   ·rw [Array.getElem?_eq_none h] at h4;cases h4
theorem M0 {w0 w w':World} {row:Option Nat} (h:Nw w0 w) (hg:w.grownBy w' row) (hr:∀g,row=some g→w0.heap.size≤g):Nw w0 w' :=
 h.step hg.os hg.tape hg.output hg.size fun k hk _=>hg.block k (Nat.lt_of_lt_of_le hk h.size) fun e=>by have:=hr k e.symm;omega
section
variable {A:Nat→Nat} {L:Nat→List Op}
end
def ssE:List (Nat × TypeId × TypeId):=[(0,224,249),(1,224,249),(4,224,249),(5,224,249),(7,224,249),(6,224,249),(2,224,249)]
def ssT:List (Nat × TypeId × TypeId):=[(0,224,249),(1,224,249),(4,224,249),(5,224,249),(7,224,249),(6,224,249)]
def Zb:dJ:={f:=31,nv:=1,hp:=[{t:=163,cs:=[.int .i64 (.var 0),.iface 224 (.ptr {aC:=1})],ro:=true},{t:=500000+249,cs:=[.hole],ro:=true}],args:=[.one (.iface 161 (.ptr {aC:=0})),.one (.iface 224 (.ptr {aC:=1}))],iC:=1,ret:=.w (.one (.bool (.lit true))),hp':=[dI,dI]}
end Go.Proofs.YthomdlajobnmnaaGreatDoor
