/- part 19 of the proof -/
import Derived.Test.YthomdlajobnmnaaGreatDoorT18
set_option linter.unusedSimpArgs false
set_option linter.unusedVariables false
namespace Go.Proofs.YthomdlajobnmnaaGreatDoor
open Go.RowKit Go.Rex
def oG:List SB:=[Vp 0]
theorem Ou:qh oG=true:=by kernel_rfl
structure oH (w:World) (a:Addr) (j:Jb) (B:Nat→Prop):Prop where
 ex:∃ρ ν,ν 0=a∧aK ρ ν oG w∧ll ρ 0=j∧∀b,fZ ρ ν oG b→B b
section
variable {w w':World} {a:Addr} {j:Jb} {B B':Nat→Prop}
theorem oH.frame (h:oH w a j B) (hk:∀b,B b→w'.heap[b]?=w.heap[b]?):oH w' a j B:=by
 obtain ⟨ρ,ν,h1,h2,h3,h5⟩:=h.ex
 exact ⟨ρ,ν,h1,h2.Eg Ou fun b hb=>hk b (h5 b hb),h3,h5⟩
theorem oH.mono (h:oH w a j B) (hk:∀b,B b→b<w.heap.size→B' b):oH w a j B':=by
 obtain ⟨ρ,ν,h1,h2,h3,h5⟩:=h.ex
 exact ⟨ρ,ν,h1,h2,h3,fun b hb=>hk b (h5 b hb) (pg h2 hb)⟩
end
def Vq (o:Op):Value:=.agg #[.int .i64 o.kind,.int .i64 o.key,.int .i64 o.val,.int .i64 o.Fz]
def Vr (o:Op):Env:=Cm (fun i=>([o.kind,o.key,o.val,o.Fz]:List Int).getD i 0) fun _=>false
theorem TN {w:World} {o:Op} (h:o.dF) :
  Calls Tryz.prog 29 #[Vq o] w fun ev w'=>∃a B,ev=.returned (.tuple #[.pointer (some a),.nilIface])∧oH w' a (Jb.new o) B∧(∀b,B b→w.heap.size≤b)∧Nw w w':=by
 have hrun:=Ot.run (Vr o) (fun _=>⟨0,0,none⟩) w H8 ⟨fun g k _ h=>(by cases h),fun g g' k k' _ _ h=>(by cases h)⟩ h
 refine Calls.mono hrun ?_
 rintro e w' ⟨ρ,ν,hA,rfl,gW,hwr,how,q1⟩
 have hn:∀b,¬iN (Vr o) (fun _=>(⟨0,0,none⟩:Addr)) dA.hp b:=fun b ⟨k,sb,hk,_⟩=>by
  have hk:([]:List SB)[k]?=some sb:=hk
  simp at hk
 have e0:xk ρ 0=o:=by
  unfold xk
  rw [hA.iv 0 (by decide),hA.iv 1 (by decide),hA.iv 2 (by decide),hA.iv 3 (by decide)]
  rfl
 have sub:(List.range oG.length).map (fun j=>dA.hp'[id j]?)=oG.map fun sb=>some (sb.aT (·+4) id):=by kernel_rfl
 replace q1:ll ρ 4=Jb.new (xk ρ 0):=q1
 rw [e0] at q1
 refine ⟨ν 0,_,rfl,⟨ρ.pull (·+4),fun k=>ν (id k),rfl,gW.sub sub fun i j _ _ h=>h,q1,fun _ h=>h⟩,fun b hb=>((how.sub sub).aD Ou hb).elim id fun h=>absurd h (hn b),hwr.os,hwr.tape,hwr.output,hwr.size,fun k hk _=>hwr.block k hk (hn k)⟩
theorem WI {w:World} {a:Addr} {j:Jb} {B:Nat→Prop} {x:Rp} (h:oH w a j B) (ht:-1000000000000≤j.top.tag∧j.top.tag≤1000000000000) :
  Calls Tryz.prog 30 #[.pointer (some a),iX x] w fun ev w'=>ev=.returned (pU (j.next x).2)∧∃B',oH w' a (j.next x).1 B'∧(∀b,B' b→w.heap.size≤b∨B b)∧bU w B w':=by
 obtain ⟨ρ,ν,rfl,hh0,rfl,hB⟩:=h.ex
 have hA:di 34 1 ρ (ρ.cat 34 (Ia x)) ν ν:=⟨fun _ h=>if_pos h,fun _ h=>if_pos h,fun _ h=>if_pos h,fun _ h=>if_pos h,fun _ h=>if_pos h,fun _ h=>if_pos h,fun _ _=>rfl⟩
 obtain ⟨q,hq⟩:∃q,q=ρ.cat 34 (Ia x):=⟨_,rfl⟩
 rw [←hq] at hA
 have hh:aK q ν oG w:=hh0.ext hA (by kernel_rfl) (by decide)
 have e1:ll q 0=ll ρ 0:=by rw [hq];rfl
 have e2:aH q 34=x:=by rw [hq];rfl
 rw [←e1] at ht
 have hrun:=QX.run q ν w hh ⟨fun g k _ h=>(by cases h),fun g g' k k' _ _ h=>(by cases h)⟩ ht
 have hargs:(kJ.args.map (·.den q ν)).toArray=#[.pointer (some (ν 0)),iX x]:=by
  rw [hq]
  rfl
 rw [hargs] at hrun
 refine Calls.mono hrun ?_
 rintro ev w' ⟨ρ',aI,hA',rfl,gW,hwr,how,q1,q2⟩
 have e0:ll ρ' 0=ll q 0:=by
  unfold ll iW xk ak
  simp (disch:=decide) only [hA'.iv,hA'.bv]
 have e3:aH ρ' 34=aH q 34:=by
  unfold aH ak
  simp (disch:=decide) only [hA'.iv,hA'.bv]
 replace q1:ll ρ' 40=((ll ρ' 0).next (aH ρ' 34)).1:=q1
 replace q2:iW ρ' 74=((ll ρ' 0).next (aH ρ' 34)).2:=q2
 rw [e0,e3,e1,e2] at q1 q2
 have sub:(List.range oG.length).map (fun j=>kJ.hp'[id j]?)=oG.map fun sb=>some (sb.aT (·+40) id):=by kernel_rfl
 have lh:∀x,iN q ν oG x→B x:=fun x h=>hB x ((ql hA (by kernel_rfl) (by decide)).1 (lV h))
 refine ⟨?_,_,⟨ρ'.pull (·+40),fun k=>aI (id k),?_,gW.sub sub (fun i j _ _ h=>h),q1,fun _ h=>h⟩,fun b hb=>((how.sub sub).aD Ou hb).imp id (lh b),hwr.os,hwr.tape,hwr.output,hwr.size,fun b hb hn=>hwr.block b hb fun h=>hn (lh b h)⟩
 ·rw [←q2]
  rfl
 ·show aI 0=ν 0
  exact hA'.bl 0 (by decide)
end Go.Proofs.YthomdlajobnmnaaGreatDoor
namespace Go.Proofs.YthomdlajobnmnaaGreatDoor
open Go.Rex
def WSt (w:Wk) (l:Lo) (t:RT):Prop :=
 (w.j=none∧w.bV=false∧StA l t)∨(w.j=none∧w.bV=true∧∃x,t=.idle x) ∨
 (∃o,w.j=some (Jb.new o)∧w.bV=true∧w.said.length<3∧o∈Ei∧StB l t) ∨
 ∃o,w.j=some {Jb.new o with at':=1}∧w.bV=true∧w.said.length<3∧o∈Ei∧StC l t
structure Pe (w:Wk) (l:Lo) (t:RT):Prop where
 rep:ib l t w.r
 ok:l.OK
 notes:l.notes=[]
 freed:l.freed=0
 ops:w.ops=Ei
 said:w.said=List.replicate w.said.length (2,0)
 le:w.said.length≤3
 st:WSt w l t
def Wk.rem (w:Wk):Nat :=
 match w.j with
 | none=>if w.bV=true then 4 * (3-w.said.length)+1 else 4 * (3-w.said.length)
 | some j=>if j.at'=0 then 4 * (3-w.said.length)-1 else 4 * (3-w.said.length)-2
def wM (w:Wk) (l:Lo) (t:RT):Nat:=20 * w.rem+mT l t
theorem Vs {k:Int} (h:1≤k∧k≤11):(Ca.of k).OK:=by
 have h9:(0:Int)≤0∧(0:Int)<9:=by decide
 exact ⟨h.1,h.2,h9.1,h9.2,h9.1,h9.2⟩
theorem Pe.end {w:Wk} {l:Lo} {t:RT} (H:Pe w l t) (h:w.idle):w.said=[(2,0),(2,0),(2,0)]:=by
 have h3:w.said.length=3:=by
  have:=h.2.2.2
  rw [H.ops] at this
  have:=H.le
  simp only [Ei,List.length_cons,List.length_nil] at *
  omega
 rw [H.said,h3]
 rfl
end Go.Proofs.YthomdlajobnmnaaGreatDoor
