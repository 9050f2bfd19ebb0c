/- part 24 of the proof -/
import Derived.Tactics
import Derived.Tactics2
import Derived.Deep.QuietTactic
import Derived.BigQuiet
import Derived.Maps.AppendAt
import Derived.Test.YthomdlajobnmnaaGreatDoorX17
import Derived.Test.YthomdlajobnmnaaGreatDoorX20
import Derived.Test.YthomdlajobnmnaaGreatDoorX21
import Derived.Test.YthomdlajobnmnaaGreatDoorX22
import Derived.Test.YthomdlajobnmnaaGreatDoorX23
import Derived.Test.YthomdlajobnmnaaGreatDoorX9
set_option linter.unusedSimpArgs false
set_option linter.unusedVariables false
namespace Go.Proofs.YthomdlajobnmnaaGreatDoor
open Go.RowKit Go.Rex
section
variable {I:Nat→Wk→Prop} {w:World} {b base A:Nat} {k:Wk} {aP:Addr} {p:PS} {B BP:Nat→Prop} {dC:Nat→Addr}
end
section
variable {w:World} {b base A:Nat} {k:Wk} {B:Nat→Prop}
end
structure iX (w1 w:World) (aP:Addr) (aW A:Nat→Nat) (base g n:Nat) (p:PS) (W:Nat→Wk):Prop where
 cr:∃F:Nat→Prop,jD w aP aW A base n p W F∧∀b,F b→w1.heap.size≤b∧b≠g
 row:∀i,i<n→w.cell? ⟨g,i,none⟩=some (.pointer (some ⟨aW i,0,none⟩))
 nw:Nw w1 w
 hbase:base≤w.heap.size
section
variable {w1 w w':World} {aP:Addr} {aW A:Nat→Nat} {base g n i:Nat} {p:PS} {W:Nat→Wk} {I:Nat→Wk→Prop} {dC:Nat→Addr}
theorem iX.wk (R:iX w1 w aP aW A base g n p W) (hi:i<n):∃B,aQ w (aW i) base (A i) (W i) B:=by
 obtain ⟨F,hC,-⟩:=R.cr
 obtain ⟨BP,BM,h1,h2,-⟩:=hC.ex
 exact ⟨_,h2 i hi⟩
end
section
variable {w1 w:World} {aP:Addr} {aW A:Nat→Nat} {base g n c:Nat} {p:PS} {W:Nat→Wk} {dC:Nat→Addr} {S:Nat→Nat→PS→(Nat→Wk)→Prop}
end
theorem ae1 {α:Type} (f:Nat→α) (i:Nat):jN f i (f i)=f:=by
 funext k
 by_cases h:k=i
 ·rw [h,bF]
 ·rw [dR _ _ h]
theorem TG (w:World):Calls Tryz.prog 17 #[] w fun e w'=>e=.returned (.int .i64 85)∧w'=w:=by
 go_enter Tryz.func17,Tryz.ntmps17
 go_wp2
 go_ret
 exact ⟨rfl,rfl⟩
def uG:dQ:={f:=33,nv:=0,args:=[],hp:=[],jf:=0,ret:=.w (.agg [.int .i64 (.lit 0),.int .i64 (.lit 0),.int .i64 (.lit 24)]),hp':=[]}
noncomputable def ae2:Ex:={sched:=sched,loops:=[],cons:=[],fin:=uG}
theorem acg:exec tab ae2 1000 [] (fE uG.f uG.nv [] uG.gl uG.hp uG.args)=.fin {lo:=0,ah:=0}:=by kernel_rfl
theorem ach:bg Tryz.prog uG (fun _=>True) (fun _=>True) :=
 dA dO (E:=ae2) (cs:=[]) rfl (fun k pre post h=>by cases h) bX rfl acg (by kernel_rfl) (fun ρ _ p hp=>by cases hp) (fun ρ _=>Sat.fin trivial)
theorem Zp (w:World):Calls Tryz.prog 33 #[] w fun e w'=>e=.returned (.agg #[.int .i64 0,.int .i64 0,.int .i64 24])∧Nw w w':=by
 refine Calls.mono (ach.run (V9 fun _=>0) (fun _=>⟨0,0,none⟩) w G8 ⟨fun g k _ h=>(by cases h),fun g g' k k' _ _ h=>(by cases h)⟩ trivial) ?_
 rintro e w' ⟨ρ,ν,hA,rfl,iw,hwr,how,-⟩
 exact ⟨rfl,hwr.os,hwr.tape,hwr.output,hwr.size,fun k hk _=>hwr.block k hk fun ⟨j,sb,hj,_⟩=>by
   have hj:([]:List SB)[j]?=some sb:=hj
   simp at hj⟩
def Hg:Ac:=⟨2,0,0,24,⟨0,0,0,0,false⟩,⟨0,0,0,1,false⟩⟩
theorem Wy {p:PS} {m:Int} (h:Dk p 85 m):∃p',p.act Hg=(p',some ⟨Wd.zero,true⟩)∧p'={p with steps:=p.steps+1,bd:=fun b=>if b=24 then ⟨0,0,0,1,false⟩ else p.bd b}:=by
 have hv:p.has 0 0 24:=by simp [PS.has,h.nb]
 refine ⟨_,rz hv (.inl rfl),?_⟩
 unfold PS.put
 rw [if_pos rfl]
 rfl
theorem lH.nw {w w':World} {dC:Nat→Addr} (h:lH w dC) (hz:∀k,k<8→(dC k).block<w.heap.size) (hn:Nw w w'):lH w' dC :=
 h.frame hn.size fun k hk=>hn.block _ (hz k hk) id
theorem nZ {w w':World} {base:Nat} {e:TypeId} {size:Nat} {v:Value} {n:Nat} {xs:List Value} (h:w.ownsRow base e size v n xs) (hn:Nw w w'):w'.ownsRow base e size v n xs:=by
 obtain ⟨h1,h2 | ⟨g,cap,cur,h2,h3,h4,h5⟩⟩:=h
 ·exact ⟨h1,.inl h2⟩
 ·refine ⟨h1,.inr ⟨g,cap,cur,h2,h3,?_,h5⟩⟩
  rw [hn.block g ?_ id]
  ·exact h4
  ·rcases Nat.lt_or_ge g w.heap.size with h | h
   ·exact h
   ·rw [Array.getElem?_eq_none h] at h4;cases h4
theorem xH {w0 w w':World} {row:Option Nat} (h:Nw w0 w) (hg:w.grownBy w' row) (hr:∀g,row=some g→w0.heap.size≤g):Nw w0 w' :=
 h.step hg.os hg.tape hg.output hg.size fun k hk _=>hg.block k (Nat.lt_of_lt_of_le hk h.size) fun e=>by have:=hr k e.symm;omega
section
variable {A:Nat→Nat} {L:Nat→List Op}
end
end Go.Proofs.YthomdlajobnmnaaGreatDoor
namespace Go.Proofs.YthomdlajobnmnaaGreatDoor.Cq
open Go.RowKit Go.Rex
def Hl:Op:=⟨5,0,0,0⟩
def Dm (val:Int):Op:=⟨4,0,val,0⟩
section
variable {Q:Vk→PS→Prop} {c n:Nat} {l:Lo} {ops:List Op} {said:List (Int × Int)} {p:PS} {y:Rp} {s g val:Int}
end
structure Laid (m:Int) (p:PS):Prop where
 nb:p.nb=85
 ns:p.ns=m
 nf:p.nf=m-1
 bT:p.bT=true
 steps:p.steps=4
 gen:∀i,p.gen i=if i=0 then 1 else 0
 used:∀i,p.used i=if i=0 then true else false
 cell:∀i k,p.cell i k=Wd.zero
 fr:∀i:Nat,(i:Int)<m→p.fr i=m-i
 bd:∀i,p.bd i=if i=1 then ⟨1,1,0,0,false⟩ else if i=0 then ⟨1,1,0,0,false⟩ else if i=24 then ⟨0,0,0,1,false⟩ else Wd.zero
 ok:p.OK
theorem aga (k:Nat):iM 0 k=Wd.zero:=by
 unfold iM
 split <;> rfl
theorem Zq {p0:PS} {m:Int} (h:Dk p0 85 m) (hm:0<m∧m≤1024):∃p1 p2 p3 p,(p0.act Hg=(p1,some ⟨Wd.zero,true⟩)∧p1.act ⟨4,0,0,0,Wd.zero,Wd.zero⟩=(p2,some ⟨⟨1,1,0,0,false⟩,true⟩)∧p2.act (Ac.store 0 0 0 ⟨1,1,0,0,false⟩)=(p3,some ⟨Wd.zero,true⟩)∧p3.act (Ac.store 0 0 1 ⟨1,1,0,0,false⟩)=(p,some ⟨Wd.zero,true⟩))∧(p1.OK∧p2.OK∧p3.OK)∧(p1.steps=1∧p2.steps=2∧p3.steps=3)∧Laid m p:=by
 obtain ⟨p1,hp1,e1⟩:=Wy h
 have hok0:=h.ok ⟨by omega,hm.2⟩ ⟨by decide,by decide⟩
 have hfr:p1.fr (p1.nf-1).toNat=1:=by
  rw [e1]
  show p0.fr (p0.nf-1).toNat=1
  rw [h.nf,h.fr _ (by omega)]
  omega
 have hnf:¬({p1 with steps:=p1.steps+1}:PS).nf=0:=by
  rw [e1]
  show ¬p0.nf=0
  rw [h.nf]
  omega
 have hg:p1.gen (1-1:Int).toNat=0:=by rw [e1];exact h.gen _
 have ea:PS.alloc {p1 with steps:=p1.steps+1} 0=({p1 with steps:=p1.steps+1,nf:=p1.nf-1,made:=p1.made+1,gen:=fun i=>if i=(1-1:Int).toNat then 0+1 else p1.gen i,used:=fun i=>if i=(1-1:Int).toNat then true else p1.used i,cell:=fun i k=>if i=(1-1:Int).toNat∧k<10 then iM 0 k else p1.cell i k},⟨⟨1,0+1,0,0,false⟩,true⟩):=by
  unfold PS.alloc
  rw [if_neg hnf]
  simp only [hfr,hg]
 have h2:=Qd (p:=p1) (s:=0) (g:=0) (f:=0) (o:=Wd.zero) (w:=Wd.zero)
 rw [show Wd.zero.num=0 from rfl,ea] at h2
 generalize hp2:({p1 with steps:=p1.steps+1,nf:=p1.nf-1,made:=p1.made+1,gen:=fun i=>if i=(1-1:Int).toNat then 0+1 else p1.gen i,used:=fun i=>if i=(1-1:Int).toNat then true else p1.used i,cell:=fun i k=>if i=(1-1:Int).toNat∧k<10 then iM 0 k else p1.cell i k}:PS)=p2 at h2
 have hnb:p2.nb=85:=by rw [←hp2,e1];exact h.nb
 have h3:=rz (p:=p2) (s:=0) (g:=0) (f:=0) (o:=Wd.zero) (w:=⟨1,1,0,0,false⟩) (wu hnb (by decide)) (.inl rfl)
 have h4:=rz (p:=PS.put {p2 with steps:=p2.steps+1} 0 0 ⟨1,1,0,0,false⟩) (s:=0) (g:=0) (f:=1) (o:=Wd.zero) (w:=⟨1,1,0,0,false⟩) (wu (show _=(85:Int) from hnb) (by decide)) (.inl rfl)
 have o1:p1.OK:=by have:=hok0.act Hg;rw [hp1] at this;exact this
 have o2:p2.OK:=by have:=o1.act ⟨4,0,0,0,Wd.zero,Wd.zero⟩;rw [h2] at this;exact this
 have o3:=o2.act (Ac.store 0 0 0 ⟨1,1,0,0,false⟩)
 rw [show p2.act (Ac.store 0 0 0 ⟨1,1,0,0,false⟩)=_ from h3] at o3
 have o4:=PS.OK.act o3 (Ac.store 0 0 1 ⟨1,1,0,0,false⟩)
 rw [show PS.act _ (Ac.store 0 0 1 ⟨1,1,0,0,false⟩)=_ from h4] at o4
 have s1:p1.steps=1:=by rw [e1];show p0.steps+1=1;rw [h.steps];rfl
 have s2:p2.steps=2:=by rw [←hp2];show p1.steps+1=2;rw [s1];rfl
 have s3:(PS.put {p2 with steps:=p2.steps+1} 0 0 ⟨1,1,0,0,false⟩).steps=3:=by show p2.steps+1=3;rw [s2];rfl
 refine ⟨p1,p2,_,_,⟨hp1,h2,h3,h4⟩,⟨o1,o2,o3⟩,⟨s1,s2,s3⟩,⟨hnb,?_,?_,?_,?_,fun i=>?_,fun i=>?_,fun i k=>?_,fun i hi=>?_,fun i=>?_,o4⟩⟩
 ·show p2.ns=m
  rw [←hp2,e1];exact h.ns
 ·show p2.nf=m-1
  rw [←hp2,e1]
  show p0.nf-1=m-1
  rw [h.nf]
 ·show p2.bT=true
  rw [←hp2,e1];exact h.bT
 ·show (PS.put {p2 with steps:=p2.steps+1} 0 0 ⟨1,1,0,0,false⟩).steps+1=4
  rw [s3];rfl
 ·show p2.gen i=_
  rw [←hp2,e1]
  show (if i=0 then (0:Int)+1 else p0.gen i)=_
  rw [h.gen i]
  rfl
 ·show p2.used i=_
  rw [←hp2,e1]
  show (if i=0 then true else p0.used i)=_
  rw [h.used i]
 ·show p2.cell i k=_
  rw [←hp2,e1]
  show (if i=0∧k<10 then iM 0 k else p0.cell i k)=_
  rw [h.cell i k,aga]
  split <;> rfl
 ·show p2.fr i=_
  rw [←hp2,e1]
  exact h.fr i hi
 ·show (if i=1 then (⟨1,1,0,0,false⟩:Wd) else if i=0 then ⟨1,1,0,0,false⟩ else p2.bd i)=_
  rw [←hp2,e1]
  show (if i=1 then (⟨1,1,0,0,false⟩:Wd) else if i=0 then ⟨1,1,0,0,false⟩ else if i=24 then ⟨0,0,0,1,false⟩ else p0.bd i)=_
  rw [h.bd i]
theorem Laid.wb {m:Int} {p:PS} (h:Laid m p):p.wb 10:=by
 have hz:Wb 10 Wd.zero:=Wb.zero (by decide)
 have h1:Wb 10 (⟨1,1,0,0,false⟩:Wd):=⟨by decide,by decide,by decide,by decide⟩
 refine ⟨fun i=>?_,fun i j=>by rw [h.cell];exact hz⟩
 rw [h.bd i]
 split
 ·exact h1
 split
 ·exact h1
 split
 ·exact ⟨by decide,by decide,by decide,by decide⟩
 ·exact hz
end Go.Proofs.YthomdlajobnmnaaGreatDoor.Cq
namespace Go.Proofs.YthomdlajobnmnaaGreatDoor.Cq
open Go.RowKit Go.Rex
def xI (c:Ca) (R:Wd→Prop):RT→Prop
 | .bW c'=>c'=c
 | .ib c' w=>c'=c∧R w
 | .gz c' _=>c'=c
 | .idle x=>R x.word
 | _=>False
def Hm (a:Ac) (R:Rp→Prop):RT→Prop
 | .one b=>b=a
 | .idle x=>R x
 | _=>False
def QK:RT→Prop
 | .lC | .fin _ | .idle _=>True
 | _=>False
def Ku:RT→Prop
 | .ik _ | .fin _ | .idle _=>True
 | _=>False
def xJ (o:Wd) (A B:Prop):RT→Prop
 | .fB o'=>o'=o∧A
 | .iT o' _=>o'=o∧A
 | .iD _ | .kT | .fM _ _ | .jo _ | .fG | .iA _ _ | .idle _=>B
 | _=>False
inductive iq:List (Int × Int)→Nat→Prop
 | nil:iq [] 0
 | no {l:List (Int × Int)} {c:Nat}:iq l c→iq (l ++ [(2,0)]) c
 | yes {l:List (Int × Int)} {c:Nat}:iq l c→iq (l ++ [(1,(c:Int))]) (c+1)
def Gh.PT (G:Gh):Prop:=G.tl.s≠G.hd.s
def Gh.TW (G:Gh) (t:Wd):Prop:=t.tag≤G.tt∧(t.tag=G.tt→t=G.tW)∧(t.slot≠G.hd.s→G.PT)∧(t.tag<G.tt→G.PT)
def Gh.NX (G:Gh) (w:Wd):Prop:=w=Wd.zero∨∃n1,G.ns[1]?=some n1∧w=lk n1
inductive JD (G:Gh) (t:RT) (j:Jb) (said:List (Int × Int)):Prop
 | s0 (h0:j.at'=0) (hr:G.ret=[]) (ht:QK t) (ha:iq said G.d)
 | s1 (h0:j.at'=1) (hr:G.ret=[]) (ht:xI (uZ 0) (·=G.hW) t) (ha:iq said G.d)
 | s2 (h0:j.at'=2) (hr:G.ret=[]) (hh:j.h=G.hW) (ht:Hm (Ac.load 0 0 1) (fun x=>G.TW x.word) t) (ha:iq said G.d)
 | s3 (h0:j.at'=3) (hr:G.ret=[]) (hh:j.h=G.hW) (hw:G.TW j.t) (ht:xI (U7 j.h 2 1) G.NX t) (ha:iq said G.d)
 | s4 (h0:j.at'=4) (hr:G.ret=[]) (hh:j.h=G.hW) (hw:G.TW j.t) (hn:G.NX j.n) (ht:Hm (Ac.load 0 0 0) (fun x=>x.word=G.hW) t) (ha:iq said G.d)
 | s5 (h0:j.at'=5) (hr:G.ret=[]) (hh:j.h=G.hW) (hw:G.TW j.t) (hs:j.t.slot=G.hd.s) (hn:G.NX j.n) (hn0:j.n.slot≠0) (ht:Hm ⟨3,0,0,1,j.t,qf j.t j.n⟩ (fun _=>G.PT) t) (ha:iq said G.d)
 | s6 (h0:j.at'=6) (hr:G.ret=[]) (hh:j.h=G.hW) (hn:G.NX j.n) (hn0:j.n.slot≠0) (hp:G.PT) (ht:Hm (Ac.load j.n.slot j.n.gen 1) (fun x=>x.word.num=G.d) t) (ha:iq said G.d)
 | s7 (h0:j.at'=7) (hr:G.ret=[]) (hh:j.h=G.hW) (hn:G.NX j.n) (hn0:j.n.slot≠0) (hp:G.PT) (hv:j.val=G.d) (ht:t=.one ⟨3,0,0,0,j.h,qf j.h j.n⟩) (ha:iq said G.d)
 | nM (h0:j.at'=7) (n0:Nd) (c:Nat) (hr:G.ret=[n0]) (hh:j.h.slot=n0.s∧j.h.gen=n0.g) (hv:j.val=c) (hc:G.d=c+1) (x:Rp) (ht:t=.idle x) (hx:x.ok=true) (ha:iq said c)
 | s8 (h0:j.at'=8) (c:Nat) (hv:j.val=c) (hc:G.d=c+1) (ht:xJ j.h (∃n0,G.ret=[n0]∧j.h.slot=n0.s∧j.h.gen=n0.g) (G.ret=[]) t) (ha:iq said c)
structure D1 (G:Gh) (v:Vk):Prop where
 ops:∃b,b≤12∧v.ops=List.replicate b Hl
 sl:v.said.length≤v.ops.length
 st:(v.j=none∧G.ret=[]∧(v.aV=true→∃x,v.t=.idle x)∧Ku v.t∧iq v.said G.d)∨(∃j,v.j=some j∧v.aV=true∧j.op=Hl∧v.said.length<v.ops.length∧JD G v.t j v.said)
def Gh.m (G:Gh):Nat:=G.d+G.fr.length
def Gh.Hd (G:Gh) (n:Nd) (j:Jb):Prop:=G.hand=[n]∧n.v=G.m∧j.node=⟨n.s,n.g,0,0,false⟩
def PS.vl (p:PS) (n:Nd):Prop:=p.cell (n.s-1).toNat 1=Wd.dM n.v
def Gh.TL (G:Gh) (jt jn:Wd):Prop:=(G.lag=true∧jt=G.tW∧jn.slot=G.la.s∧jn.gen=G.la.g)∨(G.lag=false∧jt.tag<G.tt)
inductive JE (p:PS) (G:Gh) (t:RT) (j:Jb) (k:Nat):Prop
 | s0 (h0:j.at'=0) (hm:G.m=k) (hl:G.lag=false) (hh:G.hand=[]) (ht:QK t)
 | s1 (h0:j.at'=1) (hm:G.m=k) (hl:G.lag=false) (hh:G.hand=[]) (ht:t=.lT∨∃w,t=.one ⟨4,0,0,0,Wd.zero,w⟩)
 | s1' (h0:j.at'=1) (hm:G.m=k) (hl:G.lag=false) (n:Nd) (hh:G.hand=[n]) (hv:n.v=G.m) (ht:t=.idle ⟨⟨n.s,n.g,0,0,false⟩,true⟩)
 | s2 (h0:j.at'=2) (hm:G.m=k) (hl:G.lag=false) (n:Nd) (hh:G.Hd n j) (ht:t=.one ⟨2,n.s,n.g,1,Wd.zero,Wd.dM j.op.val⟩)
 | s2' (h0:j.at'=2) (hm:G.m=k) (hl:G.lag=false) (n:Nd) (hh:G.Hd n j) (hv:PS.vl p n) (x:Rp) (ht:t=.idle x)
 | s3 (h0:j.at'=3) (hm:G.m=k) (hl:G.lag=false) (n:Nd) (hh:G.Hd n j) (hv:PS.vl p n) (ht:xI (uZ 1) (·=G.tW) t)
 | s4 (h0:j.at'=4) (hm:G.m=k) (hl:G.lag=false) (n:Nd) (hh:G.Hd n j) (hv:PS.vl p n) (hj:j.t=G.tW) (ht:Hm (Ac.load j.t.slot j.t.gen 2) (fun x=>x.word=Wd.zero) t)
 | s5 (h0:j.at'=5) (hm:G.m=k) (hl:G.lag=false) (n:Nd) (hh:G.Hd n j) (hv:PS.vl p n) (hj:j.t=G.tW) (hn:j.n=Wd.zero) (ht:Hm (Ac.load 0 0 1) (fun x=>x.word=G.tW) t)
 | s7 (h0:j.at'=7) (hm:G.m=k) (hl:G.lag=false) (n:Nd) (hh:G.Hd n j) (hv:PS.vl p n) (hj:j.t=G.tW) (ht:t=.one ⟨3,j.t.slot,j.t.gen,2,Wd.zero,qf Wd.zero j.node⟩)
 | nM (h0:j.at'=7) (hm:G.m=k+1) (hh:G.hand=[]) (hT:G.TL j.t j.node) (x:Rp) (ht:t=.idle x) (hx:x.ok=true)
 | s8 (h0:j.at'=8) (hm:G.m=k+1) (hh:G.hand=[]) (hT:G.TL j.t j.node) (ht:t=.one ⟨3,0,0,1,j.t,qf j.t j.node⟩)
 | xK (h0:j.at'=8) (hm:G.m=k+1) (hh:G.hand=[]) (hl:G.lag=false) (x:Rp) (ht:t=.idle x)
structure E0 (p:PS) (G:Gh) (v:Vk):Prop where
 ops:∃a:Nat,a≤12∧v.ops=(List.range a).map (fun i:Nat=>Dm (i:Int))
 said:∃k,v.said=List.replicate k (1,0)
 sl:v.said.length≤v.ops.length
 st:(v.j=none∧G.m=v.said.length∧G.lag=false∧G.hand=[]∧(v.aV=true→∃x,v.t=.idle x)∧Ku v.t)∨(∃j,v.j=some j∧v.aV=true∧j.op=Dm v.said.length∧v.said.length<v.ops.length∧JE p G v.t j v.said.length)
section
variable {p p':PS} {G G':Gh} {N:List Nt} {v:Vk} {t:RT} {j:Jb} {said:List (Int × Int)} {k:Nat}
theorem JE.ap (h:JE p G t j k) (hc:∀n,PS.vl p n→PS.vl p' n):JE p' G t j k:=by
 cases h with
 | s0 a b c d e=>exact .s0 a b c d e
 | s1 a b c d e=>exact .s1 a b c d e
 | s1' a b c n d e f=>exact .s1' a b c n d e f
 | s2 a b c n d e=>exact .s2 a b c n d e
 | s2' a b c n d e x f=>exact .s2' a b c n d (hc _ e) x f
 | s3 a b c n d e f=>exact .s3 a b c n d (hc _ e) f
 | s4 a b c n d e f g=>exact .s4 a b c n d (hc _ e) f g
 | s5 a b c n d e f g i=>exact .s5 a b c n d (hc _ e) f g i
 | s7 a b c n d e f g=>exact .s7 a b c n d (hc _ e) f g
 | nM a b c d x e f=>exact .nM a b c d x e f
 | s8 a b c d e=>exact .s8 a b c d e
 | xK a b c d x e=>exact .xK a b c d x e
theorem E0.ap (h:E0 p G v) (hc:∀n,PS.vl p n→PS.vl p' n):E0 p' G v :=
 ⟨h.ops,h.said,h.sl,h.st.imp id fun ⟨j,a,b,c,d,e⟩=>⟨j,a,b,c,d,e.ap hc⟩⟩
theorem E0.ret (h:E0 p G v) (r:List Nd):E0 p {G with ret:=r} v:=by
 refine ⟨h.ops,h.said,h.sl,h.st.imp id fun ⟨j,a,b,c,d,e⟩=>⟨j,a,b,c,d,?_⟩⟩
 cases e with
 | s0 a b c d e=>exact .s0 a b c d e
 | s1 a b c d e=>exact .s1 a b c d e
 | s1' a b c n d e f=>exact .s1' a b c n d e f
 | s2 a b c n d e=>exact .s2 a b c n d e
 | s2' a b c n d e x f=>exact .s2' a b c n d e x f
 | s3 a b c n d e f=>exact .s3 a b c n d e f
 | s4 a b c n d e f g=>exact .s4 a b c n d e f g
 | s5 a b c n d e f g i=>exact .s5 a b c n d e f g i
 | s7 a b c n d e f g=>exact .s7 a b c n d e f g
 | nM a b c d x e f=>exact .nM a b c d x e f
 | s8 a b c d e=>exact .s8 a b c d e
 | xK a b c d x e=>exact .xK a b c d x e
theorem E0.ahY (h:E0 p G v) {n0:Nd} {r:List Nd} (hf:G.fr=n0 :: r) (hl:G.lag=true→r≠[]):E0 p {G with fr:=r,ht:=G.ht+1,ret:=[n0],d:=G.d+1} v:=by
 have em:({G with fr:=r,ht:=G.ht+1,ret:=[n0],d:=G.d+1}:Gh).m=G.m:=by
  unfold Gh.m
  rw [hf]
  simp only [List.length_cons]
  omega
 have et:({G with fr:=r,ht:=G.ht+1,ret:=[n0],d:=G.d+1}:Gh).tW=G.tW:=by
  unfold Gh.tW Gh.tl
  cases rR:G.lag with
  | false=>rfl
  | true =>
   rw [hf]
   cases r with
   | nil=>exact absurd rfl (hl rR)
   | cons a r=>rfl
 refine ⟨h.ops,h.said,h.sl,?_⟩
 rcases h.st with ⟨a,b,c⟩ | ⟨j,a,b,c,d,e⟩
 ·exact .inl ⟨a,em.trans b,c⟩
 refine .inr ⟨j,a,b,c,d,?_⟩
 have eh:∀n,G.Hd n j→({G with fr:=r,ht:=G.ht+1,ret:=[n0],d:=G.d+1}:Gh).Hd n j:=fun n q=>⟨q.1,by rw [em];exact q.2.1,q.2.2⟩
 have eT:G.TL j.t j.node→({G with fr:=r,ht:=G.ht+1,ret:=[n0],d:=G.d+1}:Gh).TL j.t j.node:=fun q=>q.imp (fun q=>⟨q.1,by rw [et];exact q.2.1,q.2.2⟩) id
 cases e with
 | s0 a b c d e=>exact .s0 a (em.trans b) c d e
 | s1 a b c d e=>exact .s1 a (em.trans b) c d e
 | s1' a b c n d e f=>exact .s1' a (em.trans b) c n d (by rw [em];exact e) f
 | s2 a b c n d e=>exact .s2 a (em.trans b) c n (eh _ d) e
 | s2' a b c n d e x f=>exact .s2' a (em.trans b) c n (eh _ d) e x f
 | s3 a b c n d e f=>exact .s3 a (em.trans b) c n (eh _ d) e (by rw [et];exact f)
 | s4 a b c n d e f g=>exact .s4 a (em.trans b) c n (eh _ d) e (by rw [et];exact f) g
 | s5 a b c n d e f g i=>exact .s5 a (em.trans b) c n (eh _ d) e (by rw [et];exact f) g (by rw [et];exact i)
 | s7 a b c n d e f g=>exact .s7 a (em.trans b) c n (eh _ d) e (by rw [et];exact f) g
 | nM a b c d x e f=>exact .nM a (em.trans b) c (eT d) x e f
 | s8 a b c d e=>exact .s8 a (em.trans b) c (eT d) e
 | xK a b c d x e=>exact .xK a (em.trans b) c d x e
theorem E0.ae3 (h:E0 p G v) (hl:G.lag=true):E0 p {G with lag:=false,tt:=G.tt+1} v:=by
 refine ⟨h.ops,h.said,h.sl,?_⟩
 rcases h.st with ⟨a,b,c,-⟩ | ⟨j,a,b,c,d,e⟩
 ·rw [hl] at c;cases c
 refine .inr ⟨j,a,b,c,d,?_⟩
 have no:∀{q:Prop},G.lag=false→q:=fun q=>by rw [hl] at q;cases q
 have eT:G.TL j.t j.node→({G with lag:=false,tt:=G.tt+1}:Gh).TL j.t j.node:=fun q=>by
  rcases q with ⟨-,q,-⟩ | ⟨q,-⟩
  ·refine .inr ⟨rfl,?_⟩
   rw [q]
   show G.tt<G.tt+1
   omega
  ·exact no q
 cases e with
 | s0 a b c d e=>exact no c
 | s1 a b c d e=>exact no c
 | s1' a b c n d e f=>exact no c
 | s2 a b c n d e=>exact no c
 | s2' a b c n d e x f=>exact no c
 | s3 a b c n d e f=>exact no c
 | s4 a b c n d e f g=>exact no c
 | s5 a b c n d e f g i=>exact no c
 | s7 a b c n d e f g=>exact no c
 | nM a b c d x e f=>exact .nM a b c (eT d) x e f
 | s8 a b c d e=>exact .s8 a b c (eT d) e
 | xK a b c d x e=>exact no d
structure Kp (G G':Gh):Prop where
 ret:G'.ret=G.ret
 d:G'.d=G.d
 hW:G'.hW=G.hW
 hd:G'.hd.s=G.hd.s
 tw:∀t,G.TW t→G'.TW t
 nx:∀w,G.NX w→G'.NX w
 pt:G.PT→G'.PT
theorem JD.kp (h:JD G t j said) (K:Kp G G'):JD G' t j said:=by
 have eP:∀{c R R'} {t:RT},xI c R t→(∀w,R w→R' w)→xI c R' t:=fun {c R R'} {t} h hr=>by
  cases t <;> first | exact h.elim | exact h | exact ⟨h.1,hr _ h.2⟩ | exact hr _ h
 have eO:∀{a R R'} {t:RT},Hm a R t→(∀w,R w→R' w)→Hm a R' t:=fun {a R R'} {t} h hr=>by
  cases t <;> first | exact h.elim | exact h | exact hr _ h
 cases h with
 | s0 a b c d=>exact .s0 a (K.ret.trans b) c (by rw [K.d];exact d)
 | s1 a b c d=>exact .s1 a (K.ret.trans b) (eP c fun w h=>h.trans K.hW.symm) (by rw [K.d];exact d)
 | s2 a b c d e=>exact .s2 a (K.ret.trans b) (c.trans K.hW.symm) (eO d fun x h=>K.tw _ h) (by rw [K.d];exact e)
 | s3 a b c d e f=>exact .s3 a (K.ret.trans b) (c.trans K.hW.symm) (K.tw _ d) (eP e fun x h=>K.nx _ h) (by rw [K.d];exact f)
 | s4 a b c d e f g=>exact .s4 a (K.ret.trans b) (c.trans K.hW.symm) (K.tw _ d) (K.nx _ e) (eO f fun x h=>h.trans K.hW.symm) (by rw [K.d];exact g)
 | s5 a b c d e f g i k=>exact .s5 a (K.ret.trans b) (c.trans K.hW.symm) (K.tw _ d) (e.trans K.hd.symm) (K.nx _ f) g (eO i fun _ h=>K.pt h) (by rw [K.d];exact k)
 | s6 a b c d e f g i=>exact .s6 a (K.ret.trans b) (c.trans K.hW.symm) (K.nx _ d) e (K.pt f) (eO g fun x h=>by rw [K.d];exact h) (by rw [K.d];exact i)
 | s7 a b c d e f g i k=>exact .s7 a (K.ret.trans b) (c.trans K.hW.symm) (K.nx _ d) e (K.pt f) (by rw [K.d];exact g) i (by rw [K.d];exact k)
 | nM a n0 c b d e f x g i k=>exact .nM a n0 c (K.ret.trans b) d e (K.d.trans f) x g i k
 | s8 a c b d e f =>
  refine .s8 a c b (K.d.trans d) ?_ f
  rw [K.ret]
  exact e
theorem D1.kp (h:D1 G v) (K:Kp G G'):D1 G' v :=
 ⟨h.ops,h.sl,h.st.imp (fun ⟨a,b,c,d,e⟩=>⟨a,K.ret.trans b,c,d,by rw [K.d];exact e⟩) fun ⟨j,a,b,c,d,e⟩=>⟨j,a,b,c,d,e.kp K⟩⟩
theorem aci (l:List Nd):Kp G {G with hand:=l}:=⟨rfl,rfl,rfl,rfl,fun _ h=>h,fun _ h=>h,fun h=>h⟩
theorem TH {α:Type} (l:List α) (a b c:α):((l ++ [a]) ++ [b]).headD c=(l ++ [a]).headD a:=by cases l <;> rfl
theorem acj (hl:G.lag=false) (n:Nd):Kp G {G with fr:=G.fr ++ [G.la],la:=n,hand:=[],lag:=true}:=by
 have eh:({G with fr:=G.fr ++ [G.la],la:=n,hand:=[],lag:=true}:Gh).hd=G.hd:=TH ..
 have et:({G with fr:=G.fr ++ [G.la],la:=n,hand:=[],lag:=true}:Gh).tl=G.tl:=by
  unfold Gh.tl
  rw [hl]
  simp
 have eW:({G with fr:=G.fr ++ [G.la],la:=n,hand:=[],lag:=true}:Gh).tW=G.tW:=by unfold Gh.tW;rw [et]
 have eP:G.PT→({G with fr:=G.fr ++ [G.la],la:=n,hand:=[],lag:=true}:Gh).PT:=fun h=>by
  unfold Gh.PT at h ⊢
  rw [et,eh]
  exact h
 refine ⟨rfl,rfl,by unfold Gh.hW;rw [eh],by rw [eh],fun t h=>⟨h.1,fun e=>by rw [eW];exact h.2.1 e,fun e=>eP (h.2.2.1 (by rw [eh] at e;exact e)),fun e=>eP (h.2.2.2 e)⟩,fun w h=>h.imp id fun ⟨n1,a,b⟩=>⟨n1,?_,b⟩,eP⟩
 show ((G.fr ++ [G.la]) ++ [n])[1]?=some n1
 have a':(G.fr ++ [G.la])[1]?=some n1:=a
 rw [List.getElem?_append_left (List.getElem?_eq_some_iff.1 a').1]
 exact a'
theorem Qs.pt (h:Qs p G N) (hf:G.fr≠[]):({G with lag:=false,tt:=G.tt+1}:Gh).PT:=by
 have h1:=h.RV
 unfold Gh.PT Gh.tl Gh.hd
 unfold Gh.ns at h1 ⊢
 cases hfr:G.fr with
 | nil=>exact absurd hfr hf
 | cons a r =>
  rw [hfr] at h1
  have:=rA (l1:=a :: r) (l2:=[G.la]) h1 (List.mem_cons_self ..) (List.mem_singleton.2 rfl)
  exact fun e=>this e.symm
theorem QL (h:Qs p G N) (hl:G.lag=true):Kp G {G with lag:=false,tt:=G.tt+1}:=by
 have hp:=h.pt (h.si hl)
 exact ⟨rfl,rfl,rfl,rfl,fun t q=>⟨by show t.tag≤G.tt+1;have:=q.1;omega,fun e=>by have:=q.1;have e:t.tag=G.tt+1:=e;omega,fun _=>hp,fun _=>hp⟩,fun _ q=>q,fun _=>hp⟩
end
end Go.Proofs.YthomdlajobnmnaaGreatDoor.Cq
namespace Go.Proofs.YthomdlajobnmnaaGreatDoor.Cq
open Go.RowKit Go.Rex
section
variable {l:Lo} {c:Ca}
theorem wG (l:Lo) (k:Int):(RT.leave l k).1.notes=l.notes:=by
 unfold RT.leave
 split
 ·rfl
 split
 ·cases RS.first l.h k.toNat (9-k.toNat) <;> rfl
 ·rfl
theorem TK (l:Lo):(RT.scan l).1.notes=l.notes:=by
 unfold RT.scan
 split
 ·rfl
 split <;> rfl
theorem wH (l:Lo):(RT.bS l).1.notes=l.notes:=by
 unfold RT.bS
 split
 ·exact TK l
 ·rfl
theorem Ce (l:Lo) (k:Int):Ku (RT.leave l k).2:=by
 unfold RT.leave
 split
 ·trivial
 split
 ·cases RS.first l.h k.toNat (9-k.toNat) <;> trivial
 ·trivial
theorem TM (l:Lo):RT.begin l (Ca.of 1)=if l.bY then (l,.lC) else (l,.idle Rp.yes):=rfl
theorem Ho (l:Lo):(RT.begin l (Ca.of 1)).1.notes=l.notes∧QK (RT.begin l (Ca.of 1)).2:=by
 rw [TM]
 split <;> exact ⟨rfl,trivial⟩
theorem ahZ (l:Lo):RT.begin l (Ca.of 2)=RT.leave l 0:=rfl
theorem Zr {o:Wd} {A B:Prop} (l:Lo) (h:B):xJ o A B (RT.scan l).2:=by
 unfold RT.scan
 split
 ·exact h
 split <;> exact h
theorem Cf {o:Wd} {A B:Prop} (l:Lo) (h:B):xJ o A B (RT.bS l).2:=by
 unfold RT.bS
 split
 ·exact Zr l h
 ·exact h
end
section
variable {p:PS} {G:Gh} {N:List Nt} {v:Vk} {x:Rp} {j j':Jb} {c:Ca}
theorem l6 (hj:v.j=some j) (hn:j.next x=(j',c)) (h12:c.kind≠12):v.bZ x=⟨(RT.begin v.l c).1,(RT.begin v.l c).2,v.ops,some j',v.aV,v.said⟩:=by
 unfold Vk.bZ
 rw [hj]
 simp only [hn]
 rw [if_neg h12]
 rfl
theorem tq {co va:Int} (hj:v.j=some j) (hn:j.next x=(j',{Ca.of 12 with code:=co,val:=va})):v.bZ x=⟨v.l,v.t,v.ops,none,v.aV,v.said ++ [(co,va)]⟩:=by
 unfold Vk.bZ
 rw [hj]
 simp only [hn]
 rw [if_pos (show (Ca.of 12).kind=12 from rfl)]
theorem EZ (hj:v.j=some j) (hn:j.next x=(j',c)) (h12:c.kind≠12) (hok:c.OK):v.may x:=by
 unfold Vk.may
 rw [hj]
 simp only [hn]
 exact ⟨fun e=>absurd e h12,fun _=>hok⟩
theorem QM {co va:Int} (hj:v.j=some j) (hn:j.next x=(j',{Ca.of 12 with code:=co,val:=va})) (hl:v.said.length<v.ops.length):v.may x:=by
 unfold Vk.may
 rw [hj]
 simp only [hn]
 exact ⟨fun _=>hl,fun e=>absurd rfl e⟩
theorem o6 (hj:v.j=none) (hi:v.aV=true):v.bZ x=⟨(RT.leave v.l 0).1,(RT.leave v.l 0).2,v.ops,none,false,v.said⟩:=by
 unfold Vk.bZ
 rw [hj]
 simp only
 rw [if_pos hi]
 cases v
 simp only at hj
 subst hj
 rfl
theorem o7 (hj:v.j=none) (hi:v.aV=false):v.bZ x=⟨(RT.begin v.l (Ca.of 1)).1,(RT.begin v.l (Ca.of 1)).2,v.ops,some (Jb.new v.op),true,v.said⟩:=by
 unfold Vk.bZ
 rw [hj]
 simp only
 rw [if_neg (by rw [hi];decide)]
 rfl
theorem Oa (ho:j.op=Hl):j.next x=j.jK x:=by
 unfold Jb.next
 rw [if_neg (by rw [ho];decide)]
theorem Ob {k:Int} (ho:j.op=Dm k):j.next x=j.mQ x:=by
 unfold Jb.next
 rw [if_pos (by rw [ho];rfl)]
theorem caP {w:Wd} {f i:Int} (h:0≤i∧i<9):(U7 w f i).OK:=⟨(by decide:(1:Int)≤6),(by decide:(6:Int)≤11),h.1,h.2,(by decide:(0:Int)≤0),(by decide:(0:Int)<9)⟩
theorem ae4 (h:D1 G v) (hq:Qs p G v.l.notes) (ho:v.l.OK) (hb:Bs v.l v.t) (ht:v.t=.idle x) (hd:¬v.done) :
  v.may x∧Bs (v.bZ x).l (v.bZ x).t∧∃G',(G'=G∨G'={G with ret:=[]})∧Qs p G' (v.bZ x).l.notes∧D1 G' (v.bZ x):=by
 obtain ⟨b,Jc,hops⟩:=h.ops
 rcases h.st with ⟨hj,hr,hi,-,ha⟩ | ⟨j,hj,hi,hop,hl,hJ⟩
 ·cases hin:v.aV with
  | true =>
   refine ⟨by unfold Vk.may;rw [hj];exact .inl hin,by rw [o6 hj hin];exact yV ho 0,G,.inl rfl,?_⟩
   rw [o6 hj hin]
   exact ⟨by rw [wG];exact hq,⟨b,Jc,hops⟩,h.sl,.inl ⟨rfl,hr,(fun e=>by cases e),Ce _ _,ha⟩⟩
  | false =>
   have hlt:v.said.length<v.ops.length:=by
    rcases Nat.lt_or_ge v.said.length v.ops.length with h | h
    ·exact h
    ·exact absurd ⟨by rw [ht];rfl,hj,hin,h⟩ hd
   have Wz:v.op=Hl:=by
    unfold Vk.op
    rw [hops] at hlt ⊢
    rw [List.length_replicate] at hlt
    rw [List.getD_eq_getElem?_getD,List.getElem?_replicate,if_pos hlt]
    rfl
   refine ⟨by unfold Vk.may;rw [hj];exact .inr ⟨hin,hlt,by rw [Wz];decide⟩,by rw [o7 hj hin];exact uj (c:=Ca.of 1) ho (by decide) (by decide),G,.inl rfl,?_⟩
   rw [o7 hj hin,Wz]
   obtain ⟨n1,n2⟩:=Ho v.l
   exact ⟨by rw [n1];exact hq,⟨b,Jc,hops⟩,h.sl,.inr ⟨_,rfl,rfl,rfl,hlt,.s0 rfl hr n2 ha⟩⟩
 ·have nx:=Oa (x:=x) hop
  have go:∀{j':Jb} {c:Ca},j.jK x=(j',c)→(c.kind≠12∧c.kind≠9∧c.kind≠7)→c.OK→(RT.begin v.l c).1.notes=v.l.notes→j'.op=j.op→JD G (RT.begin v.l c).2 j' v.said→v.may x∧Bs (v.bZ x).l (v.bZ x).t∧∃G',(G'=G∨G'={G with ret:=[]})∧Qs p G' (v.bZ x).l.notes∧D1 G' (v.bZ x):=fun {j' c} e h12 hok hn hop' hJ'=>by
   rw [←nx] at e
   refine ⟨EZ hj e h12.1 hok,by rw [l6 hj e h12.1];exact uj ho h12.2.1 h12.2.2,G,.inl rfl,?_⟩
   rw [l6 hj e h12.1]
   exact ⟨by rw [hn];exact hq,⟨b,Jc,hops⟩,h.sl,.inr ⟨j',rfl,hi,hop'.trans hop,hl,hJ'⟩⟩
  have ans:∀{j':Jb} {co va:Int},j.jK x=(j',{Ca.of 12 with code:=co,val:=va})→G.ret=[]→iq (v.said ++ [(co,va)]) G.d→v.may x∧Bs (v.bZ x).l (v.bZ x).t∧∃G',(G'=G∨G'={G with ret:=[]})∧Qs p G' (v.bZ x).l.notes∧D1 G' (v.bZ x):=fun {j' co va} e hr ha=>by
   rw [←nx] at e
   refine ⟨QM hj e hl,by rw [tq hj e];exact hb,G,.inl rfl,?_⟩
   rw [tq hj e]
   exact ⟨hq,⟨b,Jc,hops⟩,(by show (v.said ++ [(co,va)]).length≤v.ops.length;rw [List.length_append,List.length_singleton];omega),.inl ⟨rfl,hr,(fun _=>⟨x,ht⟩),by show Ku v.t;rw [ht];trivial,ha⟩⟩
  rw [ht] at hJ
  cases hJ with
  | s0 h0 hr ht ha =>
   exact go (j':={j with at':=1}) (c:=uZ 0) (by simp [Jb.jK,h0,Jb.ask]) (show ((6:Int)≠12∧(6:Int)≠9∧(6:Int)≠7) by decide) (eX (k:=6) (by decide)) rfl rfl (.s1 rfl hr rfl ha)
  | s1 h0 hr ht ha =>
   have hx:x.word=G.hW:=ht
   exact go (j':={j with h:=x.word,at':=2}) (c:=GH 1) (by simp [Jb.jK,h0,Jb.ask]) (show ((3:Int)≠12∧(3:Int)≠9∧(3:Int)≠7) by decide) (eX (k:=3) (by decide)) rfl rfl (.s2 rfl hr hx rfl ha)
  | s2 h0 hr hh ht ha =>
   have hx:G.TW x.word:=ht
   exact go (j':={j with t:=x.word,at':=3}) (c:=U7 j.h 2 1) (by simp [Jb.jK,h0,Jb.ask]) (show ((6:Int)≠12∧(6:Int)≠9∧(6:Int)≠7) by decide) (caP (by decide)) rfl rfl (.s3 rfl hr hh hx rfl ha)
  | s3 h0 hr hh hw ht ha =>
   have hx:G.NX x.word:=ht
   exact go (j':={j with n:=x.word,at':=4}) (c:=GH 0) (by simp [Jb.jK,h0,Jb.ask]) (show ((3:Int)≠12∧(3:Int)≠9∧(3:Int)≠7) by decide) (eX (k:=3) (by decide)) rfl rfl (.s4 rfl hr hh hw hx rfl ha)
  | s4 h0 hr hh hw hn ht ha =>
   have hx:x.word=G.hW:=ht
   have hsame:gF x.word j.h:=by rw [hx,hh];exact cZ _
   have e:j.jK x=(if j.n.slot=0 then j.fin 2 0 else if j.h.slot=j.t.slot then j.ask 5 (zV 1 j.t j.n) else j.ask 6 (BA j.n 1)):=by
    simp [Jb.jK,h0,hsame]
   by_cases hn0:j.n.slot=0
   ·rw [if_pos hn0] at e
    exact ans e hr ha.no
   ·rw [if_neg hn0] at e
    by_cases hs:j.h.slot=j.t.slot
    ·rw [if_pos hs] at e
     exact go (c:=zV 1 j.t j.n) e (show ((5:Int)≠12∧(5:Int)≠9∧(5:Int)≠7) by decide) (eX (k:=5) (s:=0) (g:=0) (f:=1) (by decide)) rfl rfl (.s5 rfl hr hh hw (by rw [←hs,hh];rfl) hn hn0 rfl ha)
    ·rw [if_neg hs] at e
     exact go (c:=BA j.n 1) e (show ((3:Int)≠12∧(3:Int)≠9∧(3:Int)≠7) by decide) (eX (k:=3) (by decide)) rfl rfl (.s6 rfl hr hh hn hn0 (hw.2.2.1 fun q=>hs (by rw [hh];exact q.symm)) rfl ha)
  | s5 h0 hr hh hw hs hn hn0 ht ha =>
   exact go (j':={j with at':=1}) (c:=uZ 0) (by simp [Jb.jK,h0,Jb.ask]) (show ((6:Int)≠12∧(6:Int)≠9∧(6:Int)≠7) by decide) (eX (k:=6) (by decide)) rfl rfl (.s1 rfl hr rfl ha)
  | s6 h0 hr hh hn hn0 hp ht ha =>
   have hx:x.word.num=G.d:=ht
   exact go (j':={j with val:=x.word.num,at':=7}) (c:=zV 0 j.h j.n) (by simp [Jb.jK,h0,Jb.ask]) (show ((5:Int)≠12∧(5:Int)≠9∧(5:Int)≠7) by decide) (eX (k:=5) (s:=0) (g:=0) (f:=0) (by decide)) rfl rfl (.s7 rfl hr hh hn hn0 hp hx rfl ha)
  | s7 h0 hr hh hn hn0 hp hv ht ha=>cases ht
  | nM h0 n0 c hr hh hv hc y hy hx ha =>
   cases hy
   have e:j.jK x=({j with at':=8},{Ca.of 10 with old:=j.h}):=by simp [Jb.jK,h0,hx,Jb.ask]
   rw [←nx] at e
   have h12:({Ca.of 10 with old:=j.h}:Ca).kind≠12:=(show (10:Int)≠12 by decide)
   refine ⟨EZ hj e h12 (eX (k:=10) (s:=0) (g:=0) (f:=0) (by decide)),by rw [l6 hj e h12];exact uj ho (show (10:Int)≠9 by decide) (show (10:Int)≠7 by decide),?_⟩
   rw [l6 hj e h12]
   have eb:RT.begin v.l {Ca.of 10 with old:=j.h}=RT.eQ v.l j.h:=rfl
   rw [eb]
   have mk:∀{G':Gh} {q:LR},(G'=G∨G'={G with ret:=[]})→RT.eQ v.l j.h=q→Qs p G' q.1.notes→xJ j.h (∃n0,G'.ret=[n0]∧j.h.slot=n0.s∧j.h.gen=n0.g) (G'.ret=[]) q.2→∃G',(G'=G∨G'={G with ret:=[]})∧Qs p G' (RT.eQ v.l j.h).1.notes∧D1 G' ⟨(RT.eQ v.l j.h).1,(RT.eQ v.l j.h).2,v.ops,some {j with at':=8},v.aV,v.said⟩:=fun {G' q} hG e1 hQ hR=>by
    rw [e1]
    have hd':G'.d=G.d:=by rcases hG with rfl | rfl <;> rfl
    exact ⟨G',hG,hQ,⟨b,Jc,hops⟩,h.sl,.inr ⟨_,rfl,hi,hop,hl,.s8 rfl c hv (hd'.trans hc) hR ha⟩⟩
   by_cases h2:v.l.af=2
   ·refine mk (G':={G with ret:=[]}) (q:=RT.bS (RT.note v.l j.h 0 0)) (.inr rfl) (if_pos h2) ?_ (Cf _ rfl)
    rw [wH]
    exact hq.bS hr hh 0 0
   by_cases h4:v.l.af=4
   ·exact mk (G':=G) (q:=(v.l,.iT j.h 0)) (.inl rfl) ((if_neg h2).trans (if_pos h4)) hq ⟨rfl,n0,hr,hh⟩
   by_cases MS:v.l.af=3∨v.l.af=5
   ·exact mk (G':=G) (q:=(v.l,.fB j.h)) (.inl rfl) ((if_neg h2).trans ((if_neg h4).trans (if_pos MS))) hq ⟨rfl,n0,hr,hh⟩
   ·exact mk (G':={G with ret:=[]}) (q:=(v.l,.idle Rp.yes)) (.inr rfl) ((if_neg h2).trans ((if_neg h4).trans (if_neg MS))) hq.drop rfl
  | s8 h0 c hv hc ht ha =>
   have hr:G.ret=[]:=ht
   have e:j.jK x=({j with at':=-1,last:={Ca.of 12 with code:=1,val:=j.val}},{Ca.of 12 with code:=1,val:=j.val}):=by simp [Jb.jK,h0,Jb.fin]
   refine ans e hr ?_
   rw [hv,hc]
   exact ha.yes
theorem ae5 (h:E0 p G v) (hq:Qs p G N) (ho:v.l.OK) (hb:Bs v.l v.t) (ht:v.t=.idle x) (hd:¬v.done):v.may x∧Bs (v.bZ x).l (v.bZ x).t∧E0 p G (v.bZ x)∧(v.bZ x).l.notes=v.l.notes:=by
 obtain ⟨a,Oc,hops⟩:=h.ops
 obtain ⟨k,hsaid⟩:=h.said
 have ah0:∀i,i<v.ops.length→v.ops.getD i ⟨0,0,0,0⟩=Dm (i:Int):=fun i hi=>by
  rw [hops] at hi ⊢
  rw [List.length_map,List.length_range] at hi
  rw [List.getD_eq_getElem?_getD,List.getElem?_map,List.getElem?_range hi]
  rfl
 have hlen:v.ops.length=a:=by rw [hops,List.length_map,List.length_range]
 rcases h.st with ⟨hj,hm,eu,hh,hi,-⟩ | ⟨j,hj,hi,hop,hl,hJ⟩
 ·cases hin:v.aV with
  | true =>
   refine ⟨by unfold Vk.may;rw [hj];exact .inl hin,by rw [o6 hj hin];exact yV ho 0,?_⟩
   rw [o6 hj hin]
   exact ⟨⟨⟨a,Oc,hops⟩,⟨k,hsaid⟩,h.sl,.inl ⟨rfl,hm,eu,hh,(fun e=>by cases e),Ce _ _⟩⟩,wG _ _⟩
  | false =>
   have hlt:v.said.length<v.ops.length:=by
    rcases Nat.lt_or_ge v.said.length v.ops.length with h | h
    ·exact h
    ·exact absurd ⟨by rw [ht];rfl,hj,hin,h⟩ hd
   have Wz:v.op=Dm v.said.length:=ah0 _ hlt
   refine ⟨by
     unfold Vk.may
     rw [hj]
     refine .inr ⟨hin,hlt,?_⟩
     rw [Wz]
     exact ⟨rfl,rfl,by show (0:Int)≤(v.said.length:Int);omega,by show (v.said.length:Int)≤1073741824;omega⟩,by rw [o7 hj hin];exact uj (c:=Ca.of 1) ho (by decide) (by decide),?_⟩
   rw [o7 hj hin,Wz]
   obtain ⟨n1,n2⟩:=Ho v.l
   exact ⟨⟨⟨a,Oc,hops⟩,⟨k,hsaid⟩,h.sl,.inr ⟨_,rfl,rfl,rfl,hlt,.s0 rfl hm eu hh n2⟩⟩,n1⟩
 ·have nx:=Ob (x:=x) hop
  have go:∀{j':Jb} {c:Ca},j.mQ x=(j',c)→(c.kind≠12∧c.kind≠9∧c.kind≠7)→c.OK→(RT.begin v.l c).1.notes=v.l.notes→j'.op=j.op→JE p G (RT.begin v.l c).2 j' v.said.length→v.may x∧Bs (v.bZ x).l (v.bZ x).t∧E0 p G (v.bZ x)∧(v.bZ x).l.notes=v.l.notes:=fun {j' c} e h12 hok hn hop' hJ'=>by
   rw [←nx] at e
   refine ⟨EZ hj e h12.1 hok,by rw [l6 hj e h12.1];exact uj ho h12.2.1 h12.2.2,?_⟩
   rw [l6 hj e h12.1]
   exact ⟨⟨⟨a,Oc,hops⟩,⟨k,hsaid⟩,h.sl,.inr ⟨j',rfl,hi,hop'.trans hop,hl,hJ'⟩⟩,hn⟩
  have ht0:=ht
  rw [ht] at hJ
  cases hJ with
  | s0 h0 hm eu hh ht =>
   refine go (j':={j with at':=1}) (c:=Ca.of 8) (by simp [Jb.mQ,h0,Jb.ask]) (by decide) (wB (by decide)) ?_ rfl ?_
   ·show (if v.l.bC then (v.l,RT.lT) else (v.l,RT.one ⟨4,0,0,0,Wd.zero,Wd.zero⟩)).1.notes=_
    split <;> rfl
   ·refine .s1 rfl hm eu hh ?_
    have e8:RT.begin v.l (Ca.of 8)=if v.l.bC then (v.l,RT.lT) else (v.l,RT.one ⟨4,0,0,0,Wd.zero,Wd.zero⟩):=rfl
    rw [e8]
    split
    ·exact .inl rfl
    ·exact .inr ⟨_,rfl⟩
  | s1 h0 hm eu hh ht=>rcases ht with ht | ⟨w,ht⟩ <;> cases ht
  | s1' h0 hm eu n hh hv ht =>
   cases ht
   exact go (j':={j with node:=⟨n.s,n.g,0,0,false⟩,at':=2}) (c:=U0 ⟨n.s,n.g,0,0,false⟩ 1 (Wd.dM j.op.val)) (by simp [Jb.mQ,h0,Jb.ask]) (show ((4:Int)≠12∧(4:Int)≠9∧(4:Int)≠7) by decide) (eX (k:=4) (by decide)) rfl rfl (.s2 rfl hm eu n ⟨hh,hv,rfl⟩ rfl)
  | s2 h0 hm eu n hh ht=>cases ht
  | s2' h0 hm eu n hh hv y ht =>
   exact go (j':={j with at':=3}) (c:=uZ 1) (by simp [Jb.mQ,h0,Jb.ask]) (show ((6:Int)≠12∧(6:Int)≠9∧(6:Int)≠7) by decide) (eX (k:=6) (by decide)) rfl rfl (.s3 rfl hm eu n hh hv rfl)
  | s3 h0 hm eu n hh hv ht =>
   have hx:x.word=G.tW:=ht
   exact go (j':={j with t:=x.word,at':=4}) (c:=BA x.word 2) (by simp [Jb.mQ,h0,Jb.ask]) (show ((3:Int)≠12∧(3:Int)≠9∧(3:Int)≠7) by decide) (eX (k:=3) (by decide)) rfl rfl (.s4 rfl hm eu n hh hv hx rfl)
  | s4 h0 hm eu n hh hv hjt ht =>
   have hx:x.word=Wd.zero:=ht
   exact go (j':={j with n:=x.word,at':=5}) (c:=GH 1) (by simp [Jb.mQ,h0,Jb.ask]) (show ((3:Int)≠12∧(3:Int)≠9∧(3:Int)≠7) by decide) (eX (k:=3) (by decide)) rfl rfl (.s5 rfl hm eu n hh hv hjt hx rfl)
  | s5 h0 hm eu n hh hv hjt hn ht =>
   have hx:x.word=G.tW:=ht
   have hsame:gF x.word j.t:=by rw [hx,hjt];exact cZ _
   have hz:¬j.n.slot≠0:=by rw [hn];exact fun h=>h rfl
   exact go (j':={j with at':=7}) (c:=MZ j.t 2 j.n j.node) (by simp only [Jb.mQ,h0,Jb.ask];simp [hsame,hz]) (show ((5:Int)≠12∧(5:Int)≠9∧(5:Int)≠7) by decide) (eX (k:=5) (by decide)) rfl rfl (.s7 rfl hm eu n hh hv hjt (by rw [←hn];rfl))
  | s7 h0 hm eu n hh hv hjt ht=>cases ht
  | nM h0 hm hh hT y hy hx =>
   cases hy
   exact go (j':={j with at':=8}) (c:=zV 1 j.t j.node) (by simp [Jb.mQ,h0,hx,Jb.ask]) (show ((5:Int)≠12∧(5:Int)≠9∧(5:Int)≠7) by decide) (eX (k:=5) (s:=0) (g:=0) (f:=1) (by decide)) rfl rfl (.s8 rfl hm hh hT rfl)
  | s8 h0 hm hh hT ht=>cases ht
  | xK h0 hm hh eu y ht =>
   have e:j.mQ x=({j with at':=-1,last:={Ca.of 12 with code:=1,val:=0}},{Ca.of 12 with code:=1,val:=0}):=by simp [Jb.mQ,h0,Jb.fin]
   rw [←nx] at e
   refine ⟨QM hj e hl,by rw [tq hj e];exact hb,?_⟩
   rw [tq hj e]
   refine ⟨⟨⟨a,Oc,hops⟩,⟨k+1,?_⟩,(by show (v.said ++ [(1,0)]).length≤v.ops.length;rw [List.length_append,List.length_singleton];omega),.inl ⟨rfl,?_,eu,hh,(fun _=>⟨x,ht0⟩),?_⟩⟩,rfl⟩
   ·show v.said ++ [(1,0)]=_
    rw [hsaid,List.replicate_succ']
   ·show G.m=(v.said ++ [(1,0)]).length
    rw [hm,List.length_append]
    rfl
   ·show Ku v.t
    rw [ht0]
    trivial
end
end Go.Proofs.YthomdlajobnmnaaGreatDoor.Cq
namespace Go.Proofs.YthomdlajobnmnaaGreatDoor.Cq
open Go.RowKit Go.Rex
section
variable {l:Lo} {t:RT} {x:Rp} {c:Ca} {R:Wd→Prop}
theorem Od {c:Prop} [Decidable c] {a b:LR} (P:LR→Prop) (h1:c→P a) (h2:¬c→P b):P (if c then a else b):=by
 by_cases h:c
 ·rw [if_pos h];exact h1 h
 ·rw [if_neg h];exact h2 h
theorem E5 (h:xI c R t) (h0:t.dB≠0) (hr:t=.bW c→R x.word):xI c R (RT.aG l t x).2∧(RT.aG l t x).1.notes=l.notes:=by
 cases t with
 | idle y=>exact absurd rfl h0
 | bW c' =>
  obtain rfl:c'=c:=h
  exact Od (fun q:LR=>xI c' R q.2∧q.1.notes=l.notes) (fun _=>⟨⟨rfl,hr rfl⟩,rfl⟩) fun _=>Od (fun q:LR=>xI c' R q.2∧q.1.notes=l.notes) (fun _=>⟨rfl,rfl⟩) fun _=>⟨hr rfl,rfl⟩
 | ib c' w =>
  obtain ⟨rfl,hw⟩:=h
  exact Od (fun q:LR=>xI c' R q.2∧q.1.notes=l.notes) (fun _=>⟨hw,rfl⟩) fun _=>Od (fun q:LR=>xI c' R q.2∧q.1.notes=l.notes) (fun _=>⟨rfl,rfl⟩) fun _=>⟨rfl,rfl⟩
 | gz c' a=>exact ⟨h,rfl⟩
 | _=>exact h.elim
theorem Cg (h:xI c R t) (h0:t.dB≠0):Qt t∧(∀c',t=.bW c'→c'=c)∧(∀o,t≠.fB o):=by
 cases t with
 | idle y=>exact absurd rfl h0
 | bW c'=>exact ⟨trivial,fun _ e=>by cases e;exact h,fun o e=>by cases e⟩
 | ib c' w=>exact ⟨trivial,(fun _ e=>by cases e),fun o e=>by cases e⟩
 | gz c' a=>exact ⟨trivial,(fun _ e=>by cases e),fun o e=>by cases e⟩
 | _=>exact h.elim
theorem uH (h:QK t) (h0:t.dB≠0):(QK (RT.aG l t x).2∧(RT.aG l t x).1.notes=l.notes)∧Qt t∧(∀c',t≠.bW c')∧(∀o,t≠.fB o):=by
 cases t with
 | idle y=>exact absurd rfl h0
 | lC=>exact ⟨⟨trivial,rfl⟩,trivial,(fun _ e=>by cases e),fun o e=>by cases e⟩
 | fin a=>exact ⟨⟨trivial,rfl⟩,trivial,(fun _ e=>by cases e),fun o e=>by cases e⟩
 | _=>exact h.elim
theorem zG (h:Ku t) (h0:t.dB≠0):(Ku (RT.aG l t x).2∧(RT.aG l t x).1.notes=l.notes)∧Qt t∧(∀c',t≠.bW c')∧(∀o,t≠.fB o):=by
 cases t with
 | idle y=>exact absurd rfl h0
 | ik i=>exact ⟨⟨Ce _ _,wG _ _⟩,trivial,(fun _ e=>by cases e),fun o e=>by cases e⟩
 | fin a=>exact ⟨⟨trivial,rfl⟩,trivial,(fun _ e=>by cases e),fun o e=>by cases e⟩
 | _=>exact h.elim
end
theorem E8 {o:Wd} {A B:Prop} (l:Lo) (r:List Nt) (h:B):xJ o A B (RT.dz l r).2:=by cases r <;> exact h
theorem zH (l:Lo) (r:List Nt):(RT.dz l r).1.notes=l.notes:=by cases r <;> rfl
section
variable {p:PS} {G:Gh} {N:List Nt} {v:Vk}
theorem Qs.ns0 (h:Qs p G N) {n1:Nd} (hn:G.ns[1]?=some n1):∃n0 r,G.fr=n0 :: r∧G.hd=n0∧(r ++ [G.la]).headD G.la=n1∧n1∈G.ns.tail∧n1.v=G.d:=by
 have hs:=h.seq 0 n1
 unfold Gh.ns Gh.hd at *
 cases hf:G.fr with
 | nil=>rw [hf] at hn;simp at hn
 | cons a r =>
  rw [hf] at hn hs
  have e:(r ++ [G.la])[0]?=some n1:=by simpa using hn
  have hv:=hs (by simpa using e)
  refine ⟨a,r,rfl,by unfold Gh.ns;rw [hf];rfl,?_,?_,by simpa using hv⟩
  ·cases r with
   | nil=>simpa using e
   | cons b r=>simpa using e
  ·cases r with
   | nil =>
    have:G.la=n1:=by simpa using e
    simp [this]
   | cons b r =>
    have:b=n1:=by simpa using e
    simp [this]
theorem Qs.ah1 (h:Qs p G N):G.NX (nx p G.hd):=by
 have hc:=h.chain
 unfold Gh.NX Gh.hd
 unfold Gh.ns at *
 cases hf:G.fr with
 | nil =>
  rw [hf] at hc
  exact .inl hc
 | cons a r =>
  rw [hf] at hc
  cases r with
  | nil=>exact .inr ⟨G.la,rfl,hc.1⟩
  | cons b r=>exact .inr ⟨b,rfl,hc.1⟩
theorem Qs.agb (h:Qs p G N) {n0:Nd} {r:List Nd} (hf:G.fr=n0 :: r) (he:G.tl.s=G.hd.s):G.lag=true∧r=[]:=by
 have h1:=h.RV
 have hhd:G.hd=n0:=by unfold Gh.hd Gh.ns;rw [hf];rfl
 unfold Gh.ns at h1
 rw [hf] at h1
 rw [hhd] at he
 unfold Gh.tl at he
 cases hl:G.lag with
 | false =>
  rw [hl] at he
  have:=rA (l1:=n0 :: r) (l2:=[G.la]) h1 (List.mem_cons_self ..) (List.mem_singleton.2 rfl)
  exact absurd he.symm this
 | true =>
  rw [hl,hf] at he
  cases r with
  | nil=>exact ⟨rfl,rfl⟩
  | cons b r =>
   have hm:(b :: r).getLastD b∈b :: r:=by
    rw [List.getLastD_eq_getLast?]
    cases hq:(b :: r).getLast? with
    | none=>simp at hq
    | some z=>exact List.mem_of_getLast? hq
   have h2:(([n0] ++ (b :: r ++ [G.la])).map Nd.s).Nodup:=h1
   have:=rA (l1:=[n0]) (l2:=b :: r ++ [G.la]) h2 (List.mem_singleton.2 rfl) (List.mem_append_left _ hm)
   have e':((b :: r).getLastD b).s=n0.s:=by simpa [List.getLastD] using he
   exact absurd e'.symm this
theorem ae7 (h:D1 G v) (hq:Qs p G v.l.notes) (hok:p.OK) (ho:v.l.OK) (hs:v.t.fF v.l) (hb:Bs v.l v.t) (h0:v.t.dB≠0) :
  ∃p' x G',p.act (v.t.acc v.l)=(p',some x)∧Qs p' G' (RT.aG v.l v.t x).1.notes∧D1 G' (v.with (RT.aG v.l v.t x))∧Bs (RT.aG v.l v.t x).1 (RT.aG v.l v.t x).2∧∀v0,E0 p G v0→E0 p' G' v0:=by
 have hck:=hq.mE
 have quiet:Qt v.t→(∀c,v.t=.bW c→p.has c.slot c.gen c.field∧p.live c.slot c.gen)→(∀o,v.t=.fB o→p.jc o.slot o.gen) →
   ∃p' x,p.act (v.t.acc v.l)=(p',some x)∧Qs p' G v.l.notes∧(∀c,v.t=.bW c→x=⟨p.at c.slot c.field,true⟩)∧Bs (RT.aG v.l v.t x).1 (RT.aG v.l v.t x).2∧∀v0,E0 p G v0→E0 p' G v0:=fun hqt hl hr=>by
  obtain ⟨p',x,a1,a2,a3,a4,-⟩:=BC ho hs hb hq.nb hl hr hqt
  refine ⟨p',x,a1,hq.ap a2,a3,Ql ho hs hb fun c=>?_,fun v0 h0=>h0.ap fun n hn=>by unfold PS.vl;rw [a2.cell];exact hn⟩
  rw [a4 c]
  show 0≤(p.bd 24).num
  omega
 rcases h.st with ⟨hj,hr,hi,hL,ha⟩ | ⟨j,hj,hi,hop,hl,hJ⟩
 ·obtain ⟨-,e1,e2,e3⟩:=zG (l:=v.l) (x:=Rp.yes) hL h0
  obtain ⟨p',x,a1,a2,a3,a4,a5⟩:=quiet e1 (fun c e=>absurd e (e2 c)) fun o e=>absurd e (e3 o)
  obtain ⟨⟨f1,f2⟩,-⟩:=zG (l:=v.l) (x:=x) hL h0
  refine ⟨p',x,G,a1,by rw [f2];exact a2,⟨h.ops,h.sl,.inl ⟨hj,hr,fun e=>?_,f1,ha⟩⟩,a4,a5⟩
  obtain ⟨y,hy⟩:=hi e
  rw [hy] at h0
  exact absurd rfl h0
 ·have mk:∀{G':Gh} {x:Rp},JD G' (RT.aG v.l v.t x).2 j v.said→D1 G' (v.with (RT.aG v.l v.t x)):=fun {G' x} hJ'=>⟨h.ops,h.sl,.inr ⟨j,hj,hi,hop,hl,hJ'⟩⟩
  have one:∀{a:Ac},v.t=.one a→∀x,RT.aG v.l v.t x=(v.l,.idle x):=fun {a} e x=>by rw [e];rfl
  have ld:∀{a:Ac} {x:Rp},v.t=.one a→p.act a=({p with steps:=p.steps+1},some x)→JD G (.idle x) j v.said →
    ∃p' x G',p.act (v.t.acc v.l)=(p',some x)∧Qs p' G' (RT.aG v.l v.t x).1.notes∧D1 G' (v.with (RT.aG v.l v.t x))∧Bs (RT.aG v.l v.t x).1 (RT.aG v.l v.t x).2∧∀v0,E0 p G v0→E0 p' G' v0:=fun {a x} e ea hJ'=>by
   refine ⟨{p with steps:=p.steps+1},x,G,by rw [e];exact ea,?_,mk (by rw [one e];exact hJ'),by rw [one e];trivial,fun v0 h0=>h0.ap fun n hn=>hn⟩
   rw [one e]
   exact hq.steps _
  cases hJ with
  | s0 h0' hr ht ha =>
   obtain ⟨-,e1,e2,e3⟩:=uH (l:=v.l) (x:=Rp.yes) ht h0
   obtain ⟨p',x,a1,a2,a3,a4,a5⟩:=quiet e1 (fun c e=>absurd e (e2 c)) fun o e=>absurd e (e3 o)
   obtain ⟨⟨f1,f2⟩,-⟩:=uH (l:=v.l) (x:=x) ht h0
   exact ⟨p',x,G,a1,by rw [f2];exact a2,mk (.s0 h0' hr f1 ha),a4,a5⟩
  | s1 h0' hr ht ha =>
   obtain ⟨e1,e2,e3⟩:=Cg ht h0
   obtain ⟨p',x,a1,a2,a3,a4,a5⟩:=quiet e1 (fun c e=>by rw [e2 c e];exact ⟨wu hq.nb (f:=0) (by decide),.inl rfl⟩) fun o e=>absurd e (e3 o)
   obtain ⟨f1,f2⟩:=E5 (l:=v.l) (x:=x) ht h0 fun e=>by
    rw [a3 _ e]
    exact hq.head
   exact ⟨p',x,G,a1,by rw [f2];exact a2,mk (.s1 h0' hr f1 ha),a4,a5⟩
  | s2 h0' hr hh ht ha =>
   cases bK:v.t with
   | one a =>
    rw [bK] at ht
    obtain rfl:a=Ac.load 0 0 1:=ht
    have e3:=sV (p:=p) hq.nb (f:=1) (by decide)
    rw [show p.bd (1:Int).toNat=_ from hq.tail] at e3
    rw [←bK]
    exact ld bK e3 (.s2 h0' hr hh ⟨Int.le_refl _,fun _=>rfl,fun e=>e,fun e=>absurd e (Int.lt_irrefl _)⟩ ha)
   | idle y=>rw [bK] at h0;exact absurd rfl h0
   | _=>rw [bK] at ht;exact ht.elim
  | s3 h0' hr hh hw ht ha =>
   obtain ⟨e1,e2,e3⟩:=Cg ht h0
   have hhd:=hq.use G.hd (nV adu)
   have hjs:j.h.slot=G.hd.s∧j.h.gen=G.hd.g:=by rw [hh];exact ⟨rfl,rfl⟩
   obtain ⟨p',x,a1,a2,a3,a4,a5⟩:=quiet e1 (fun c e=>by
     rw [e2 c e]
     show p.has j.h.slot j.h.gen 2∧p.live j.h.slot j.h.gen
     rw [hjs.1,hjs.2]
     exact ⟨hhd.has (by decide),hhd.live⟩) fun o e=>absurd e (e3 o)
   obtain ⟨f1,f2⟩:=E5 (l:=v.l) (x:=x) ht h0 fun e=>by
    rw [a3 _ e]
    show G.NX (p.at j.h.slot 2)
    rw [hjs.1]
    have:p.at G.hd.s 2=nx p G.hd:=if_neg fun e=>by have:=hhd.1.1;omega
    rw [this]
    exact hq.ah1
   exact ⟨p',x,G,a1,by rw [f2];exact a2,mk (.s3 h0' hr hh hw f1 ha),a4,a5⟩
  | s4 h0' hr hh hw hn ht ha =>
   cases bK:v.t with
   | one a =>
    rw [bK] at ht
    obtain rfl:a=Ac.load 0 0 0:=ht
    have e3:=sV (p:=p) hq.nb (f:=0) (by decide)
    rw [show p.bd (0:Int).toNat=_ from hq.head] at e3
    rw [←bK]
    exact ld bK e3 (.s4 h0' hr hh hw hn rfl ha)
   | idle y=>rw [bK] at h0;exact absurd rfl h0
   | _=>rw [bK] at ht;exact ht.elim
  | s5 h0' hr hh hw hs' hn hn0 ht ha =>
   cases bK:v.t with
   | one a =>
    rw [bK] at ht
    obtain rfl:a=⟨3,0,0,1,j.t,qf j.t j.n⟩:=ht
    have ea:=ug (p:=p) (s:=0) (g:=0) (f:=1) (o:=j.t) (w:=qf j.t j.n) (wu hq.nb (by decide)) (.inl rfl)
    rw [show p.at 0 1=G.tW from hq.tail] at ea
    by_cases hsame:gF G.tW j.t
    ·rw [if_pos hsame] at ea
     have hjt:j.t=G.tW:=hw.2.1 hsame.2.1.symm
     obtain ⟨n1,hn1,hjn⟩:=hn.resolve_left fun e=>hn0 (by rw [e];rfl)
     obtain ⟨n0,r,hf,hhd,hh1,-,-⟩:=hq.ns0 hn1
     obtain ⟨rR,hr0⟩:=hq.agb hf (by rw [←hs',hjt];rfl)
     have hla:n1=G.la:=by rw [←hh1,hr0];rfl
     have ew:qf j.t j.n=⟨G.la.s,G.la.g,G.tt+1,0,false⟩:=by rw [hjt,hjn,hla];rfl
     rw [ew] at ea
     have K:=QL hq rR
     have hpt:=hq.pt (hq.si rR)
     refine ⟨PS.put {p with steps:=p.steps+1} 0 1 ⟨G.la.s,G.la.g,G.tt+1,0,false⟩,⟨G.tW,true⟩,{G with lag:=false,tt:=G.tt+1},by rw [ew];exact ea,?_,?_,?_,fun v0 h0=>(h0.ae3 rR).ap fun n hn=>hn⟩
     ·exact (hq.steps _).U8 rR
     ·have:=mk (G':={G with lag:=false,tt:=G.tt+1}) (x:=⟨G.tW,true⟩) (by rw [one bK];exact .s5 h0' hr hh (K.tw _ hw) hs' (K.nx _ hn) hn0 hpt ha)
      rw [bK] at this
      exact this
     ·trivial
    ·rw [if_neg hsame] at ea
     rw [←bK]
     refine ld bK ea (.s5 h0' hr hh hw hs' hn hn0 ?_ ha)
     refine hw.2.2.2 ?_
     rcases Int.lt_or_eq_of_le hw.1 with h | h
     ·exact h
     ·exact absurd (by rw [hw.2.1 h];exact cZ _) hsame
   | idle y=>rw [bK] at h0;exact absurd rfl h0
   | _=>rw [bK] at ht;exact ht.elim
  | s6 h0' hr hh hn hn0 hp ht ha =>
   cases bK:v.t with
   | one a =>
    rw [bK] at ht
    obtain rfl:a=Ac.load j.n.slot j.n.gen 1:=ht
    obtain ⟨n1,hn1,hjn⟩:=hn.resolve_left fun e=>hn0 (by rw [e];rfl)
    obtain ⟨n0,r,hf,hhd,hh1,hmem,hv1⟩:=hq.ns0 hn1
    have e3:=J3 (hq.use n1 (nV (EC hmem))) (f:=1) (by decide)
    rw [show p.cell (n1.s-1).toNat (1:Int).toNat=_ from hq.val n1 hmem] at e3
    rw [←bK]
    refine ld bK (x:=⟨Wd.dM n1.v,true⟩) (by rw [hjn];exact e3) (.s6 h0' hr hh hn hn0 hp hv1 ha)
   | idle y=>rw [bK] at h0;exact absurd rfl h0
   | _=>rw [bK] at ht;exact ht.elim
  | s7 h0' hr hh hn hn0 hp hv ht ha =>
   obtain ⟨n1,hn1,hjn⟩:=hn.resolve_left fun e=>hn0 (by rw [e];rfl)
   obtain ⟨n0,r,hf,hhd,hh1,hmem,hv1⟩:=hq.ns0 hn1
   have hlr:G.lag=true→r≠[]:=fun rR e=>by
    refine hp ?_
    rw [hhd]
    unfold Gh.tl
    rw [rR,hf,e]
    rfl
   have ea:=U6 (p:=p) (o:=G.hW) (w:=qf j.h j.n) hq.nb hq.head
   rw [←hh] at ea
   have ew:qf j.h j.n=⟨((r ++ [G.la]).headD G.la).s,((r ++ [G.la]).headD G.la).g,G.ht+1,0,false⟩:=by rw [hh,hjn,hh1];rfl
   have ae9:=(hq.steps (p.steps+1)).pop hf hr hlr
   rw [←ew] at ae9
   refine ⟨PS.put {p with steps:=p.steps+1} 0 0 (qf j.h j.n),⟨j.h,true⟩,{G with fr:=r,ht:=G.ht+1,ret:=[n0],d:=G.d+1},by rw [ht];exact ea,?_,?_,?_,fun v0 h0=>(h0.ahY hf hlr).ap fun n hn=>hn⟩
   ·rw [one ht];exact ae9
   ·refine mk ?_
    rw [one ht]
    exact .nM h0' n0 G.d rfl (by rw [hh];exact ⟨by rw [←hhd];rfl,by rw [←hhd];rfl⟩) hv rfl _ rfl rfl ha
   ·rw [one ht];trivial
  | nM h0' n0 c hr hh hv hc x ht hx ha=>rw [ht] at h0;exact absurd rfl h0
  | s8 h0' c hv hc ht ha =>
   have eA:∀{B:Prop} {p':PS} {x:Rp} {q:LR},p.act (v.t.acc v.l)=(p',some x)→RT.aG v.l v.t x=q→Qs p' G q.1.notes→Bs q.1 q.2→xJ j.h (∃n0,G.ret=[n0]∧j.h.slot=n0.s∧j.h.gen=n0.g) (G.ret=[]) q.2→(∀v0,E0 p G v0→E0 p' G v0) →
     ∃p' x G',p.act (v.t.acc v.l)=(p',some x)∧Qs p' G' (RT.aG v.l v.t x).1.notes∧D1 G' (v.with (RT.aG v.l v.t x))∧Bs (RT.aG v.l v.t x).1 (RT.aG v.l v.t x).2∧∀v0,E0 p G v0→E0 p' G' v0:=fun {B p' x q} a1 e1 a2 a4 hR a5=>by
    refine ⟨p',x,G,a1,by rw [e1];exact a2,mk (by rw [e1];exact .s8 h0' c hv hc hR ha),by rw [e1];exact a4,a5⟩
   cases bK:v.t with
   | fB o =>
    rw [bK] at ht
    obtain ⟨rfl,n0,hr,hh⟩:=ht
    have hn0:=hq.use n0 (by rw [hr];simp)
    obtain ⟨p',x,a1,a2,a3,a4,a5⟩:=quiet (by rw [bK];trivial) (fun c e=>by rw [bK] at e;cases e) (fun o e=>by rw [bK] at e;cases e;rw [hh.1,hh.2];exact hn0)
    have e1:RT.aG v.l v.t x=(v.l,.iT j.h x.word.num):=by rw [bK];rfl
    rw [e1] at a4
    rw [←bK]
    exact eA (B:=True) a1 e1 a2 a4 ⟨rfl,n0,hr,hh⟩ a5
   | iT o b =>
    rw [bK] at ht
    obtain ⟨rfl,n0,hr,hh⟩:=ht
    obtain ⟨p',x,a1,a2,a3,a4,a5⟩:=quiet (by rw [bK];trivial) (fun c e=>by rw [bK] at e;cases e) (fun o e=>by rw [bK] at e;cases e)
    have hnt:=a2.bS hr hh b x.word.num
    have e1:(RT.aG v.l v.t x).1.notes=v.l.notes ++ [⟨j.h.gI,b,x.word.num⟩]∧xJ j.h (∃m0,({G with ret:=[]}:Gh).ret=[m0]∧j.h.slot=m0.s∧j.h.gen=m0.g) (({G with ret:=[]}:Gh).ret=[]) (RT.aG v.l v.t x).2:=by
     rw [bK]
     show (if v.l.bC then (RT.note v.l j.h b x.word.num,RT.iD x.word) else RT.bS (RT.note v.l j.h b x.word.num)).1.notes=_∧xJ _ _ _ (if v.l.bC then (RT.note v.l j.h b x.word.num,RT.iD x.word) else RT.bS (RT.note v.l j.h b x.word.num)).2
     split
     ·exact ⟨rfl,rfl⟩
     ·exact ⟨wH _,Cf _ rfl⟩
    rw [←bK]
    exact ⟨p',x,{G with ret:=[]},a1,by rw [e1.1];exact hnt,mk (.s8 h0' c hv hc e1.2 ha),a4,fun v0 h0=>(a5 v0 h0).ret []⟩
   | iA d r =>
    rw [bK] at ht hs
    have hr:G.ret=[]:=ht
    have hd:d∈v.l.notes:=List.Sublist.subset (show (d :: r).Sublist v.l.notes from hs) (List.mem_cons_self ..)
    have hds:=hq.note d hd
    have ea:p.act (RT.acc v.l (.iA d r))=(PS.free {p with steps:=p.steps+1} d.ref.slot,some ⟨Wd.zero,true⟩):=X0 hds.1 hds.live
    rw [←bK] at ea ⊢
    have e1:RT.aG v.l v.t ⟨Wd.zero,true⟩=RT.dz {v.l with notes:=v.l.notes.erase d,freed:=v.l.freed+1} r:=by rw [bK];rfl
    refine eA (B:=True) ea e1 ?_ (C8 r) (E8 _ r hr) fun v0 h0=>h0.ap fun n hn=>hn
    rw [zH]
    exact (hq.steps _).free hok.IA hd
   | idle y=>rw [bK] at h0;exact absurd rfl h0
   | iD _ =>
    rw [bK] at ht
    obtain ⟨p',x,a1,a2,a3,a4,a5⟩:=quiet (by rw [bK];trivial) (fun c e=>by rw [bK] at e;cases e) (fun o e=>by rw [bK] at e;cases e)
    have e1:RT.aG v.l v.t x=RT.bS v.l:=by rw [bK];rfl
    rw [e1] at a4
    rw [←bK]
    exact eA (B:=True) a1 e1 (by rw [wH];exact a2) a4 (Cf _ ht) a5
   | kT =>
    rw [bK] at ht
    obtain ⟨p',x,a1,a2,a3,a4,a5⟩:=quiet (by rw [bK];trivial) (fun c e=>by rw [bK] at e;cases e) (fun o e=>by rw [bK] at e;cases e)
    have e1:RT.aG v.l v.t x=(v.l,.fM x.word []):=by rw [bK];rfl
    rw [e1] at a4
    rw [←bK]
    exact eA (B:=True) a1 e1 a2 a4 ht a5
   | fM ck seen =>
    rw [bK] at ht
    obtain ⟨p',x,a1,a2,a3,a4,a5⟩:=quiet (by rw [bK];trivial) (fun c e=>by rw [bK] at e;cases e) (fun o e=>by rw [bK] at e;cases e)
    have e1:(RT.aG v.l v.t x).1.notes=v.l.notes∧xJ j.h (∃n0,G.ret=[n0]∧j.h.slot=n0.s∧j.h.gen=n0.g) (G.ret=[]) (RT.aG v.l v.t x).2:=by
     rw [bK]
     exact Od (fun q:LR=>q.1.notes=v.l.notes∧xJ j.h (∃n0,G.ret=[n0]∧j.h.slot=n0.s∧j.h.gen=n0.g) (G.ret=[]) q.2) (fun _=>⟨rfl,ht⟩) fun _=>Od (fun q:LR=>q.1.notes=v.l.notes∧xJ j.h (∃n0,G.ret=[n0]∧j.h.slot=n0.s∧j.h.gen=n0.g) (G.ret=[]) q.2) (fun _=>⟨zH _ _,E8 _ _ ht⟩) fun _=>Od (fun q:LR=>q.1.notes=v.l.notes∧xJ j.h (∃n0,G.ret=[n0]∧j.h.slot=n0.s∧j.h.gen=n0.g) (G.ret=[]) q.2) (fun _=>⟨rfl,ht⟩) fun _=>⟨rfl,ht⟩
    rw [←bK]
    exact eA (B:=True) a1 rfl (by rw [e1.1];exact a2) a4 e1.2 a5
   | jo ck =>
    rw [bK] at ht
    obtain ⟨p',x,a1,a2,a3,a4,a5⟩:=quiet (by rw [bK];trivial) (fun c e=>by rw [bK] at e;cases e) (fun o e=>by rw [bK] at e;cases e)
    have e1:RT.aG v.l v.t x=(v.l,.fG):=by rw [bK];rfl
    rw [e1] at a4
    rw [←bK]
    exact eA (B:=True) a1 e1 a2 a4 ht a5
   | fG =>
    rw [bK] at ht
    obtain ⟨p',x,a1,a2,a3,a4,a5⟩:=quiet (by rw [bK];trivial) (fun c e=>by rw [bK] at e;cases e) (fun o e=>by rw [bK] at e;cases e)
    have e1:RT.aG v.l v.t x=RT.gM v.l x.word []:=by rw [bK];rfl
    rw [e1] at a4
    rw [←bK]
    exact eA (B:=True) a1 e1 (by unfold RT.gM;rw [zH];exact a2) a4 (E8 _ _ ht) a5
   | _=>rw [bK] at ht;exact ht.elim
end
end Go.Proofs.YthomdlajobnmnaaGreatDoor.Cq
namespace Go.Proofs.YthomdlajobnmnaaGreatDoor.Cq
open Go.RowKit Go.Rex
section
variable {p:PS} {G:Gh} {N:List Nt} {v:Vk}
theorem afa (h:E0 p G v) (hq:Qs p G N) (hok:p.OK) (ho:v.l.OK) (hs:v.t.fF v.l) (hb:Bs v.l v.t) (h0:v.t.dB≠0) :
  ∃p' x G',p.act (v.t.acc v.l)=(p',some x)∧Qs p' G' N∧E0 p' G' (v.with (RT.aG v.l v.t x))∧(RT.aG v.l v.t x).1.notes=v.l.notes∧Bs (RT.aG v.l v.t x).1 (RT.aG v.l v.t x).2∧∀v1,D1 G v1→D1 G' v1:=by
 have hck:=hq.mE
 obtain ⟨a12,Oc,hops⟩:=h.ops
 have quiet:Qt v.t→(∀c,v.t=.bW c→p.has c.slot c.gen c.field∧p.live c.slot c.gen)→(∀o,v.t=.fB o→p.jc o.slot o.gen) →
   ∃p' x,p.act (v.t.acc v.l)=(p',some x)∧Qs p' G N∧(∀c,v.t=.bW c→x=⟨p.at c.slot c.field,true⟩)∧Bs (RT.aG v.l v.t x).1 (RT.aG v.l v.t x).2∧∀n,PS.vl p n→PS.vl p' n:=fun hqt hl hr=>by
  obtain ⟨p',x,a1,a2,a3,a4,-⟩:=BC ho hs hb hq.nb hl hr hqt
  refine ⟨p',x,a1,hq.ap a2,a3,Ql ho hs hb fun c=>?_,fun n hn=>by unfold PS.vl;rw [a2.cell];exact hn⟩
  rw [a4 c]
  show 0≤(p.bd 24).num
  omega
 rcases h.st with ⟨hj,hm,eu,hh,hi,hL⟩ | ⟨j,hj,hi,hop,hl,hJ⟩
 ·obtain ⟨-,e1,e2,e3⟩:=zG (l:=v.l) (x:=Rp.yes) hL h0
  obtain ⟨p',x,a1,a2,a3,a4,a5⟩:=quiet e1 (fun c e=>absurd e (e2 c)) fun o e=>absurd e (e3 o)
  obtain ⟨⟨f1,f2⟩,-⟩:=zG (l:=v.l) (x:=x) hL h0
  refine ⟨p',x,G,a1,a2,⟨h.ops,h.said,h.sl,.inl ⟨hj,hm,eu,hh,fun e=>?_,f1⟩⟩,f2,a4,fun _ h=>h⟩
  obtain ⟨y,hy⟩:=hi e
  rw [hy] at h0
  exact absurd rfl h0
 ·have afb:v.said.length<12:=by
   rw [hops,List.length_map,List.length_range] at hl
   omega
  have mk:∀{p':PS} {G':Gh} {x:Rp},JE p' G' (RT.aG v.l v.t x).2 j v.said.length→E0 p' G' (v.with (RT.aG v.l v.t x)):=fun {p' G' x} hJ'=>⟨h.ops,h.said,h.sl,.inr ⟨j,hj,hi,hop,hl,hJ'⟩⟩
  have one:∀{a:Ac},v.t=.one a→∀x,RT.aG v.l v.t x=(v.l,.idle x):=fun {a} e x=>by rw [e];rfl
  have on:∀{a:Ac} {x:Rp} {p':PS} {G':Gh},v.t=.one a→p.act a=(p',some x)→Qs p' G' N→JE p' G' (.idle x) j v.said.length→(∀v1,D1 G v1→D1 G' v1) →
    ∃p' x G',p.act (v.t.acc v.l)=(p',some x)∧Qs p' G' N∧E0 p' G' (v.with (RT.aG v.l v.t x))∧(RT.aG v.l v.t x).1.notes=v.l.notes∧Bs (RT.aG v.l v.t x).1 (RT.aG v.l v.t x).2∧∀v1,D1 G v1→D1 G' v1:=fun {a x p' G'} e ea hQ hJ' hD=>by
   refine ⟨p',x,G',by rw [e];exact ea,hQ,mk (by rw [one e];exact hJ'),by rw [one e],by rw [one e];trivial,hD⟩
  have stp:∀n,PS.vl p n→PS.vl {p with steps:=p.steps+1} n:=fun n h=>h
  have hla:G.lag=false→G.tl=G.la:=fun e=>by unfold Gh.tl;rw [e];rfl
  have Hq:=hq.use G.la (nV M7)
  have ah2:G.la.s≠0:=fun e=>by have:=Hq.1.1;omega
  have afc:p.cell (G.la.s-1).toNat 2=Wd.zero:=GJ hq.chain
  cases hJ with
  | s0 h0' hm eu hh ht =>
   obtain ⟨-,e1,e2,e3⟩:=uH (l:=v.l) (x:=Rp.yes) ht h0
   obtain ⟨p',x,a1,a2,a3,a4,a5⟩:=quiet e1 (fun c e=>absurd e (e2 c)) fun o e=>absurd e (e3 o)
   obtain ⟨⟨f1,f2⟩,-⟩:=uH (l:=v.l) (x:=x) ht h0
   exact ⟨p',x,G,a1,a2,mk (.s0 h0' hm eu hh f1),f2,a4,fun _ h=>h⟩
  | s1 h0' hm eu hh ht =>
   rcases ht with ht | ⟨w,ht⟩
   ·obtain ⟨p',x,a1,a2,a3,a4,a5⟩:=quiet (by rw [ht];trivial) (fun c e=>by rw [ht] at e;cases e) (fun o e=>by rw [ht] at e;cases e)
    have e1:RT.aG v.l v.t x=(v.l,.one ⟨4,0,0,0,Wd.zero,Wd.dM x.word.num⟩):=by rw [ht];rfl
    exact ⟨p',x,G,a1,a2,mk (by rw [e1];exact .s1 h0' hm eu hh (.inr ⟨_,rfl⟩)),by rw [e1],a4,fun _ h=>h⟩
   ·have ea:=Qd (p:=p) (s:=0) (g:=0) (f:=0) (o:=Wd.zero) (w:=w)
    obtain ⟨n,n1,n2,n3⟩:=(hq.steps (p.steps+1)).alloc hok.IA hh (by unfold Gh.m at hm;omega) w.num
    rw [n2] at ea
    exact on ht ea n3 (.s1' h0' hm eu n rfl (by rw [n1];show _=((G.d+G.fr.length:Nat):Int);omega) rfl) fun v1 h1=>h1.kp (aci _)
  | s1' h0' hm eu n hh hv ht=>rw [ht] at h0;exact absurd rfl h0
  | s2 h0' hm eu n hh ht =>
   have Va:n∈G.hand:=by rw [hh.1];simp
   have hu:=hq.use n (by simp [Va])
   have ea:=RQ hu (f:=1) (by decide) Wd.zero (Wd.dM j.op.val)
   obtain ⟨n1,n2⟩:=(hq.steps (p.steps+1)).ahL Va (Wd.dM j.op.val)
   refine on ht ea n1 (.s2' h0' hm eu n hh ?_ _ rfl) fun _ h=>h
   unfold PS.vl
   rw [n2,hop,hh.2.1,hm]
   rfl
  | s2' h0' hm eu n hh hv x ht=>rw [ht] at h0;exact absurd rfl h0
  | s3 h0' hm eu n hh hv ht =>
   obtain ⟨e1,e2,e3⟩:=Cg ht h0
   obtain ⟨p',x,a1,a2,a3,a4,a5⟩:=quiet e1 (fun c e=>by rw [e2 c e];exact ⟨wu hq.nb (f:=1) (by decide),.inl rfl⟩) fun o e=>absurd e (e3 o)
   obtain ⟨f1,f2⟩:=E5 (l:=v.l) (x:=x) ht h0 fun e=>by
    rw [a3 _ e]
    exact hq.tail
   exact ⟨p',x,G,a1,a2,mk (.s3 h0' hm eu n hh (a5 _ hv) f1),f2,a4,fun _ h=>h⟩
  | s4 h0' hm eu n hh hv hjt ht =>
   cases bK:v.t with
   | one a =>
    rw [bK] at ht
    obtain rfl:a=Ac.load j.t.slot j.t.gen 2:=ht
    have WA:j.t.slot=G.la.s∧j.t.gen=G.la.g:=by rw [hjt,←hla eu];exact ⟨rfl,rfl⟩
    have e3:p.act (Ac.load j.t.slot j.t.gen 2)=({p with steps:=p.steps+1},some ⟨Wd.zero,true⟩):=by
     rw [WA.1,WA.2,J3 Hq (f:=2) (by decide),show p.cell (G.la.s-1).toNat (2:Int).toNat=Wd.zero from afc]
    rw [←bK]
    exact on bK e3 (hq.steps _) (.s4 h0' hm eu n hh (stp _ hv) hjt rfl) fun _ h=>h
   | idle y=>rw [bK] at h0;exact absurd rfl h0
   | _=>rw [bK] at ht;exact ht.elim
  | s5 h0' hm eu n hh hv hjt hn ht =>
   cases bK:v.t with
   | one a =>
    rw [bK] at ht
    obtain rfl:a=Ac.load 0 0 1:=ht
    have e3:=sV (p:=p) hq.nb (f:=1) (by decide)
    rw [show p.bd (1:Int).toNat=_ from hq.tail] at e3
    rw [←bK]
    exact on bK e3 (hq.steps _) (.s5 h0' hm eu n hh (stp _ hv) hjt hn rfl) fun _ h=>h
   | idle y=>rw [bK] at h0;exact absurd rfl h0
   | _=>rw [bK] at ht;exact ht.elim
  | s7 h0' hm eu n hh hv hjt ht =>
   have WA:j.t.slot=G.la.s∧j.t.gen=G.la.g:=by rw [hjt,←hla eu];exact ⟨rfl,rfl⟩
   have ew:qf Wd.zero j.node=lk n:=by rw [hh.2.2];rfl
   have ea:=ug (p:=p) (s:=G.la.s) (g:=G.la.g) (f:=2) (o:=Wd.zero) (w:=qf Wd.zero j.node) (Hq.has (by decide)) Hq.live
   have eat:p.at G.la.s 2=Wd.zero:=(if_neg ah2).trans afc
   rw [eat,if_pos (cZ _),ew] at ea
   have hQ:=(hq.steps (p.steps+1)).link hh.1 eu hv (by rw [hh.2.1];show ((G.d+G.fr.length:Nat):Int)=_;omega)
   refine on (p':=PS.put {p with steps:=p.steps+1} G.la.s 2 (lk n)) ht (by rw [WA.1,WA.2,ew];exact ea) hQ (.nM h0' ?_ rfl (.inl ⟨rfl,?_,?_,?_⟩) _ rfl rfl) fun v1 h1=>h1.kp (acj eu n)
   ·show G.d+(G.fr ++ [G.la]).length=_
    rw [List.length_append,←hm]
    rfl
   ·rw [hjt]
    unfold Gh.tW Gh.tl
    rw [eu]
    simp
   ·rw [hh.2.2]
   ·rw [hh.2.2]
  | nM h0' hm hh hT x ht hx=>rw [ht] at h0;exact absurd rfl h0
  | s8 h0' hm hh hT ht =>
   have ea:=ug (p:=p) (s:=0) (g:=0) (f:=1) (o:=j.t) (w:=qf j.t j.node) (wu hq.nb (by decide)) (.inl rfl)
   rw [show p.at 0 1=G.tW from hq.tail] at ea
   rcases hT with ⟨eu,hjt,hn1,hn2⟩ | ⟨eu,hjt⟩
   ·have ew:qf j.t j.node=⟨G.la.s,G.la.g,G.tt+1,0,false⟩:=by unfold qf;rw [hn1,hn2,hjt];rfl
    rw [if_pos (by rw [hjt];exact cZ _),ew] at ea
    refine on (p':=PS.put {p with steps:=p.steps+1} 0 1 ⟨G.la.s,G.la.g,G.tt+1,0,false⟩) ht (by rw [ew];exact ea) ((hq.steps _).U8 eu) (.xK h0' hm hh rfl _ rfl) fun v1 h1=>h1.kp (QL hq eu)
   ·rw [if_neg (fun q=>by have:G.tt=j.t.tag:=q.2.1;omega)] at ea
    exact on ht ea (hq.steps _) (.xK h0' hm hh eu _ rfl) fun _ h=>h
  | xK h0' hm hh eu x ht=>rw [ht] at h0;exact absurd rfl h0
end
end Go.Proofs.YthomdlajobnmnaaGreatDoor.Cq
namespace Go.Proofs.YthomdlajobnmnaaGreatDoor.Cq
open Go.RowKit Go.Rex
def gd (p:PS) (l:Lo) (c:Ca):Prop:=(l.af=2→(p.at c.slot c.field).slot=0∨l.h c.i.toNat=(p.at c.slot c.field).gI)∧(l.bC→RT.dN l c.i (p.bd 24).num)
instance (p:PS) (l:Lo) (c:Ca):Decidable (gd p l c):=by unfold gd;exact inferInstance
def jR (p:PS) (l:Lo):RT→Nat
 | .idle _=>0
 | .one _=>1
 | .fin _=>1
 | .lC=>2
 | .ik i=>(10-i).toNat
 | .bW c=>if gd p l c then 2 else 5
 | .ib c _=>if gd p l c then 1 else 4
 | .gz c _=>if gd p l c then 3 else 6
 | .lT=>2
 | .fB _=>l.notes.length+66
 | .iT _ _=>l.notes.length+65
 | .iD _=>l.notes.length+60
 | .kT=>l.notes.length+58
 | .fM _ seen=>l.notes.length+3+(l.all-seen.length).toNat
 | .jo _=>l.notes.length+2
 | .fG=>l.notes.length+1
 | .iA _ r=>r.length+1
section
variable {p p':PS} {l:Lo} {t:RT} {x:Rp}
theorem Oe (ho:l.OK):l.all≤54:=by
 have ht:=ho.threads
 unfold Lo.all
 split <;> omega
theorem WB (ho:l.OK) (hs:t.fF l) (hn:l.notes.length≤50):jR p l t≤120:=by
 have ha:=Oe ho
 cases t with
 | ik i =>
  have hi:0≤i∧i≤8:=hs
  show (10-i).toNat≤120
  omega
 | bW c=>show (if gd p l c then 2 else 5)≤120;split <;> omega
 | ib c w=>show (if gd p l c then 1 else 4)≤120;split <;> omega
 | gz c a=>show (if gd p l c then 3 else 6)≤120;split <;> omega
 | fM c seen=>show l.notes.length+3+(l.all-seen.length).toNat≤120;omega
 | iA d r =>
  have:(d :: r).length≤l.notes.length:=List.Sublist.length_le hs
  show r.length+1≤120
  simp only [List.length_cons] at this
  omega
 | idle _=>show 0≤120;omega
 | one _=>show 1≤120;omega
 | fin _=>show 1≤120;omega
 | lC=>show 2≤120;omega
 | lT=>show 2≤120;omega
 | fB _=>show l.notes.length+66≤120;omega
 | iT _ _=>show l.notes.length+65≤120;omega
 | iD _=>show l.notes.length+60≤120;omega
 | kT=>show l.notes.length+58≤120;omega
 | jo _=>show l.notes.length+2≤120;omega
 | fG=>show l.notes.length+1≤120;omega
theorem xL {c:Prop} [Decidable c] {a b:LR} {n:Nat} (h1:c→jR p a.1 a.2<n) (h2:¬c→jR p b.1 b.2<n):jR p (if c then a else b).1 (if c then a else b).2<n:=by
 by_cases h:c
 ·rw [if_pos h];exact h1 h
 ·rw [if_neg h];exact h2 h
theorem WC (k:Nat) {n:Nat} (hn:1≤n) (hk:10-k≤n):jR p (RT.leave l (k:Int)).1 (RT.leave l (k:Int)).2≤n:=by
 have:jR p (RT.leave l (k:Int)).1 (RT.leave l (k:Int)).2<n+1:=by
  refine xL (fun _=>by show 1<n+1;omega) fun _=>xL (fun _=>?_) fun _=>by show 0<n+1;omega
  cases hf:RS.first l.h (k:Int).toNat (9-(k:Int).toNat) with
  | none=>show 0<n+1;omega
  | some i =>
   have:=wm l.h _ _ _ hf
   show (10-(i:Int)).toNat<n+1
   omega
 omega
theorem Zt (ho:l.OK):jR p (RT.scan l).1 (RT.scan l).2<l.notes.length+59:=by
 have ha:=Oe ho
 refine xL (fun _=>by show 0<_;omega) fun _=>xL (fun _=>by show l.notes.length+58<_;omega) fun _=>?_
 show l.notes.length+3+(l.all-((([]:List Wd).length:Nat):Int)).toNat<_
 simp only [List.length_nil]
 omega
theorem Kv (ho:l.OK):jR p (RT.bS l).1 (RT.bS l).2<l.notes.length+59:=xL (fun _=>Zt ho) fun _=>by show 0<_;omega
theorem E9 (r:List Nt):jR p (RT.dz l r).1 (RT.dz l r).2≤r.length:=by cases r <;> exact Nat.le_refl _
theorem QN (ho:l.OK) (hs:t.fF l) (hb:Bs l t) (h0:t.dB≠0) (hc:1≤(p.bd 24).num) (hx1:∀c,t=.bW c→x=⟨p.at c.slot c.field,true⟩) (hx2:Ck t→x=⟨p.bd 24,true⟩)
  (hat:∀c,(t=.bW c∨(∃w,t=.ib c w)∨∃a,t=.gz c a)→p'.at c.slot c.field=p.at c.slot c.field∧p'.bd 24=p.bd 24):jR p' (RT.aG l t x).1 (RT.aG l t x).2<jR p l t:=by
 have ha:=Oe ho
 have WE:∀c,(p'.at c.slot c.field=p.at c.slot c.field∧p'.bd 24=p.bd 24)→∀l',gd p' l' c↔gd p l' c:=fun c h l'=>by
  unfold gd
  rw [h.1,h.2]
 cases t with
 | idle y=>exact absurd rfl h0
 | one a=>exact Nat.zero_lt_one
 | fin a=>exact Nat.zero_lt_one
 | lC=>exact (show 1<2 by omega)
 | ik i =>
  have hi:0≤i∧i≤8:=hs
  obtain ⟨k,rfl⟩:∃k:Nat,i=k:=⟨i.toNat,by omega⟩
  show jR p' (RT.leave l ((k:Int)+1)).1 (RT.leave l ((k:Int)+1)).2<(10-(k:Int)).toNat
  have:=WC (p:=p') (l:=l) (k+1) (n:=9-k) (by omega) (by omega)
  have e:((k+1:Nat):Int)=(k:Int)+1:=by omega
  rw [e] at this
  omega
 | bW c =>
  have hx:=hx1 c rfl
  have hA:=hat c (.inl rfl)
  show jR p' _ _<(if gd p l c then 2 else 5)
  refine xL (fun hd=>?_) fun hd=>xL (fun h2=>?_) fun h2=>by show 0<_;split <;> omega
  ·show (if gd p' l c then 1 else 4)<_
   simp only [WE c hA l]
   split <;> omega
  ·have hw:x.word=p.at c.slot c.field:=by rw [hx]
   have hng:¬gd p l c:=fun g=>by
    rcases g.1 h2.1 with e | e
    ·exact h2.2.1 (by rw [hw];exact e)
    ·exact h2.2.2 (by rw [hw];exact e)
   rw [if_neg hng]
   show (if gd p' (l.hold c.i x.word.gI) c then 3 else 6)<5
   have hg:gd p' (l.hold c.i x.word.gI) c:=(WE c hA _).2 ⟨fun _=>.inr (by rw [hw];exact Z5 l c.i _),fun hd'=>absurd hd' hd⟩
   rw [if_pos hg]
   omega
 | ib c w =>
  have hx:=hx2 trivial
  have hA:=hat c (.inr (.inl ⟨w,rfl⟩))
  have hw:x.word.num=(p.bd 24).num:=by rw [hx]
  have hdt:l.bC:=hs.1
  have hn2:¬l.af=2:=fun e=>by
   have:=hdt
   unfold Lo.bC at this
   omega
  show jR p' _ _<(if gd p l c then 1 else 4)
  refine xL (fun hcv=>by show 0<_;split <;> omega) fun hcv=>?_
  have hng:¬gd p l c:=fun g=>hcv (by rw [hw];exact g.2 hdt)
  rw [if_neg hng]
  refine xL (fun h3=>?_) fun h3=>?_
  ·show (if gd p' (l.hold c.i (Wd.dM x.word.num)) c then 3 else 6)<4
   have hg:gd p' (l.hold c.i (Wd.dM x.word.num)) c:=by
    refine (WE c hA _).2 ⟨fun e=>absurd e hn2,fun _=>?_⟩
    unfold RT.dN
    rw [if_pos (show (l.hold c.i (Wd.dM x.word.num)).af=3 from h3)]
    have hh:(l.hold c.i (Wd.dM x.word.num)).h c.i.toNat=Wd.dM x.word.num:=Z5 _ _ _
    rw [hh,hw]
    refine ⟨fun e=>?_,rfl⟩
    have e:(Wd.dM (p.bd 24).num).num=(0:Int):=by rw [e];rfl
    have e:(p.bd 24).num=0:=e
    omega
   rw [if_pos hg]
   omega
  ·show (if gd p' {l with s:=⟨true,if l.s.is=true then l.s.low else x.word.num,x.word.num⟩} c then 3 else 6)<4
   have hg:gd p' {l with s:=⟨true,if l.s.is=true then l.s.low else x.word.num,x.word.num⟩} c:=by
    refine (WE c hA _).2 ⟨fun e=>absurd e hn2,fun _=>?_⟩
    unfold RT.dN
    rw [if_neg (show ¬l.af=3 from h3),hw]
    exact ⟨rfl,rfl⟩
   rw [if_pos hg]
   omega
 | gz c a =>
  have hA:=hat c (.inr (.inr ⟨a,rfl⟩))
  show (if gd p' l c then 2 else 5)<(if gd p l c then 3 else 6)
  simp only [WE c hA l]
  split <;> omega
 | lT=>exact (show 1<2 by omega)
 | fB o=>show l.notes.length+65<l.notes.length+66;omega
 | iT o b =>
  have hl:(RT.note l o b x.word.num).notes.length=l.notes.length+1:=by
   show (l.notes ++ [_]).length=_
   rw [List.length_append];rfl
  refine xL (fun _=>?_) fun _=>?_
  ·show (RT.note l o b x.word.num).notes.length+60<l.notes.length+65
   omega
  ·have:=Kv (p:=p') (ho.note o b x.word.num)
   show _<l.notes.length+65
   omega
 | iD c =>
  have:=Kv (p:=p') ho
  show jR p' (RT.bS l).1 (RT.bS l).2<l.notes.length+60
  omega
 | kT =>
  show l.notes.length+3+(l.all-((([]:List Wd).length:Nat):Int)).toNat<l.notes.length+58
  simp only [List.length_nil]
  omega
 | fM c seen =>
  have hb':(seen.length:Int)<l.all:=hb.1
  have hf:(l.notes.filter fun n=>!RT.kept l c (seen ++ [x.word]) n).length≤l.notes.length:=List.length_filter_le ..
  show jR p' _ _<l.notes.length+3+(l.all-seen.length).toNat
  refine xL (fun _=>?_) fun _=>xL (fun _=>?_) fun _=>xL (fun _=>?_) fun _=>?_
  ·show l.notes.length+3+(l.all-((seen ++ [x.word]).length:Nat)).toNat<_
   rw [List.length_append,List.length_singleton]
   omega
  ·have:=E9 (p:=p') (l:=l) (l.notes.filter fun n=>!RT.kept l c (seen ++ [x.word]) n)
   show jR p' (RT.dz l _).1 (RT.dz l _).2<_
   omega
  ·show l.notes.length+2<_
   omega
  ·show l.notes.length+1<_
   omega
 | jo c=>show l.notes.length+1<l.notes.length+2;omega
 | fG =>
  have hf:(l.notes.filter fun n=>!RT.kept l x.word [] n).length≤l.notes.length:=List.length_filter_le ..
  have:=E9 (p:=p') (l:=l) (l.notes.filter fun n=>!RT.kept l x.word [] n)
  show jR p' (RT.dz l _).1 (RT.dz l _).2<l.notes.length+1
  omega
 | iA d r =>
  have:=E9 (p:=p') (l:={l with notes:=l.notes.erase d,freed:=l.freed+1}) r
  show jR p' (RT.dz _ r).1 (RT.dz _ r).2<r.length+1
  omega
end
end Go.Proofs.YthomdlajobnmnaaGreatDoor.Cq
namespace Go.Proofs.YthomdlajobnmnaaGreatDoor.Cq
open Go.RowKit Go.Rex
def xM (p:PS):Prop:=(p.bd 1).slot≠(p.bd 0).slot
instance (p:PS):Decidable (xM p):=by unfold xM;exact inferInstance
def mD (j:Jb):Nat:=if j.at'=0 then 9 else if j.at'=1 then 8 else if j.at'=2 then 7 else if j.at'=3 then 6 else if j.at'=4 then 5 else if j.at'=5 then 4 else if j.at'=7 then 3 else 2
def iJ (p:PS) (j:Jb) (t:RT):Nat :=
 if j.at'=0 then (if xM p then 9 else 15)
 else if j.at'=1 then (if xM p then 8 else 14)
 else if j.at'=2 then (match t with
   | .idle x=>if x.word.slot=(p.bd 0).slot then 13 else 7
   | _=>if xM p then 7 else 13)
 else if j.at'=3 then (if j.t.slot=(p.bd 0).slot then 12 else 6)
 else if j.at'=4 then (if j.t.slot=(p.bd 0).slot then 11 else 5)
 else if j.at'=5 then 10 else if j.at'=6 then 4 else if j.at'=7 then 3 else 2
def Mv (S:Jb→RT→Nat) (p:PS) (v:Vk):Nat :=
 match v.j with
 | none=>3000 * (v.ops.length-v.said.length)+(if v.aV=true then 150 else 0)+jR p v.l v.t
 | some j=>3000 * (v.ops.length-v.said.length-1)+150 * S j v.t+jR p v.l v.t
def M0 (p:PS) (v:Vk):Nat:=Mv (fun j _=>mD j) p v
def M1 (p:PS) (v:Vk):Nat:=Mv (iJ p) p v
def rk (v:Vk):Nat :=
 if v.t.dB≠0 then 0
 else match v.j with
  | none=>if v.aV=true then 4 else 3
  | some j=>if j.at'=0 then 2 else if j.at'=7 then 7 else if j.at'=8 then 6 else 5
section
variable {p p':PS} {G G':Gh} {N:List Nt} {v:Vk} {x:Rp} {j j':Jb} {c:Ca} {S:Jb→RT→Nat} {l:Lo} {t:RT}
theorem Ch (ho:l.OK) (hok:c.OK) (hn:l.notes.length≤40):jR p (RT.begin l c).1 (RT.begin l c).2≤120 :=
 WB (RT.MW ho) (GG hok) (Nat.le_trans (M4 l c hn) (by omega))
theorem Fa (hj:v.j=some j) (ht:v.t=.idle x) (hn:j.next x=(j',c)) (h12:c.kind≠12) (hok:c.OK) (ho:v.l.OK) (hnl:v.l.notes.length≤40) (hS:S j' (RT.begin v.l c).2<S j v.t):Mv S p (v.bZ x)<Mv S p v:=by
 have he:=Ch (p:=p) ho hok hnl
 rw [l6 hj hn h12]
 unfold Mv
 rw [hj]
 simp only
 rw [ht] at hS ⊢
 show _<3000 * (v.ops.length-v.said.length-1)+150 * S j (.idle x)+0
 omega
theorem QO {co va:Int} (hj:v.j=some j) (ht:v.t=.idle x) (hn:j.next x=(j',{Ca.of 12 with code:=co,val:=va})) (hl:v.said.length<v.ops.length) (hS:2≤S j v.t):Mv S p (v.bZ x)<Mv S p v:=by
 rw [tq hj hn]
 unfold Mv
 rw [hj]
 simp only
 rw [ht] at hS ⊢
 rw [List.length_append,List.length_singleton]
 show _+0<3000 * (v.ops.length-v.said.length-1)+150 * S j (.idle x)+0
 split <;> omega
theorem Kw (hj:v.j=none) (ht:v.t=.idle x) (hi:v.aV=true) (ho:v.l.OK) (hnl:v.l.notes.length≤40):Mv S p (v.bZ x)<Mv S p v:=by
 have he:=Ch (p:=p) (c:=Ca.of 2) ho (wB (by decide)) hnl
 rw [ahZ] at he
 rw [o6 hj hi]
 unfold Mv
 rw [hj]
 simp only
 rw [if_pos hi,ht]
 show 3000 * _+0+_<3000 * _+150+0
 omega
theorem Ky (hj:v.j=none) (ht:v.t=.idle x) (hi:v.aV=false) (hl:v.said.length<v.ops.length) (ho:v.l.OK) (hnl:v.l.notes.length≤40) (hS:∀t,S (Jb.new v.op) t≤15):Mv S p (v.bZ x)<Mv S p v:=by
 have he:=Ch (p:=p) (c:=Ca.of 1) ho (wB (by decide)) hnl
 have hs:=hS (RT.begin v.l (Ca.of 1)).2
 rw [o7 hj hi]
 unfold Mv
 rw [hj]
 simp only
 rw [ht]
 show _<3000 * (v.ops.length-v.said.length)+_+0
 omega
theorem afe (h:v.t.dB≠0):rk v=0:=if_pos h
theorem Jd (hj:v.j=some j) (ht:v.t=.idle x):rk v=if j.at'=0 then 2 else if j.at'=7 then 7 else if j.at'=8 then 6 else 5:=by
 unfold rk
 rw [if_neg (by rw [ht];exact fun h=>h rfl),hj]
theorem aff (hj:v.j=none):rk v≤4:=by
 unfold rk
 split
 ·omega
 rw [hj]
 simp only
 split <;> omega
theorem Og {s g f:Int} {o w:Wd} (ha:p.act ⟨1,s,g,f,o,w⟩=(p',some x)) (hg:p'.bT=true):p.has s g f∧p.live s g:=by
 unfold PS.act at ha
 split at ha
 ·rename_i hv
  unfold PS.valid at hv
  rw [if_pos (.inl rfl)] at hv
  refine ⟨hv,?_⟩
  split at ha
  ·rename_i hr
   unfold PS.right at hr
   rw [if_neg (show ¬(1:Int)=4 by decide),if_neg (show ¬(1:Int)=5 by decide)] at hr
   exact hr
  ·simp only [Prod.mk.injEq] at ha
   rw [←ha.1] at hg
   cases hg
 ·simp at ha
theorem Oh (ho:l.OK) (hs:t.fF l) (hb:Bs l t) (hn:p.nb=85) (hq:Qt t) (ha:p.act (t.acc l)=(p',some x)) (hg:p'.bT=true) :
  Ap p p'∧(∀c,t=.bW c→x=⟨p.at c.slot c.field,true⟩)∧(Ck t→x=⟨p.bd 24,true⟩)∧((∀c,t≠.iD c∧t≠.jo c)→p'.bd 24=p.bd 24):=by
 have gen:(∀c,t≠.bW c)→(∀o,t≠.fB o)→Ap p p'∧(∀c,t=.bW c→x=⟨p.at c.slot c.field,true⟩)∧(Ck t→x=⟨p.bd 24,true⟩)∧((∀c,t≠.iD c∧t≠.jo c)→p'.bd 24=p.bd 24):=fun h1 h2=>by
  obtain ⟨q,y,a1,a2⟩:=BC ho hs hb hn (fun c e=>absurd e (h1 c)) (fun o e=>absurd e (h2 o)) hq
  rw [ha] at a1
  simp only [Prod.mk.injEq,Option.some.injEq] at a1
  obtain ⟨rfl,rfl⟩:=a1
  exact a2
 cases t with
 | bW c =>
  obtain ⟨h1,h2⟩:=Og ha hg
  have e:=qE (o:=Wd.zero) (w:=Wd.zero) h1 h2
  rw [show p.act (RT.acc l (.bW c))=_ from e] at ha
  simp only [Prod.mk.injEq,Option.some.injEq] at ha
  obtain ⟨rfl,rfl⟩:=ha
  exact ⟨Ap.steps p _,fun c' h=>(by cases h;rfl),fun h=>h.elim,fun _=>rfl⟩
 | fB o =>
  obtain ⟨h1,h2⟩:=Og ha hg
  have e:=qE (o:=Wd.zero) (w:=Wd.zero) h1 h2
  rw [show p.act (RT.acc l (.fB o))=_ from e] at ha
  simp only [Prod.mk.injEq,Option.some.injEq] at ha
  obtain ⟨rfl,rfl⟩:=ha
  exact ⟨Ap.steps p _,fun c' h=>(by cases h),fun h=>h.elim,fun _=>rfl⟩
 | _=>exact gen (fun c e=>by cases e) (fun o e=>by cases e)
theorem QP (ho:l.OK) (hs:t.fF l) (hb:Bs l t) (hn:p.nb=85) (hc:1≤(p.bd 24).num) (h0:t.dB≠0) (ha:p.act (t.acc l)=(p',some x)) (hg:p'.bT=true)
  (hF:∀c,(t=.bW c∨(∃w,t=.ib c w)∨∃a,t=.gz c a)→0≤c.field∧c.field<24):jR p' (RT.aG l t x).1 (RT.aG l t x).2<jR p l t:=by
 by_cases hq:Qt t
 ·obtain ⟨a1,a2,a3,a4⟩:=Oh ho hs hb hn hq ha hg
  refine QN ho hs hb h0 hc a2 a3 fun c hcs=>⟨?_,a4 fun c'=>?_⟩
  ·have hf:=hF c hcs
   unfold PS.at
   rw [a1.cell,a1.bd c.field.toNat (by omega)]
  ·rcases hcs with rfl | ⟨w,rfl⟩ | ⟨a,rfl⟩ <;> exact ⟨(fun h=>by cases h),fun h=>by cases h⟩
 ·refine QN ho hs hb h0 hc (fun c e=>?_) (fun e=>?_) fun c e=>?_
  ·rw [e] at hq;exact absurd trivial hq
  ·cases t <;> first | exact e.elim | exact absurd trivial hq
  ·rcases e with rfl | ⟨w,rfl⟩ | ⟨a,rfl⟩ <;> exact absurd trivial hq
end
end Go.Proofs.YthomdlajobnmnaaGreatDoor.Cq
namespace Go.Proofs.YthomdlajobnmnaaGreatDoor.Cq
open Go.RowKit Go.Rex
section
variable {p p':PS} {G G':Gh} {N:List Nt} {v:Vk} {x:Rp}
theorem aaU {j j':Jb} {c:Ca} (hj:v.j=some j) (ht:v.t=.idle x) (hn:j.next x=(j',c)) (h12:c.kind≠12) (hst:(RT.begin v.l c).2.dB≠0):rk (v.bZ x)<rk v:=by
 rw [l6 hj hn h12,afe hst,Jd hj ht]
 split
 ·omega
 split
 ·omega
 split <;> omega
theorem WG {j j':Jb} {co va:Int} (hj:v.j=some j) (ht:v.t=.idle x) (hn:j.next x=(j',{Ca.of 12 with code:=co,val:=va})) (h0:j.at'≠0):rk (v.bZ x)<rk v:=by
 rw [tq hj hn,Jd hj ht,if_neg h0]
 refine Nat.lt_of_le_of_lt (aff rfl) ?_
 split
 ·omega
 split <;> omega
theorem Dn (hj:v.j=none) (ht:v.t=.idle x) (h1:v.aV=true∨v.aV=false):rk (v.bZ x)<rk v:=by
 have e:rk v=if v.aV=true then 4 else 3:=by
  unfold rk
  rw [if_neg (by rw [ht];exact fun h=>h rfl),hj]
 rw [e]
 rcases h1 with hi | hi
 ·rw [o6 hj hi,if_pos hi]
  unfold rk
  split
  ·omega
  ·show (if false=true then 4 else 3)<4
   decide
 ·rw [o7 hj hi,if_neg (by rw [hi];decide)]
  unfold rk
  split
  ·omega
  ·show (if (0:Int)=0 then 2 else _)<3
   rw [if_pos rfl]
   omega
theorem ack (hq:Qs p G N):(p.bd 0).slot=G.hd.s:=by rw [hq.head];rfl
theorem acm (hq:Qs p G N):(p.bd 1).slot=G.tl.s:=by rw [hq.tail];rfl
theorem ptp (hq:Qs p G N) (h:G.PT):xM p:=by
 unfold xM
 rw [ack hq,acm hq]
 exact h
theorem aaV (j:Jb) (t:RT):iJ p j t≤15:=by
 unfold iJ
 split
 ·split <;> omega
 split
 ·split <;> omega
 split
 ·split
  ·split <;> omega
  ·split <;> omega
 split
 ·split <;> omega
 split
 ·split <;> omega
 split
 ·omega
 split
 ·omega
 split <;> omega
theorem ah3 (j:Jb) (t:RT):2≤iJ p j t:=by
 unfold iJ
 split
 ·split <;> omega
 split
 ·split <;> omega
 split
 ·split
  ·split <;> omega
  ·split <;> omega
 split
 ·split <;> omega
 split
 ·split <;> omega
 split
 ·omega
 split
 ·omega
 split <;> omega
theorem agc (h:D1 G v) (hq:Qs p G v.l.notes) (ho:v.l.OK) (hnl:v.l.notes.length≤40) (ht:v.t=.idle x) (hd:¬v.done):rk (v.bZ x)<rk v∧M1 p (v.bZ x)<M1 p v:=by
 obtain ⟨b,Jc,hops⟩:=h.ops
 rcases h.st with ⟨hj,hr,hi,-,ha⟩ | ⟨j,hj,hi,hop,hl,hJ⟩
 ·cases hin:v.aV with
  | true=>exact ⟨Dn hj ht (.inl hin),Kw hj ht hin ho hnl⟩
  | false =>
   have hlt:v.said.length<v.ops.length:=by
    rcases Nat.lt_or_ge v.said.length v.ops.length with h | h
    ·exact h
    ·exact absurd ⟨by rw [ht];rfl,hj,hin,h⟩ hd
   exact ⟨Dn hj ht (.inr hin),Ky hj ht hin hlt ho hnl fun t=>aaV _ _⟩
 ·have nx:=Oa (x:=x) hop
  have go:∀{j':Jb} {c:Ca},j.jK x=(j',c)→c.kind≠12→c.OK→(RT.begin v.l c).2.dB≠0→iJ p j' (RT.begin v.l c).2<iJ p j v.t→rk (v.bZ x)<rk v∧M1 p (v.bZ x)<M1 p v:=fun {j' c} e h12 hok hs hS=>by
   rw [←nx] at e
   exact ⟨aaU hj ht e h12 hs,Fa hj ht e h12 hok ho hnl hS⟩
  have ans:∀{j':Jb} {co va:Int},j.jK x=(j',{Ca.of 12 with code:=co,val:=va})→j.at'≠0→rk (v.bZ x)<rk v∧M1 p (v.bZ x)<M1 p v:=fun {j' co va} e h0=>by
   rw [←nx] at e
   exact ⟨WG hj ht e h0,QO hj ht e hl (ah3 _ _)⟩
  have xS:¬((1:Int)=0):=by decide
  rw [ht] at hJ go
  cases hJ with
  | s0 h0 hr ht ha =>
   exact go (j':={j with at':=1}) (c:=uZ 0) (by simp [Jb.jK,h0,Jb.ask]) (show (6:Int)≠12 by decide) (eX (k:=6) (by decide)) (show (5:Int)≠0 by decide) (by simp only [iJ,h0];simp;split <;> omega)
  | s1 h0 hr ht ha =>
   exact go (j':={j with h:=x.word,at':=2}) (c:=GH 1) (by simp [Jb.jK,h0,Jb.ask]) (show (3:Int)≠12 by decide) (eX (k:=3) (by decide)) (show (1:Int)≠0 by decide) (by
     show iJ p {j with h:=x.word,at':=2} (.one _)<_
     simp only [iJ,h0];simp;split <;> omega)
  | s2 h0 hr hh ht ha =>
   exact go (j':={j with t:=x.word,at':=3}) (c:=U7 j.h 2 1) (by simp [Jb.jK,h0,Jb.ask]) (show (6:Int)≠12 by decide) (caP (by decide)) (show (5:Int)≠0 by decide) (by simp only [iJ,h0];simp;split <;> omega)
  | s3 h0 hr hh hw ht ha =>
   exact go (j':={j with n:=x.word,at':=4}) (c:=GH 0) (by simp [Jb.jK,h0,Jb.ask]) (show (3:Int)≠12 by decide) (eX (k:=3) (by decide)) (show (1:Int)≠0 by decide) (by simp only [iJ,h0];simp;split <;> omega)
  | s4 h0 hr hh hw hn ht ha =>
   have hx:x.word=G.hW:=ht
   have hsame:gF x.word j.h:=by rw [hx,hh];exact cZ _
   have e:j.jK x=(if j.n.slot=0 then j.fin 2 0 else if j.h.slot=j.t.slot then j.ask 5 (zV 1 j.t j.n) else j.ask 6 (BA j.n 1)):=by
    simp [Jb.jK,h0,hsame]
   by_cases hn0:j.n.slot=0
   ·rw [if_pos hn0] at e
    exact ans e (by rw [h0];decide)
   ·rw [if_neg hn0] at e
    by_cases hs:j.h.slot=j.t.slot
    ·rw [if_pos hs] at e
     refine go (c:=zV 1 j.t j.n) e (show (5:Int)≠12 by decide) (eX (k:=5) (s:=0) (g:=0) (f:=1) (by decide)) (show (1:Int)≠0 by decide) ?_
     have e2:j.t.slot=(p.bd 0).slot:=by rw [←hs,hh,hq.head]
     simp only [iJ,h0]
     simp [e2]
    ·rw [if_neg hs] at e
     refine go (c:=BA j.n 1) e (show (3:Int)≠12 by decide) (eX (k:=3) (by decide)) (show (1:Int)≠0 by decide) ?_
     simp only [iJ,h0]
     simp
     split <;> omega
  | s5 h0 hr hh hw hs hn hn0 ht ha =>
   have hp:xM p:=ptp hq ht
   exact go (j':={j with at':=1}) (c:=uZ 0) (by simp [Jb.jK,h0,Jb.ask]) (show (6:Int)≠12 by decide) (eX (k:=6) (by decide)) (show (5:Int)≠0 by decide) (by simp only [iJ,h0];simp [hp])
  | s6 h0 hr hh hn hn0 hp ht ha =>
   exact go (j':={j with val:=x.word.num,at':=7}) (c:=zV 0 j.h j.n) (by simp [Jb.jK,h0,Jb.ask]) (show (5:Int)≠12 by decide) (eX (k:=5) (s:=0) (g:=0) (f:=0) (by decide)) (show (1:Int)≠0 by decide) (by simp only [iJ,h0];simp)
  | s7 h0 hr hh hn hn0 hp hv ht ha=>cases ht
  | nM h0 n0 c hr hh hv hc y hy hx ha =>
   cases hy
   have e:j.jK x=({j with at':=8},{Ca.of 10 with old:=j.h}):=by simp [Jb.jK,h0,hx,Jb.ask]
   rw [←nx] at e
   have h12:({Ca.of 10 with old:=j.h}:Ca).kind≠12:=(show (10:Int)≠12 by decide)
   refine ⟨?_,Fa hj ht e h12 (eX (k:=10) (s:=0) (g:=0) (f:=0) (by decide)) ho hnl (by rw [ht];simp only [iJ,h0];simp)⟩
   rw [l6 hj e h12,Jd hj ht,if_neg (by rw [h0];decide),if_pos h0]
   unfold rk
   split
   ·omega
   ·show (if (8:Int)=0 then 2 else if (8:Int)=7 then 7 else if (8:Int)=8 then 6 else 5)<7
    decide
  | s8 h0 c hv hc ht ha =>
   have e:j.jK x=({j with at':=-1,last:={Ca.of 12 with code:=1,val:=j.val}},{Ca.of 12 with code:=1,val:=j.val}):=by simp [Jb.jK,h0,Jb.fin]
   exact ans e (by rw [h0];decide)
theorem agd (h:E0 p G v) (ho:v.l.OK) (hnl:v.l.notes.length≤40) (ht:v.t=.idle x) (hd:¬v.done):rk (v.bZ x)<rk v∧M0 p (v.bZ x)<M0 p v:=by
 have s9:∀(j:Jb),mD j≤15:=fun j=>by
  unfold mD
  repeat' split
  all_goals omega
 have s2:∀(j:Jb),2≤mD j:=fun j=>by
  unfold mD
  repeat' split
  all_goals omega
 rcases h.st with ⟨hj,hm,eu,hh,hi,-⟩ | ⟨j,hj,hi,hop,hl,hJ⟩
 ·cases hin:v.aV with
  | true=>exact ⟨Dn hj ht (.inl hin),Kw hj ht hin ho hnl⟩
  | false =>
   have hlt:v.said.length<v.ops.length:=by
    rcases Nat.lt_or_ge v.said.length v.ops.length with h | h
    ·exact h
    ·exact absurd ⟨by rw [ht];rfl,hj,hin,h⟩ hd
   exact ⟨Dn hj ht (.inr hin),Ky hj ht hin hlt ho hnl fun t=>s9 _⟩
 ·have nx:=Ob (x:=x) hop
  have go:∀{j':Jb} {c:Ca},j.mQ x=(j',c)→c.kind≠12→c.OK→(RT.begin v.l c).2.dB≠0→mD j'<mD j→rk (v.bZ x)<rk v∧M0 p (v.bZ x)<M0 p v:=fun {j' c} e h12 hok hs hS=>by
   rw [←nx] at e
   exact ⟨aaU hj ht e h12 hs,Fa (S:=fun j _=>mD j) hj ht e h12 hok ho hnl hS⟩
  rw [ht] at hJ
  cases hJ with
  | s0 h0 hm eu hh ht =>
   refine go (j':={j with at':=1}) (c:=Ca.of 8) (by simp [Jb.mQ,h0,Jb.ask]) (by decide) (wB (by decide)) ?_ (by simp [mD,h0])
   have e8:RT.begin v.l (Ca.of 8)=if v.l.bC then (v.l,RT.lT) else (v.l,RT.one ⟨4,0,0,0,Wd.zero,Wd.zero⟩):=rfl
   rw [e8]
   split
   ·exact (show (8:Int)≠0 by decide)
   ·exact (show (1:Int)≠0 by decide)
  | s1 h0 hm eu hh ht=>rcases ht with ht | ⟨w,ht⟩ <;> cases ht
  | s1' h0 hm eu n hh hv ht =>
   cases ht
   exact go (j':={j with node:=⟨n.s,n.g,0,0,false⟩,at':=2}) (c:=U0 ⟨n.s,n.g,0,0,false⟩ 1 (Wd.dM j.op.val)) (by simp [Jb.mQ,h0,Jb.ask]) (show (4:Int)≠12 by decide) (eX (k:=4) (by decide)) (show (1:Int)≠0 by decide) (by simp [mD,h0])
  | s2 h0 hm eu n hh ht=>cases ht
  | s2' h0 hm eu n hh hv y ht =>
   exact go (j':={j with at':=3}) (c:=uZ 1) (by simp [Jb.mQ,h0,Jb.ask]) (show (6:Int)≠12 by decide) (eX (k:=6) (by decide)) (show (5:Int)≠0 by decide) (by simp [mD,h0])
  | s3 h0 hm eu n hh hv ht =>
   exact go (j':={j with t:=x.word,at':=4}) (c:=BA x.word 2) (by simp [Jb.mQ,h0,Jb.ask]) (show (3:Int)≠12 by decide) (eX (k:=3) (by decide)) (show (1:Int)≠0 by decide) (by simp [mD,h0])
  | s4 h0 hm eu n hh hv hjt ht =>
   exact go (j':={j with n:=x.word,at':=5}) (c:=GH 1) (by simp [Jb.mQ,h0,Jb.ask]) (show (3:Int)≠12 by decide) (eX (k:=3) (by decide)) (show (1:Int)≠0 by decide) (by simp [mD,h0])
  | s5 h0 hm eu n hh hv hjt hn ht =>
   have hx:x.word=G.tW:=ht
   have hsame:gF x.word j.t:=by rw [hx,hjt];exact cZ _
   have hz:¬j.n.slot≠0:=by rw [hn];exact fun h=>h rfl
   exact go (j':={j with at':=7}) (c:=MZ j.t 2 j.n j.node) (by simp only [Jb.mQ,h0,Jb.ask];simp [hsame,hz]) (show (5:Int)≠12 by decide) (eX (k:=5) (by decide)) (show (1:Int)≠0 by decide) (by simp [mD,h0])
  | s7 h0 hm eu n hh hv hjt ht=>cases ht
  | nM h0 hm hh hT y hy hx =>
   cases hy
   exact go (j':={j with at':=8}) (c:=zV 1 j.t j.node) (by simp [Jb.mQ,h0,hx,Jb.ask]) (show (5:Int)≠12 by decide) (eX (k:=5) (s:=0) (g:=0) (f:=1) (by decide)) (show (1:Int)≠0 by decide) (by simp [mD,h0])
  | s8 h0 hm hh hT ht=>cases ht
  | xK h0 hm hh eu y hy =>
   have e:j.mQ x=({j with at':=-1,last:={Ca.of 12 with code:=1,val:=0}},{Ca.of 12 with code:=1,val:=0}):=by simp [Jb.mQ,h0,Jb.fin]
   rw [←nx] at e
   exact ⟨WG hj ht e (by rw [h0];decide),QO (S:=fun j _=>mD j) hj ht e hl (s2 _)⟩
end
end Go.Proofs.YthomdlajobnmnaaGreatDoor.Cq
