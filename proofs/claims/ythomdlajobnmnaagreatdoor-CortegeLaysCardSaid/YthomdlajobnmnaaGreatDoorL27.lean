/- part 27 of the proof -/
import Derived.Maps.AppendAt
import Derived.Tactics
import Derived.Tactics2
import Derived.Deep.LoopGhost
import Derived.Deep.QuietTactic
import Derived.BigQuiet
import Derived.Deep.CutRange
import Derived.StillTailTactics
import Derived.Deep.RegionHeld3
import Derived.Test.YthomdlajobnmnaaGreatDoorL17
import Derived.Test.YthomdlajobnmnaaGreatDoorL18
import Derived.Test.YthomdlajobnmnaaGreatDoorL25
import Derived.Test.YthomdlajobnmnaaGreatDoorL26
set_option linter.unusedSimpArgs false
set_option linter.unusedVariables false
namespace Go.Proofs.YthomdlajobnmnaaGreatDoor.Cq
open Go.RowKit Go.Rex
def qh:dJ:={kJ with nv:=15,args:=[.one (.ptr {aC:=8}),.agg [iv 12,iv 13,iv 14]],iC:=20,ret:=.gY [.agg (iY 15),.one (.bool (.lit true))]}
noncomputable def RY:Ex:={sched:=sched,loops:=[],cons:=[],fin:=qh}
def Lf:Out :=
 .ob (.or (.not (.aA (.lit 1) (.var 12))) (.aA (.lit 0) (.var 1))) <|
 .br (.and (.and (.and (.aA (.lit 1) (.var 12)) (.aA (.var 12) (.var 1))) (.aA (.lit 0) (.var 14))) (.bS (.var 14) (.lit 10)))
 (.ob (.inr .i64 (.sub (.var 12) (.lit 1))) <|
  .ob (.aA (.lit 0) (.sub (.var 12) (.lit 1))) <|
  .ob (.bS (.sub (.var 12) (.lit 1)) (.var 1)) <|
  .br (.not (.cell 9 (.sub (.var 12) (.lit 1)) (.lit 0) 1))
  (.bad 45)
  (.br (.not (.aB (.cell 9 (.sub (.var 12) (.lit 1)) (.lit 0) 0) (.var 13)))
   (.bad 45)
   (.fin {lo:=15,az:=13,iv:=[(18,.cell 10 (.sub (.var 12) (.lit 1)) (.var 14) 3),(17,.cell 10 (.sub (.var 12) (.lit 1)) (.var 14) 2),(16,.cell 10 (.sub (.var 12) (.lit 1)) (.var 14) 1),(15,.cell 10 (.sub (.var 12) (.lit 1)) (.var 14) 0)],bv:=[(19,.cell 10 (.sub (.var 12) (.lit 1)) (.var 14) 4)]})))
 (.bad 45)
def Zu:Kn:=[(.aB (.var 12) (.lit 0),false)]
theorem RZ:exec tab RY 8000 [] (dZ qh.f qh.nv Zu qh.gl qh.hp qh.args)=Lf:=by kernel_rfl
def Lg (ρ:Env):Prop:=(1≤ρ.iv 12∧ρ.iv 12≤1024)∧ρ.iv 12≤ρ.iv 1∧(0≤ρ.iv 14∧ρ.iv 14<10)∧ρ.bc 9 (ρ.iv 12-1).toNat 0 1=true∧ρ.ic 9 (ρ.iv 12-1).toNat 0 0=ρ.iv 13
def R3 (ρ:Env):Prop:=ak ρ 15=aF (ρ.ic 10 (ρ.iv 12-1).toNat (ρ.iv 14).toNat) (ρ.bc 10 (ρ.iv 12-1).toNat (ρ.iv 14).toNat)
theorem R4:aV Tryz.prog qh Lg R3 :=
 cK dF (E:=RY) (cs:=[]) rfl (fun k pre post h=>by cases h) bO rfl RZ (by kernel_rfl) (fun ρ h p hp=>by
   have h1:1≤ρ.iv 12:=h.1.1
   simp only [Zu,List.mem_cons,List.not_mem_nil,or_false] at hp
   rcases hp with rfl
   exact beq_eq_false_iff_ne.2 (show ρ.iv 12≠0 by omega)) fun ρ h=>by
  replace h:(1≤ρ.iv 12∧ρ.iv 12≤1024)∧ρ.iv 12≤ρ.iv 1∧(0≤ρ.iv 14∧ρ.iv 14<10)∧ρ.bc 9 (ρ.iv 12-1).toNat 0 1=true∧ρ.ic 9 (ρ.iv 12-1).toNat 0 0=ρ.iv 13:=h
  obtain ⟨⟨h1,h1b⟩,h2,⟨h3,h4⟩,h5,h6⟩:=h
  unfold Lf
  refine Sat.ob (by simp only [Da];omega) (Sat.br (fun k=>?_) fun k=>?_)
  all_goals simp only [Da] at k
  ·refine Sat.ob (by simp only [Da];omega) (Sat.ob (by simp only [Da];omega) (Sat.ob (by simp only [Da];omega) (Sat.br (fun k1=>?_) fun k1=>?_)))
   all_goals simp only [Da] at k1
   ·exact absurd h5 (by rw [k1];decide)
   ·refine Sat.br (fun k2=>?_) fun k2=>?_
    all_goals simp only [Da] at k2
    ·exact absurd h6 k2
    ·exact Sat.fin rfl
  ·exfalso
   omega
theorem UX {w:World} {aP:Addr} {p:PS} {B:Nat→Prop} {cZ:Nat→Addr} {s g f:Int} (hs:jA w cZ) (hp:fu w aP p B) (h0:0≤f∧f<10) (h1:p.pW s g) (hok:p.OK) :
  Calls Tryz.prog 41 #[.pointer (some aP),.agg #[.int .i64 s,.int .i64 g,.int .i64 f]] w fun ev w'=>ev=.returned (.tuple #[II (p.cell (s-1).toNat f.toNat),.bool true])∧Nw w w':=by
 obtain ⟨cB,eQ,rfl,KJ,rfl,hpo,hpb⟩:=hp.ex
 obtain ⟨⟨Rk,hsh⟩,hgl⟩:=hs
 obtain ⟨q,hq⟩:∃q:Env,q={cB with iv:=fun i=>if i=12 then s else if i=13 then g else if i=14 then f else cB.iv i}:=⟨_,rfl⟩
 obtain ⟨ν,kz⟩:∃ν,ν=sS gX.length cZ eQ:=⟨_,rfl⟩
 have hro:aH q eQ uK w:=aH.ext (nv:=12) (n:=5) ⟨fun i hi=>by rw [hq];exact (if_neg (by omega)).trans ((if_neg (by omega)).trans (if_neg (by omega))),fun _ _=>by rw [hq],fun _ _=>by rw [hq],fun _ _=>by rw [hq],fun _ _=>by rw [hq],fun _ _=>by rw [hq],fun _ _=>rfl⟩ (by kernel_rfl) (by decide) (KQ KJ)
 have hsh':aH q ν gX w:=aH.ext (nv:=0) (n:=8) ⟨fun i h=>absurd h (Nat.not_lt_zero _),fun i h=>absurd h (Nat.not_lt_zero _),fun i h=>absurd h (Nat.not_lt_zero _),fun i h=>absurd h (Nat.not_lt_zero _),fun i h=>absurd h (Nat.not_lt_zero _),fun i h=>absurd h (Nat.not_lt_zero _),fun i h=>by rw [kz,pV _ _ _ (Nat.lt_of_lt_of_le h (by decide))]⟩ (by kernel_rfl) (by decide) hsh
 have e1:(fun k=>ν (gX.length+k))=eQ:=by rw [kz];exact funext fun k=>vP ..
 have hall:=hsh'.app (f:=id) (hq:=uK) (by rw [e1];exact hro) fun i j a b hi hj _ _ hr _=>by
  have ha:a.ro=true:=by
   have:(gX.all fun b=>b.ro)=true:=by kernel_rfl
   exact List.all_eq_true.1 this a (List.mem_of_getElem? hi)
  have hb:b.ro=true:=by
   have:(uK.all fun b=>b.ro)=true:=by kernel_rfl
   exact List.all_eq_true.1 this b (List.mem_of_getElem? hj)
  rw [ha,hb] at hr
  rcases hr with h | h <;> cases h
 have eL:qh.hp=gX ++ uK.map (SB.aU id (gX.length+·)):=by kernel_rfl
 rw [←eL] at hall
 have hG:iF ν qh.gl:=by
  refine iF.ext (nv:=0) (n:=8) (ρ:=Rk) (ρ':=q) (ν:=cZ) ⟨fun i h=>absurd h (Nat.not_lt_zero _),fun i h=>absurd h (Nat.not_lt_zero _),fun i h=>absurd h (Nat.not_lt_zero _),fun i h=>absurd h (Nat.not_lt_zero _),fun i h=>absurd h (Nat.not_lt_zero _),fun i h=>absurd h (Nat.not_lt_zero _),fun i h=>?_⟩ (by kernel_rfl) hgl
  rw [kz,pV _ _ _ (Nat.lt_of_lt_of_le h (by decide))]
 have e12:q.iv 12=s:=by rw [hq];rfl
 have e13:q.iv 13=g:=by rw [hq];rfl
 have e14:q.iv 14=f:=by rw [hq];rfl
 have e0:q.iv 1=cB.iv 1:=by rw [hq];rfl
 have eb:q.bc=cB.bc:=by rw [hq]
 have ec:q.ic=cB.ic:=by rw [hq]
 obtain ⟨⟨g1,g2⟩,g3,g4⟩:=h1
 replace g2:s≤cB.iv 1:=g2
 replace g3:cB.bc 9 (s-1).toNat 0 1=true:=g3
 replace g4:cB.ic 9 (s-1).toNat 0 0=g:=g4
 have hrun:=R4.run q ν w hall hG (show Lg q from ⟨⟨by rw [e12];exact g1,by rw [e12];have:=hok.ns.2;replace this:cB.iv 1≤1024:=this;omega⟩,by rw [e12,e0];exact g2,by rw [e14];exact h0,by rw [e12,eb];exact g3,by rw [e12,e13,ec];exact g4⟩)
 have hargs:(qh.args.map (·.den q ν)).toArray=#[.pointer (some (eQ 0)),.agg #[.int .i64 s,.int .i64 g,.int .i64 f]]:=by
  rw [←e12,←e13,←e14,show eQ 0=ν 8 by rw [←e1];rfl]
  rfl
 rw [hargs] at hrun
 refine Calls.mono hrun ?_
 rintro ev w' ⟨ρ',aI,hA,rfl,gJ,hwr,how,q1⟩
 replace q1:ak ρ' 15=aF (ρ'.ic 10 (ρ'.iv 12-1).toNat (ρ'.iv 14).toNat) (ρ'.bc 10 (ρ'.iv 12-1).toNat (ρ'.iv 14).toNat):=q1
 refine ⟨?_,hwr.os,hwr.tape,hwr.output,hwr.size,fun k hk _=>hwr.block k hk fun h=>mq (by kernel_rfl) h⟩
 have e2:(af cB (cB.iv 0) (cB.iv 1) 2).cell (s-1).toNat f.toNat=ak ρ' 15:=by
  rw [q1,hA.iv 12 (by decide),hA.iv 14 (by decide),hA.ic 10 (by decide),hA.bc 10 (by decide),e12,e14,hq]
  rfl
 rw [e2]
 rfl
end Go.Proofs.YthomdlajobnmnaaGreatDoor.Cq
namespace Go.Proofs.YthomdlajobnmnaaGreatDoor.Cq
open Go.RowKit Go.Rex
theorem aad {p0:PS} {m:Int} (h:xL p0 85 m) (hm:0<m∧m≤1024):∃p2 p3 p,(p0.act ⟨4,0,0,0,Wd.zero,Wd.zero⟩=(p2,some ⟨⟨1,1,0,0,false⟩,true⟩)∧p2.act (Ac.store 0 0 0 ⟨1,1,0,0,false⟩)=(p3,some ⟨Wd.zero,true⟩)∧p3.act (Ac.store 0 0 1 ⟨1,1,0,0,false⟩)=(p,some ⟨Wd.zero,true⟩))∧(p0.OK∧p2.OK∧p3.OK)∧(p0.steps=0∧p2.steps=1∧p3.steps=2) ∧
  p.dD=true∧p.nb=85∧p.bd 0=⟨1,1,0,0,false⟩∧p.pW 1 1∧(∀i k,p.cell i k=Wd.zero)∧p.OK∧p.ns=m∧p.nf=m-1:=by
 have hok0:=h.ok ⟨by omega,hm.2⟩ ⟨by decide,by decide⟩
 have hfr:p0.fr (p0.nf-1).toNat=1:=by
  rw [h.nf,h.fr _ (by omega)]
  omega
 have hnf:¬({p0 with steps:=p0.steps+1}:PS).nf=0:=by
  show ¬p0.nf=0
  rw [h.nf]
  omega
 have hg:p0.gen (1-1:Int).toNat=0:=h.gen _
 have ea:PS.alloc {p0 with steps:=p0.steps+1} 0=({p0 with steps:=p0.steps+1,nf:=p0.nf-1,made:=p0.made+1,gen:=fun i=>if i=(1-1:Int).toNat then 0+1 else p0.gen i,used:=fun i=>if i=(1-1:Int).toNat then true else p0.used i,cell:=fun i k=>if i=(1-1:Int).toNat∧k<10 then gQ 0 k else p0.cell i k},⟨⟨1,0+1,0,0,false⟩,true⟩):=by
  unfold PS.alloc
  rw [if_neg hnf]
  simp only [hfr,hg]
 have h2:=AZ (p:=p0) (s:=0) (g:=0) (f:=0) (o:=Wd.zero) (w:=Wd.zero)
 rw [show Wd.zero.num=0 from rfl,ea] at h2
 generalize hp2:({p0 with steps:=p0.steps+1,nf:=p0.nf-1,made:=p0.made+1,gen:=fun i=>if i=(1-1:Int).toNat then 0+1 else p0.gen i,used:=fun i=>if i=(1-1:Int).toNat then true else p0.used i,cell:=fun i k=>if i=(1-1:Int).toNat∧k<10 then gQ 0 k else p0.cell i k}:PS)=p2 at h2
 have hnb:p2.nb=85:=by rw [←hp2];exact h.nb
 have h3:=oo (p:=p2) (s:=0) (g:=0) (f:=0) (o:=Wd.zero) (w:=⟨1,1,0,0,false⟩) (Gg hnb (by decide)) (.inl rfl)
 have h4:=oo (p:=PS.put {p2 with steps:=p2.steps+1} 0 0 ⟨1,1,0,0,false⟩) (s:=0) (g:=0) (f:=1) (o:=Wd.zero) (w:=⟨1,1,0,0,false⟩) (Gg (show _=(85:Int) from hnb) (by decide)) (.inl rfl)
 have o2:p2.OK:=by have:=hok0.act ⟨4,0,0,0,Wd.zero,Wd.zero⟩;rw [h2] at this;exact this
 have o3:=o2.act (Ac.store 0 0 0 ⟨1,1,0,0,false⟩)
 rw [show p2.act (Ac.store 0 0 0 ⟨1,1,0,0,false⟩)=_ from h3] at o3
 have o4:=PS.OK.act o3 (Ac.store 0 0 1 ⟨1,1,0,0,false⟩)
 rw [show PS.act _ (Ac.store 0 0 1 ⟨1,1,0,0,false⟩)=_ from h4] at o4
 have s2:p2.steps=1:=by rw [←hp2];show p0.steps+1=1;rw [h.steps];rfl
 have s3:(PS.put {p2 with steps:=p2.steps+1} 0 0 ⟨1,1,0,0,false⟩).steps=2:=by show p2.steps+1=2;rw [s2];rfl
 have ens:p2.ns=m:=by rw [←hp2];exact h.ns
 refine ⟨p2,_,_,⟨h2,h3,h4⟩,⟨hok0,o2,o3⟩,⟨h.steps,s2,s3⟩,?_,hnb,rfl,⟨⟨by decide,?_⟩,?_,?_⟩,fun i k=>?_,o4,ens,?_⟩
 ·show p2.dD=true
  rw [←hp2];exact h.dD
 ·show (1:Int)≤p2.ns
  rw [ens];omega
 ·show p2.used 0=true
  rw [←hp2];rfl
 ·show p2.gen 0=1
  rw [←hp2];rfl
 ·show p2.cell i k=_
  rw [←hp2]
  show (if i=0∧k<10 then gQ 0 k else p0.cell i k)=_
  rw [h.cell i k,We]
  split <;> rfl
 ·show p2.nf=m-1
  rw [←hp2]
  show p0.nf-1=m-1
  rw [h.nf]
theorem Pk (s g t n f:Int) (m:Bool) (w:World):Calls Tryz.prog 44 #[.agg #[.int .i64 s,.int .i64 g,.int .i64 t,.int .i64 n,.bool m],.int .i64 f] w fun ev w'=>ev=.returned (.agg #[.int .i64 s,.int .i64 g,.int .i64 f])∧Nw w w':=by
 go_enter Tryz.func44,Tryz.ntmps44
 go_wp2
 simp [bodyPost,results,Tryz.results44,go_sem]
 exact ((bC.refl w _).alloc _).alloc _
theorem UY:(Tryz.prog.info? 79).map (fun i=>(i.zero,i.size,i.bytes))=some (some (.agg #[.int .i64 0,.int .i64 0,.int .i64 0,.int .i64 0,.bool false]),5,40):=by kernel_rfl
theorem UZ (w:World) (x y z u v:Value) (t:TypeId):∀j q,[x,y,z,u,v][j]?=some q→(w.alloc (.cells #[x,y,z,u,v] t)).cell? ((⟨w.heap.size,0,none⟩:Addr).add j)=some q:=by
 intro j q hj
 match j,hj with
 | 0,hj=>simp at hj;subst hj;simp [Addr.add]
 | 1,hj=>simp at hj;subst hj;simp [Addr.add]
 | 2,hj=>simp at hj;subst hj;simp [Addr.add]
 | 3,hj=>simp at hj;subst hj;simp [Addr.add]
 | 4,hj=>simp at hj;subst hj;simp [Addr.add]
 | j+5,hj=>simp at hj
theorem U0 (x y z u:Int) (b:Bool):∀v∈[Value.int .i64 x,.int .i64 y,.int .i64 z,.int .i64 u,.bool b],v.oneCell'=true:=by
 intro v hv
 simp at hv
 rcases hv with rfl | rfl | rfl | rfl | rfl <;> rfl
theorem XH {w:World} {aP:Addr} {p:PS} {B:Nat→Prop} {cZ:Nat→Addr} (hs:jA w cZ) (hz:∀k,k<8→(cZ k).block<w.heap.size) (hp:fu w aP p B) (hg:p.dD=true) (hnb:p.nb=85) (hroot:p.bd 0=Wd.zero) :
  Calls Tryz.prog 19 #[.pointer (some aP)] w fun e w'=>e=.returned (.tuple #[.slice none 0 0,.slice none 0 0,.nilIface])∧Nw w w':=by
 obtain ⟨b,rfl,-⟩:=hp.cells hg
 have hr:=fun w=>ry w 0 (by decide)
 have hn:∀w,Calls Tryz.prog 43 #[.agg #[.int .i64 0,.int .i64 0,.int .i64 0,.int .i64 0,.bool false]] w fun e w'=>e=.returned (.bool true)∧Nw w w':=CW Wd.zero
 have hpk:∀w',Nw w w'→Calls Tryz.prog 41 #[.pointer (some ⟨b,0,none⟩),.agg #[.int .i64 0,.int .i64 0,.int .i64 0]] w' fun ev w''=>ev=.returned (.tuple #[.agg #[.int .i64 0,.int .i64 0,.int .i64 0,.int .i64 0,.bool false],.bool true])∧Nw w' w'':=fun w' h=>by
  have:=MV (hs.frame h.size fun k hk=>h.block _ (hz k hk) id) ((hp.mono (B':=fun b=>b<w.heap.size) fun _ _ h=>h).frame fun x hx=>h.block x hx id) (f:=0) (by decide) (by rw [hnb];decide)
  rw [show p.bd (0:Int).toNat=Wd.zero from hroot] at this
  exact this
 clear hs hz hp
 go_enter Tryz.func19,Tryz.ntmps19
 go_wp2_with (first
   | (go_at_call 49;(with_reducible refine (hr _).mono ?_);rintro ev w5 ⟨rfl,gM⟩)
   | (go_at_call 41;(with_reducible refine (hpk _ gM).mono ?_);rintro ev w6 ⟨rfl,BA⟩;have A1:Aside (Nw w w6):=Nw.trans gM BA))
 go_loopg [5,6] 0 (fun k i r wr=>(i=.slice none 0 0∧r=.slice none 0 0)∧(wr.cell? ⟨w6.heap.size,0,none⟩=some (.int .i64 0)∧wr.cell? ⟨w6.heap.size,1,none⟩=some (.int .i64 0)∧wr.cell? ⟨w6.heap.size,2,none⟩=some (.int .i64 0)∧wr.cell? ⟨w6.heap.size,3,none⟩=some (.int .i64 0)∧wr.cell? ⟨w6.heap.size,4,none⟩=some (.bool false))∧Aside (Nw w wr))
 case atStart=>exact ⟨⟨rfl,rfl⟩,⟨by simp,by simp,by simp,by simp,by simp⟩,Nw.trans A1.out ((bC.refl _ _).alloc _)⟩
 case round =>
  obtain ⟨⟨rfl,rfl⟩,⟨c0,c1,c2,c3,c4⟩,hw⟩:=hrel
  go_wp2_with (first
    | (go_at_call 43;(with_reducible refine (hn _).mono ?_);rintro ev w7 ⟨rfl,hw7⟩;have A2:Aside (Nw w w7):=Nw.trans hw.out hw7))
  first
   | (go_ret3;exact ⟨rfl,A2.out⟩)
   | (go_ret;exact ⟨rfl,A2.out⟩)
theorem rQ {a b:World} {x:Nat} {o:Obj} (h:a.heap[x]?=some o) (hn:Nw a b):b.heap[x]?=some o:=(hn.block x (gU h) id).trans h
theorem Zv {bx:Nat} {w:World} (h:w.heap[bx]?=some (.cells #[.int .i64 1,.int .i64 1,.int .i64 0,.int .i64 0,.bool false] 79)):kQ bx w:=by
 unfold kQ World.cell?
 rw [h]
 exact ⟨rfl,rfl,rfl,rfl,rfl⟩
theorem Zw {bx:Nat} {w:World} (h:w.heap[bx]?=some (.cells #[.int .i64 0,.int .i64 0,.int .i64 0,.int .i64 0,.bool false] 79)):w.cell? ⟨bx,0,none⟩=some (.int .i64 0)∧w.cell? ⟨bx,1,none⟩=some (.int .i64 0)∧w.cell? ⟨bx,2,none⟩=some (.int .i64 0)∧w.cell? ⟨bx,3,none⟩=some (.int .i64 0)∧w.cell? ⟨bx,4,none⟩=some (.bool false):=by
 unfold World.cell?
 rw [h]
 exact ⟨rfl,rfl,rfl,rfl,rfl⟩
set_option maxHeartbeats 3000000 in
set_option maxRecDepth 100000 in
theorem XI {w:World} {aP:Addr} {p:PS} {B:Nat→Prop} {cZ:Nat→Addr} (hs:jA w cZ) (hz:∀k,k<8→(cZ k).block<w.heap.size) (hp:fu w aP p B) (hg:p.dD=true) (hnb:p.nb=85) (hroot:p.bd 0=⟨1,1,0,0,false⟩) (Wi:p.pW 1 1) (hcell:∀i k,p.cell i k=Wd.zero) (hok:p.OK) :
  Calls Tryz.prog 19 #[.pointer (some aP)] w fun e w'=>(∃g c,e=.returned (.tuple #[.slice none 0 0,.slice (some ⟨g,0,none⟩) 1 c,.nilIface]))∧Nw w w':=by
 obtain ⟨i0,hi,hy0,hy1,hy2⟩:=info_parts UY
 obtain ⟨b,rfl,-⟩:=hp.cells hg
 have hown0:∀x:World,x.ownsRow 0 79 5 (.slice none 0 0) 0 []:=fun x=>⟨rfl,.inl ⟨rfl,rfl⟩⟩
 have hm1:0+1≤maxLen:=by unfold maxLen;omega
 have hm2:(0+1) * 40≤140737488355328:=by omega
 have Zx:∀(x:World) (g:Nat),(Value.slice none 0 0).ownBlock=some g→x.heap.size≤g:=fun x g h=>by cases h
 have hr:=fun w=>ry w 0 (by decide)
 have hn0:∀w,Calls Tryz.prog 43 #[.agg #[.int .i64 0,.int .i64 0,.int .i64 0,.int .i64 0,.bool false]] w fun e w'=>e=.returned (.bool true)∧Nw w w':=CW Wd.zero
 have hn1:∀w,Calls Tryz.prog 43 #[.agg #[.int .i64 1,.int .i64 1,.int .i64 0,.int .i64 0,.bool false]] w fun e w'=>e=.returned (.bool false)∧Nw w w':=CW ⟨1,1,0,0,false⟩
 have Ph:=Lb ⟨1,1,0,0,false⟩
 have I9:=fun f=>Pk 1 1 0 0 f false
 have hpk:∀w',Nw w w'→Calls Tryz.prog 41 #[.pointer (some ⟨b,0,none⟩),.agg #[.int .i64 0,.int .i64 0,.int .i64 0]] w' fun ev w''=>ev=.returned (.tuple #[.agg #[.int .i64 1,.int .i64 1,.int .i64 0,.int .i64 0,.bool false],.bool true])∧Nw w' w'':=fun w' h=>by
  have:=MV (hs.frame h.size fun k hk=>h.block _ (hz k hk) id) ((hp.mono (B':=fun b=>b<w.heap.size) fun _ _ h=>h).frame fun x hx=>h.block x hx id) (f:=0) (by decide) (by rw [hnb];decide)
  rw [show p.bd (0:Int).toNat=_ from hroot] at this
  exact this
 have hpc:∀f:Int,0≤f∧f<10→∀w',Nw w w'→Calls Tryz.prog 41 #[.pointer (some ⟨b,0,none⟩),.agg #[.int .i64 1,.int .i64 1,.int .i64 f]] w' fun ev w''=>ev=.returned (.tuple #[.agg #[.int .i64 0,.int .i64 0,.int .i64 0,.int .i64 0,.bool false],.bool true])∧Nw w' w'':=fun f hf w' h=>by
  have:=UX (s:=1) (g:=1) (hs.frame h.size fun k hk=>h.block _ (hz k hk) id) ((hp.mono (B':=fun b=>b<w.heap.size) fun _ _ h=>h).frame fun x hx=>h.block x hx id) hf Wi hok
  rw [hcell] at this
  exact this
 have hp1:=hpc 1 (by decide)
 have hp2:=hpc 2 (by decide)
 clear hs hz hp hpc Wi hok hcell
 go_enter Tryz.func19,Tryz.ntmps19
 go_wp2_with (first
   | (go_at_call 49;(with_reducible refine (hr _).mono ?_);rintro ev w5 ⟨rfl,gM⟩)
   | (go_at_call 41;(with_reducible refine (hpk _ gM).mono ?_);rintro ev w6 ⟨rfl,BA⟩;have A1:Aside (Nw w w6):=Nw.trans gM BA))
 have A0:Aside (w.heap.size≤w6.heap.size):=A1.out.size
 go_loopg [5,6] 1 (fun k i r wr=>((k=1∧(i=.slice none 0 0∧r=.slice none 0 0)∧Aside (wr.heap[w6.heap.size]?=some (.cells #[.int .i64 1,.int .i64 1,.int .i64 0,.int .i64 0,.bool false] 79))) ∨
     (k=0∧(i=.slice none 0 0∧∃g c,r=.slice (some ⟨g,0,none⟩) 1 c)∧Aside (wr.heap[w6.heap.size]?=some (.cells #[.int .i64 0,.int .i64 0,.int .i64 0,.int .i64 0,.bool false] 79))))∧Aside (Nw w wr))
 case atStart=>exact ⟨.inl ⟨rfl,⟨rfl,rfl⟩,mD _ _⟩,Nw.trans A1.out ((bC.refl _ _).alloc _)⟩
 case round =>
  rename World=>wr
  obtain ⟨⟨rfl,⟨rfl,rfl⟩,hbl⟩ | ⟨rfl,⟨rfl,gr,cr,rfl⟩,hbl⟩,hw⟩:=hrel
  ·obtain ⟨c0,c1,c2,c3,c4⟩:=Zv hbl.out
   go_wp2_with (first
     | (go_at_call 43;(with_reducible refine (hn1 _).mono ?_);rintro ev w7 ⟨rfl,hw7⟩;have n7:Nw w w7:=Nw.trans hw.out hw7;have h7b:=rQ hbl.out hw7;replace c0:=hw7.fw c0;replace c1:=hw7.fw c1;replace c2:=hw7.fw c2;replace c3:=hw7.fw c3;replace c4:=hw7.fw c4;clear hw7)
     | (go_at_call 44;(with_reducible refine (I9 _ w7).mono ?_);rintro ev w8 ⟨rfl,hw8⟩;have n8:Nw w w8:=Nw.trans n7 hw8)
     | (go_at_call 41;(with_reducible refine (hp1 _ n8).mono ?_);rintro ev w9 ⟨rfl,o7⟩;have n9:Nw w w9:=Nw.trans n8 o7;have Zy:Nw w7 w9:=Nw.trans hw8 o7;have h9b:=rQ h7b Zy;have Nf:kQ w6.heap.size w9:=kQ.nw ⟨c0,c1,c2,c3,c4⟩ Zy;have d0:=(fun o=>(Nf.al o).1);have d1:=(fun o=>(Nf.al o).2.1);have d2:=(fun o=>(Nf.al o).2.2.1);have d3:=(fun o=>(Nf.al o).2.2.2.1);have d4:=(fun o=>(Nf.al o).2.2.2.2);clear c0 c1 c2 c3 c4)
     | (go_at_call 46;(with_reducible refine (Ph _).mono ?_);rintro ev w10 ⟨rfl,abF⟩;have n10:Nw w9 w10:=Nw.trans ((bC.refl _ _).alloc _) abF;have abG:kQ w6.heap.size w10:=Nf.nw n10;have abH:=rQ h9b n10;clear d0 d1 d2 d3 d4)
     | (at_builtin;refine wpList_append_own_at _ rfl _ _ 49 rfl 0 79 i0 (.agg #[.int .i64 0,.int .i64 0,.int .i64 0,.int .i64 0,.bool false]) 5 40 Tryz.underlying49 hi hy0 hy1 hy2 rfl (by decide) _ _ _ rfl (hown0 _) _ 1 1 [.int .i64 1,.int .i64 1,.int .i64 0,.int .i64 0,.bool false] rfl rfl (UZ _ _ _ _ _ _ _) (U0 _ _ _ _ _) hm1 hm2 (Nat.zero_le _) ?_;intro v' w11 hown' hgrow _ hat;obtain ⟨gr,cr,rfl⟩:=Hz hown';have n11:Nw w10 w11:=M0 ((bC.refl _ _).alloc _) hgrow (Zx _);have abI:=rQ abH n11;obtain ⟨e0,e1,e2,e3,e4⟩:=abG.nw n11)
     | (go_at_call 44;(with_reducible refine (I9 _ w11).mono ?_);rintro ev w12 ⟨rfl,U3⟩;have n12:Nw w w12:=Nw.trans (Nw.trans n9 n10) (Nw.trans n11 U3);have acT:kQ w6.heap.size w12:=kQ.nw ⟨e0,e1,e2,e3,e4⟩ U3)
     | (go_at_call 41;(with_reducible refine (hp2 _ n12).mono ?_);rintro ev w13 ⟨rfl,Zz⟩;have n13:Nw w w13:=Nw.trans n12 Zz;have abJ:=rQ (rQ abI U3) Zz;clear e0 e1 e2 e3 e4)
     | ((with_reducible change Oper.upon _ _ _ _ _ _);refine xP [.int .i64 0,.int .i64 0,.int .i64 0,.int .i64 0,.bool false] abJ rfl ?_;intro w14 ZA ZB;have AE:Aside (Nw w w14∧w14.heap[w6.heap.size]?=some (.cells #[.int .i64 0,.int .i64 0,.int .i64 0,.int .i64 0,.bool false] 79)):=⟨vQ n13 ZA (fun x hx=>hx ▸ A0.out),ZB⟩;clear ZA ZB)
     | fail)
   go_roundg 0
   case measure=>omega
   case rel=>exact ⟨.inr ⟨rfl,⟨rfl,gr,cr,rfl⟩,AE.out.2⟩,AE.out.1⟩
  ·obtain ⟨c0,c1,c2,c3,c4⟩:=Zw hbl.out
   go_wp2_with (first
     | (go_at_call 43;(with_reducible refine (hn0 _).mono ?_);rintro ev w7 ⟨rfl,hw7⟩;have A2:Aside (Nw w w7):=Nw.trans hw.out hw7))
   first
    | (go_ret3;exact ⟨⟨gr,cr,rfl⟩,A2.out⟩)
    | (go_ret;exact ⟨⟨gr,cr,rfl⟩,A2.out⟩)
end Go.Proofs.YthomdlajobnmnaaGreatDoor.Cq
namespace Go.Proofs.YthomdlajobnmnaaGreatDoor.Cq
open Go.RowKit Go.Rex
structure zW (w:World) (A:Nat) (B BP:Nat→Prop) (cZ:Nat→Addr):Prop where
 d:∀x,BP x→¬B x
 bl:∀x,B x→x<w.heap.size
 pl:∀x,BP x→x<w.heap.size
 a:¬BP A∧A<w.heap.size
 sn:jA w cZ
 z:∀k,k<8→¬B (cZ k).block∧¬BP (cZ k).block∧(cZ k).block<w.heap.size
structure bz (w w':World) (b base A:Nat) (aP:Addr) (B BP:Nat→Prop) (k':Wk) (p':PS):Prop where
 ex:∃B' oq:Nat→Prop,fu w' aP p' oq∧aO w' b base A k' B'∧(∀x,oq x→BP x∨w.heap.size≤x)∧(∀x,B' x→B x∨w.heap.size≤x)∧(∀x,oq x→¬B' x)∧bC w (fun x=>BP x∨B x) w'
section
variable {w wa wb:World} {b base A:Nat} {k k':Wk} {aP:Addr} {p p':PS} {B BP:Nat→Prop} {cZ:Nat→Addr} {rb:Nat}
theorem bz.of (hW:aO w b base A k B) (hP:fu w aP p BP) (hd:∀x,BP x→¬B x):bz w w b base A aP B BP k p :=
 ⟨B,BP,hP,hW,fun _ h=>.inl h,fun _ h=>.inl h,hd,bC.refl _ _⟩
theorem bz.wk (h:bz w wa b base A aP B BP k p):∃Ba,aO wa b base A k Ba∧(∀x,Ba x→x<wa.heap.size)∧∀wb k' B',aO wb b base A k' B'→(∀x,B' x→Ba x∨wa.heap.size≤x)→bC wa Ba wb→bz w wb b base A aP B BP k' p:=by
 obtain ⟨B1,yn,h1,h2,h3,h4,h5,h6⟩:=h.ex
 refine ⟨fun x=>B1 x∧x<wa.heap.size,h2.mono fun x p q=>⟨p,q⟩,fun x hx=>hx.2,fun wb k' B' g1 g2 g3=>⟨B',fun x=>yn x∧x<wa.heap.size,?_,g1,fun x hx=>h3 x hx.1,fun x hx=>?_,fun x hx hy=>?_,il h6 g3 fun x hx _=>(h4 x hx.1).imp .inr id⟩⟩
 ·exact (h1.mono (B':=fun x=>yn x∧x<wa.heap.size) fun x p q=>⟨p,q⟩).frame fun x hx=>g3.block x hx.2 fun hy=>h5 x hx.1 hy.1
 ·rcases g2 x hx with g | g
  ·exact h4 x g.1
  ·exact .inr (Nat.le_trans h6.size g)
 ·rcases g2 x hy with g | g
  ·exact h5 x hx.1 g.1
  ·exact absurd hx.2 (Nat.not_lt.2 g)
theorem bz.pl (h:bz w wa b base A aP B BP k p) (hb:zW w A B BP cZ):∃R5,fu wa aP p R5∧(∀x,R5 x→BP x∨w.heap.size≤x)∧∀wb p' oq,fu wb aP p' oq→(∀x,oq x→wa.heap.size≤x∨R5 x)→bC wa R5 wb→bz w wb b base A aP B BP k p':=by
 obtain ⟨B1,yn,h1,h2,h3,h4,h5,h6⟩:=h.ex
 refine ⟨fun x=>yn x∧x<wa.heap.size,h1.mono fun x p q=>⟨p,q⟩,fun x hx=>h3 x hx.1,fun wb p' oq g1 g2 g3=>⟨fun x=>B1 x∧x<wa.heap.size,oq,g1,h2.frame (fun x hx hy=>g3.block x hx fun hz=>h5 x hz.1 hy) (g3.block _ h2.self.2.2 fun hz=>?_) g3.size,fun x hx=>?_,fun x hx=>h4 x hx.1,fun x hx hy=>?_,il h6 g3 fun x hx _=>(h3 x hx.1).imp .inl id⟩⟩
 ·exact (h3 _ hz.1).elim hb.a.1 fun q=>absurd hb.a.2 (Nat.not_lt.2 q)
 ·rcases g2 x hx with g | g
  ·exact .inr (Nat.le_trans h6.size g)
  ·exact h3 x g.1
 ·rcases g2 x hx with g | g
  ·exact absurd hy.2 (Nat.not_lt.2 g)
  ·exact h5 x g.1 hy.1
theorem bz.nw (h:bz w wa b base A aP B BP k p) (hn:Nw wa wb):bz w wb b base A aP B BP k p:=by
 obtain ⟨Ba,h1,h2,h3⟩:=h.wk
 exact h3 wb k _ (h1.nw hn) (fun x hx=>.inl hx.1) ⟨hn.os,hn.tape,hn.output,hn.size,fun x hx _=>hn.block x hx id⟩
theorem bz.cells (h:bz w wa b base A aP B BP k p):∃(aR:Nat) (jv sv:Value) (c:Nat),wa.cell? ⟨b,0,none⟩=some (.pointer (some ⟨aR,0,none⟩))∧wa.cell? ⟨b,1,none⟩=some (.slice (some ⟨A,0,none⟩) k.ops.length c)∧wa.cell? ⟨b,2,none⟩=some jv∧wa.cell? ⟨b,3,none⟩=some (.bool k.bu)∧wa.cell? ⟨b,4,none⟩=some sv∧∀i,wa.frozen? ⟨b,i,none⟩=false:=by
 obtain ⟨Ba,h1,-⟩:=h.wk
 exact h1.cells
theorem bz.K7 (h:bz w wa b base A aP B BP k p) (hj:k.j=none):wa.cell? ⟨b,2,none⟩=some (.pointer none):=by
 obtain ⟨Ba,h1,-⟩:=h.wk
 exact h1.K7 hj
theorem bz.said (h:bz w wa b base A aP B BP k p):∃a c,wa.cell? ⟨b,4,none⟩=some (.slice a k.said.length c):=by
 obtain ⟨Ba,h1,-⟩:=h.wk
 exact h1.said
theorem bz.UQ (h:bz w wa b base A aP B BP k p):lq wa A k.ops:=by
 obtain ⟨Ba,h1,-⟩:=h.wk
 exact h1.UQ
theorem bz.lt (h:bz w wa b base A aP B BP k p):b<wa.heap.size∧A<wa.heap.size:=by
 obtain ⟨Ba,h1,-⟩:=h.wk
 exact h1.self.2
theorem bz.ge (h:bz w wa b base A aP B BP k p):w.heap.size≤wa.heap.size:=by
 obtain ⟨B1,yn,-,-,-,-,-,h6⟩:=h.ex
 exact h6.size
theorem pX {w:World} {a:Addr} {x y:Nat} (h:w.cell? a=some (.pointer (some ⟨x,0,none⟩))) (h':w.cell? a=some (.pointer (some ⟨y,0,none⟩))):x=y:=by
 have:=h.symm.trans h'
 simpa using this
theorem bz.busy (h:bz w wa b base A aP B BP k p) (hc:wa.cell? ⟨b,0,none⟩=some (.pointer (some ⟨rb,0,none⟩))) :
  Calls Tryz.prog 36 #[.pointer (some ⟨rb,0,none⟩)] wa fun e w'=>e=.returned (.bool (decide (k.r.step≠0)))∧w'=wa:=by
 obtain ⟨Ba,h1,-⟩:=h.wk
 obtain ⟨R6,hc',hb⟩:=h1.Pg
 obtain rfl:=pX hc hc'
 exact hb
theorem bz.begin (h:bz w wa b base A aP B BP k p) (hc:wa.cell? ⟨b,0,none⟩=some (.pointer (some ⟨rb,0,none⟩))) (hk:sU k.r) (h0:k.r.step=0) {c:Ca} (ho:c.OK) :
  Calls Tryz.prog 37 #[.pointer (some ⟨rb,0,none⟩),qg c] wa fun e w'=>e=.returned .nilIface∧bz w w' b base A aP B BP {k with r:=(k.r.begin c).1} p:=by
 obtain ⟨Ba,h1,h2,h3⟩:=h.wk
 obtain ⟨R6,hc',hb⟩:=h1.Zl hk h0 ho
 obtain rfl:=pX hc hc'
 exact hb.mono fun e w' ⟨he,hW,hw⟩=>⟨he,h3 _ _ _ hW (fun x hx=>hx) hw⟩
theorem bz.next (h:bz w wa b base A aP B BP k p) (hc:wa.cell? ⟨b,0,none⟩=some (.pointer (some ⟨rb,0,none⟩))) (h0:k.r.step≠0) :
  Calls Tryz.prog 39 #[.pointer (some ⟨rb,0,none⟩)] wa fun e w'=>e=.returned (.tuple #[mX k.r.acc,.bool true])∧bz w w' b base A aP B BP k p:=by
 obtain ⟨Ba,h1,h2,h3⟩:=h.wk
 obtain ⟨R6,hc',hb⟩:=h1.Z9 h0
 obtain rfl:=pX hc hc'
 exact hb.mono fun e w' ⟨he,hW,hw⟩=>⟨he,h3 _ _ _ hW (fun x hx=>hx) hw⟩
theorem bz.bM (h:bz w wa b base A aP B BP k p) (hc:wa.cell? ⟨b,0,none⟩=some (.pointer (some ⟨rb,0,none⟩))) {x:Rp} (hk:oZ k.r x) :
  Calls Tryz.prog 40 #[.pointer (some ⟨rb,0,none⟩),iM x] wa fun e w'=>e=.returned .nilIface∧bz w w' b base A aP B BP {k with r:=(k.r.bM x).1} p:=by
 obtain ⟨Ba,h1,h2,h3⟩:=h.wk
 obtain ⟨R6,hc',hb⟩:=h1.aaa hk
 obtain rfl:=pX hc hc'
 exact hb.mono fun e w' ⟨he,hW,hw⟩=>⟨he,h3 _ _ _ hW (fun x hx=>hx) hw⟩
theorem bz.uz (h:bz w wa b base A aP B BP k p) {j:Jb} (hj:k.j=some j):∃aJ,wa.cell? ⟨b,2,none⟩=some (.pointer (some aJ)):=by
 obtain ⟨Ba,h1,-⟩:=h.wk
 obtain ⟨aJ,BJ,hc,-⟩:=h1.jb hj
 exact ⟨aJ,hc⟩
theorem bz.doA (h:bz w wa b base A aP B BP k p) (hb:zW w A B BP cZ) (hok:p.OK) (hst:p.steps≤1000000) {a:Ac} {x:Rp} (hx:p.act a=(p',some x)) :
  Calls Tryz.prog 32 #[.pointer (some aP),mX a] wa fun e w'=>e=.returned (.tuple #[iM x,.nilIface])∧bz w w' b base A aP B BP k p':=by
 obtain ⟨R5,h1,h2,h3⟩:=h.pl hb
 obtain ⟨B1,yn,-,-,-,-,-,h6⟩:=h.ex
 have hsn:jA wa cZ:=hb.sn.frame h6.size fun j hj=>h6.block _ (hb.z j hj).2.2 fun q=>q.elim (hb.z j hj).2.1 (hb.z j hj).1
 refine (EI hsn h1 (fun j hj q=>(h2 _ q).elim (hb.z j hj).2.1 fun q=>absurd (hb.z j hj).2.2 (Nat.not_lt.2 q)) hok hst hx).mono ?_
 rintro e w' ⟨he,B',g1,g2,g3⟩
 exact ⟨he,h3 _ _ _ g1 g2 g3⟩
theorem bz.put (h:bz w wa b base A aP B BP k p) (i:Nat) (x:Value) (j:Option Jb) (bu:Bool) (hj:i=2→j=none∧x=.pointer none) (hi:i=3→x=.bool bu) (hj':i≠2→j=k.j) (hi':i≠3→bu=k.bu) (h23:i=2∨i=3) :
  bz w (wa.setCell ⟨b,i,none⟩ x) b base A aP B BP {k with j:=j,bu:=bu} p:=by
 obtain ⟨Ba,h1,h2,h3⟩:=h.wk
 exact h3 _ _ _ (h1.put i x j bu hj hi hj' hi' h23).2 (fun x hx=>.inl hx) (h1.setW i x)
theorem bz.UM (h:bz w wa b base A aP B BP k p) (hn:Nw wa wb) {aJ:Addr} {j:Jb} {BJ:Nat→Prop} (hJ:jB wb aJ j BJ) (hf:∀x,BJ x→wa.heap.size≤x) :
  bz w (wb.setCell ⟨b,2,none⟩ (.pointer (some aJ))) b base A aP B BP {k with j:=some j} p:=by
 obtain ⟨Ba,h1,h2,h3⟩:=h.wk
 have hs:=(h1.nw hn).setW 2 (.pointer (some aJ))
 refine h3 _ _ _ (h1.UM hn hJ hf).2 (fun x hx=>hx) ⟨hs.os.trans hn.os,hs.tape.trans hn.tape,hs.output.trans hn.output,Nat.le_trans hn.size hs.size,fun x hx hb=>(hs.block x (Nat.lt_of_lt_of_le hx hn.size) fun q=>hb q.1).trans (hn.block x hx id)⟩
theorem bz.K6 (h:bz w wa b base A aP B BP k p):∃sv:Value,wa.cell? ⟨b,4,none⟩=some sv∧wa.ownsRow base 39 2 sv k.said.length (lQ k.said) ∧
  ∀w1 w2 v' (x:Int × Int),Nw wa w1→w1.grownBy w2 sv.ownBlock→w2.ownsRow base 39 2 v' (k.said.length+1) (lQ k.said ++ [.int .i64 x.1,.int .i64 x.2])→(v'.ownBlock=sv.ownBlock∨v'.ownBlock=some w1.heap.size) →
   w2.frozen? ⟨b,4,none⟩=false∧w2.cell? ⟨b,4,none⟩=some sv∧bz w (w2.setCell ⟨b,4,none⟩ v') b base A aP B BP {k with said:=k.said ++ [x]} p:=by
 obtain ⟨B1,yn,h1,h2,h3,h4,h5,h6⟩:=h.ex
 obtain ⟨aR,jv,sv',c,BR,BJ,k1,-,-,-,k5,-,-,-,hB⟩:=h2.ex
 obtain ⟨sv,s1,s2,s3⟩:=h2.K6
 have hsv:sv=sv':=by
  have:wa.cell? ⟨b,4,none⟩=some sv':=by
   unfold World.cell?
   rw [k1]
   rfl
  exact Option.some.inj (s1.symm.trans this)
 refine ⟨sv,s1,s2,fun w1 w2 v' x hn hg ho hv=>?_⟩
 obtain ⟨a1,a2,a3⟩:=s3 w1 w2 v' x hn hg ho hv
 refine ⟨a1,a2,fun y=>B1 y∨wa.heap.size≤y,fun y=>yn y∧y<wa.heap.size,?_,a3,fun y hy=>h3 y hy.1,fun y hy=>?_,fun y hy hz=>?_,?_⟩
 ·refine (h1.mono (B':=fun x=>yn x∧x<wa.heap.size) fun x p q=>⟨p,q⟩).frame fun y hy=>?_
  have hyb:y≠b:=fun e=>h5 y hy.1 (e ▸ h2.self.1)
  have ZC:sv.ownBlock≠some y:=fun e=>h5 y hy.1 (hB y (.inr (.inr (.inr (hsv ▸ e)))))
  exact (heap_setCell_other w2 ⟨b,4,none⟩ y _ hyb).trans ((hg.block y (Nat.lt_of_lt_of_le hy.2 hn.size) fun e=>ZC e.symm).trans (hn.block y hy.2 id))
 ·rcases hy with hy | hy
  ·exact h4 y hy
  ·exact .inr (Nat.le_trans h6.size hy)
 ·rcases hz with hz | hz
  ·exact h5 y hy.1 hz
  ·exact absurd hy.2 (Nat.not_lt.2 hz)
 ·have e:(w2.setCell ⟨b,4,none⟩ v').heap.size=w2.heap.size:=by simp [World.setCell]
  refine ⟨hg.os.trans (hn.os.trans h6.os),hg.tape.trans (hn.tape.trans h6.tape),hg.output.trans (hn.output.trans h6.output),by rw [e];exact Nat.le_trans h6.size (Nat.le_trans hn.size hg.size),fun y hy hno=>?_⟩
  have hya:y<wa.heap.size:=Nat.lt_of_lt_of_le hy h6.size
  have nB:¬B1 y:=fun q=>(h4 y q).elim (fun q=>hno (.inr q)) fun q=>absurd hy (Nat.not_lt.2 q)
  have hyb:y≠b:=fun e=>nB (e ▸ h2.self.1)
  have ZC:sv.ownBlock≠some y:=fun e=>nB (hB y (.inr (.inr (.inr (hsv ▸ e)))))
  exact (heap_setCell_other w2 ⟨b,4,none⟩ y _ hyb).trans ((hg.block y (Nat.lt_of_lt_of_le hya hn.size) fun e=>ZC e.symm).trans ((hn.block y hya id).trans (h6.block y hy hno)))
end
end Go.Proofs.YthomdlajobnmnaaGreatDoor.Cq
namespace Go.Proofs.YthomdlajobnmnaaGreatDoor.Cq
open Go.RowKit Go.Rex
structure Wx (wr wx:World) (X:Nat→Prop) (b base A:Nat) (Ba:Nat→Prop) (k:Wk):Prop where
 ex:∃B':Nat→Prop,aO wx b base A k B'∧∀x,B' x→(Ba x∨wr.heap.size≤x)∧¬X x∧x<wx.heap.size
 zS:bC wr Ba wx
 nx:∀x,X x→wr.heap.size≤x∧x<wx.heap.size
 a:A<wr.heap.size
section
variable {w wr wx w':World} {X:Nat→Prop} {b base A rb:Nat} {Ba B BP:Nat→Prop} {k k':Wk} {aP:Addr} {p:PS}
theorem Wx.of (h:aO wr b base A k Ba) (hl:∀x,Ba x→x<wr.heap.size):Wx wr wr (fun _=>False) b base A Ba k :=
 ⟨⟨Ba,h,fun x hx=>⟨.inl hx,id,hl x hx⟩⟩,bC.refl _ _,fun _ h=>h.elim,h.self.2.2⟩
theorem Wx.alloc (h:Wx wr wx X b base A Ba k) (o:Obj):Wx wr (wx.alloc o) (fun x=>X x∨x=wx.heap.size) b base A Ba k:=by
 obtain ⟨B',h1,h2⟩:=h.ex
 have hn:Nw wx (wx.alloc o):=(bC.refl _ _).alloc o
 have hs:(wx.alloc o).heap.size=wx.heap.size+1:=by simp
 refine ⟨⟨_,h1.nw hn,fun x hx=>⟨(h2 x hx.1).1,fun q=>q.elim (h2 x hx.1).2.1 fun e=>by have:=hx.2;omega,by rw [hs];have:=hx.2;omega⟩⟩,EM h.zS hn,fun x hx=>?_,h.a⟩
 rw [hs]
 rcases hx with hx | rfl
 ·have:=h.nx x hx
  omega
 ·have:=h.zS.size
  omega
theorem Wx.drew (h:Wx wr wx X b base A Ba k):Wx wr wx.drew X b base A Ba k:=by
 obtain ⟨B',h1,h2⟩:=h.ex
 have hn:Nw wx wx.drew:=Nw.drew (bC.refl _ _)
 exact ⟨⟨_,h1.nw hn,fun x hx=>h2 x hx.1⟩,EM h.zS hn,h.nx,h.a⟩
theorem Wx.Cj {B':Nat→Prop} (h:Wx wr wx X b base A Ba k) (hB:∀x,B' x→(Ba x∨wr.heap.size≤x)∧¬X x∧x<wx.heap.size) (hW:aO w' b base A k' (fun x=>B' x∨wx.heap.size≤x)) (hw:bC wx B' w') :
  Wx wr w' X b base A Ba k'∧∀x,X x→w'.heap[x]?=wx.heap[x]?:=by
 refine ⟨⟨⟨fun x=>(B' x∨wx.heap.size≤x)∧x<w'.heap.size,hW.mono fun x p q=>⟨p,q⟩,fun x hx=>?_⟩,il h.zS hw fun x hx _=>(hB x hx).1,fun x hx=>⟨(h.nx x hx).1,Nat.lt_of_lt_of_le (h.nx x hx).2 hw.size⟩,h.a⟩,fun x hx=>hw.block x (h.nx x hx).2 fun q=>(hB x q).2.1 hx⟩
 rcases hx.1 with g | g
 ·exact ⟨(hB x g).1,(hB x g).2.1,hx.2⟩
 ·exact ⟨.inr (Nat.le_trans h.zS.size g),fun q=>absurd (h.nx x q).2 (Nat.not_lt.2 g),hx.2⟩
theorem Wx.bV (h:Wx wr wx X b base A Ba k) (hc:wx.cell? ⟨b,0,none⟩=some (.pointer (some ⟨rb,0,none⟩))) :
  Calls Tryz.prog 38 #[.pointer (some ⟨rb,0,none⟩)] wx fun e w'=>e=.returned (iM k.r.bV)∧Wx wr w' X b base A Ba k∧(∀x,X x→w'.heap[x]?=wx.heap[x]?)∧∀i,w'.cell? ⟨b,i,none⟩=wx.cell? ⟨b,i,none⟩:=by
 obtain ⟨B',h1,h2⟩:=h.ex
 obtain ⟨R6,hc',hb⟩:=h1.bV
 obtain rfl:=pX hc hc'
 refine hb.mono fun e w' ⟨he,hW,hw,hcc⟩=>?_
 obtain ⟨g1,g2⟩:=h.Cj h2 hW hw
 exact ⟨he,g1,g2,fun i=>by unfold World.cell?;rw [hcc]⟩
theorem Wx.next (h:Wx wr wx X b base A Ba k) {aJ:Addr} {j j':Jb} {c:Ca} {x:Rp} (hc:wx.cell? ⟨b,2,none⟩=some (.pointer (some aJ))) (hj:k.j=some j) (ht:j.tg) (hn:j.next x=(j',c)) :
  Calls Tryz.prog 48 #[.pointer (some aJ),iM x] wx fun e w'=>e=.returned (qg c)∧Wx wr w' X b base A Ba {k with j:=some j'}∧(∀x,X x→w'.heap[x]?=wx.heap[x]?)∧∀i,w'.cell? ⟨b,i,none⟩=wx.cell? ⟨b,i,none⟩:=by
 obtain ⟨B',h1,h2⟩:=h.ex
 obtain ⟨aJ',hc',hb⟩:=h1.aab (x:=x) hj ht
 obtain rfl:aJ=aJ':=by
  have:=hc.symm.trans hc'
  simpa using this
 refine hb.mono fun e w' ⟨he,hW,hw,hcc⟩=>?_
 obtain ⟨g1,g2⟩:=h.Cj h2 hW hw
 rw [hn] at he g1
 exact ⟨he,g1,g2,fun i=>by unfold World.cell?;rw [hcc]⟩
theorem Wx.XJ (h:Wx wr wx X b base A Ba k) (hw:bC wx X w'):Wx wr w' X b base A Ba k:=by
 obtain ⟨B',h1,h2⟩:=h.ex
 refine ⟨⟨_,h1.frame (fun x hx hb=>hw.block x hx (h2 x hb).2.1) (hw.block _ h1.self.2.2 fun q=>?_) hw.size,fun x hx=>⟨(h2 x hx.1).1,(h2 x hx.1).2.1,Nat.lt_of_lt_of_le hx.2 hw.size⟩⟩,il h.zS hw fun x hx _=>.inr (h.nx x hx).1,fun x hx=>⟨(h.nx x hx).1,Nat.lt_of_lt_of_le (h.nx x hx).2 hw.size⟩,h.a⟩
 exact absurd h.a (Nat.not_lt.2 (h.nx _ q).1)
theorem Wx.out (h:Wx wr wx X b base A Ba k') (hk:∀wb k' B',aO wb b base A k' B'→(∀x,B' x→Ba x∨wr.heap.size≤x)→bC wr Ba wb→bz w wb b base A aP B BP k' p):bz w wx b base A aP B BP k' p:=by
 obtain ⟨B',h1,h2⟩:=h.ex
 exact hk _ _ _ h1 (fun x hx=>(h2 x hx).1) h.zS
end
end Go.Proofs.YthomdlajobnmnaaGreatDoor.Cq
namespace Go.Proofs.YthomdlajobnmnaaGreatDoor.Cq
open Go.RowKit Go.Rex
theorem caV (k:Int):qg (Ca.of k)=.agg #[.int .i64 k,.int .i64 0,.int .i64 0,.int .i64 0,.int .i64 0,.int .i64 0,.int .i64 0,.int .i64 0,.bool false,.int .i64 0,.int .i64 0,.int .i64 0,.int .i64 0,.bool false,.int .i64 0,.int .i64 0,.int .i64 0,.int .i64 0]:=rfl
theorem mD (w:World) (o:Obj):(w.alloc o).heap[w.heap.size]?=some o:=by
 show (w.heap.push o)[w.heap.size]?=some o
 simp
theorem XK:(Tryz.prog.info? 39).map (fun i=>(i.zero,i.size,i.bytes))=some (some (.agg #[.int .i64 0,.int .i64 0]),2,16):=by kernel_rfl
end Go.Proofs.YthomdlajobnmnaaGreatDoor.Cq
namespace Go.Proofs.YthomdlajobnmnaaGreatDoor.Cq
open Go.RowKit Go.Rex
set_option maxRecDepth 100000 in
noncomputable abbrev uB:Code:=(((Code.region 2 #[{dst:=some 13,op:=Op.move (Operand.tmp 5),type:=3,pos := "own.go:24",after:=#[],guard:=none},{dst:=some 14,op:=Op.binOp BinOp.lss 3 (Operand.tmp 13) (Operand.const (Value.int IntKind.i64 200)) 3,type:=4,pos := "own.go:24",after:=#[⟨0,.data⟩],guard:=none},{dst:=some 15,op:=Op.move (Operand.tmp 14),type:=4,pos := "own.go:24",after:=#[⟨1,.data⟩],guard:=none},{dst:=some 16,op:=Op.move (Operand.tmp 0),type:=63,pos := "own.go:24",after:=#[⟨2,.guard⟩],guard:=some (2,true)},{dst:=some 17,op:=Op.nilCheck (Operand.tmp 16),type:=0,pos := "own.go:24",after:=#[⟨3,.data⟩,⟨2,.guard⟩],guard:=some (2,true)},{dst:=some 18,op:=Op.fieldAddr 62 (Operand.tmp 17) 0,type:=0,pos := "own.go:24",after:=#[⟨4,.data⟩,⟨2,.guard⟩],guard:=some (2,true)},{dst:=some 19,op:=Op.load 40 (Operand.tmp 18),type:=40,pos := "own.go:24",after:=#[⟨5,.data⟩,⟨2,.guard⟩],guard:=some (2,true)},{dst:=some 20,op:=Op.call {callee:=Callee.value (Operand.func 36),args:=#[Operand.tmp 19],argTypes:=#[40]},type:=4,pos := "own.go:24",after:=#[⟨6,.data⟩,⟨2,.chain⟩,⟨2,.guard⟩],guard:=some (2,true)},{dst:=some 21,op:=Op.unOp UnOp.not 4 (Operand.tmp 20),type:=4,pos := "own.go:24",after:=#[⟨7,.data⟩,⟨2,.guard⟩],guard:=some (2,true)},{dst:=some 22,op:=Op.pick (Operand.tmp 15) (Operand.tmp 21) (Operand.const (Value.bool false)),type:=4,pos := "own.go:24",after:=#[⟨2,.data⟩,⟨8,.data⟩],guard:=none}] false).seq (Code.cond (Operand.tmp 22) Code.skip (Code.exit 0))).seq ((Code.block 1 (((Code.region 4 #[{dst:=some 25,op:=Op.move (Operand.tmp 0),type:=63,pos := "own.go:25",after:=#[],guard:=none},{dst:=some 26,op:=Op.nilCheck (Operand.tmp 25),type:=0,pos := "own.go:25",after:=#[⟨0,.data⟩],guard:=none},{dst:=some 27,op:=Op.fieldAddr 62 (Operand.tmp 26) 2,type:=0,pos := "own.go:25",after:=#[⟨1,.data⟩],guard:=none},{dst:=some 28,op:=Op.load 60 (Operand.tmp 27),type:=60,pos := "own.go:25",after:=#[⟨2,.data⟩],guard:=none},{dst:=some 29,op:=Op.binOp BinOp.eql 60 (Operand.tmp 28) (Operand.const (Value.pointer none)) 60,type:=4,pos := "own.go:25",after:=#[⟨3,.data⟩],guard:=none},{dst:=some 30,op:=Op.move (Operand.tmp 29),type:=4,pos := "own.go:25",after:=#[⟨4,.data⟩],guard:=none},{dst:=some 31,op:=Op.move (Operand.tmp 0),type:=63,pos := "own.go:25",after:=#[⟨5,.guard⟩],guard:=some (5,true)},{dst:=some 32,op:=Op.nilCheck (Operand.tmp 31),type:=0,pos := "own.go:25",after:=#[⟨6,.data⟩,⟨5,.guard⟩],guard:=some (5,true)},{dst:=some 33,op:=Op.fieldAddr 62 (Operand.tmp 32) 3,type:=0,pos := "own.go:25",after:=#[⟨7,.data⟩,⟨5,.guard⟩],guard:=some (5,true)},{dst:=some 34,op:=Op.load 4 (Operand.tmp 33),type:=4,pos := "own.go:25",after:=#[⟨8,.data⟩,⟨5,.guard⟩],guard:=some (5,true)},{dst:=some 35,op:=Op.pick (Operand.tmp 30) (Operand.tmp 34) (Operand.const (Value.bool false)),type:=4,pos := "own.go:25",after:=#[⟨5,.data⟩,⟨9,.data⟩],guard:=none}] false).seq (Code.cond (Operand.tmp 35) ((Code.region 5 #[{dst:=some 36,op:=Op.move (Operand.tmp 0),type:=63,pos := "own.go:26",after:=#[],guard:=none},{dst:=some 37,op:=Op.nilCheck (Operand.tmp 36),type:=0,pos := "own.go:26",after:=#[⟨0,.data⟩,⟨0,.phase⟩],guard:=none},{dst:=some 38,op:=Op.fieldAddr 62 (Operand.tmp 37) 3,type:=0,pos := "own.go:26",after:=#[⟨1,.data⟩,⟨0,.phase⟩],guard:=none},{dst:=none,op:=Op.store 4 (Operand.tmp 38) (Operand.const (Value.bool false)),type:=0,pos := "own.go:26",after:=#[⟨2,.data⟩,⟨0,.phase⟩],guard:=none}] false).seq (((Code.region 6 #[{dst:=some 39,op:=Op.move (Operand.tmp 0),type:=63,pos := "own.go:27",after:=#[],guard:=none},{dst:=some 40,op:=Op.nilCheck (Operand.tmp 39),type:=0,pos := "own.go:27",after:=#[⟨0,.data⟩],guard:=none},{dst:=some 41,op:=Op.fieldAddr 62 (Operand.tmp 40) 0,type:=0,pos := "own.go:27",after:=#[⟨1,.data⟩],guard:=none},{dst:=some 42,op:=Op.load 40 (Operand.tmp 41),type:=40,pos := "own.go:27",after:=#[⟨2,.data⟩],guard:=none},{dst:=some 43,op:=Op.build 83 #[(0,Operand.const (Value.int IntKind.i64 2))],type:=83,pos := "own.go:27",after:=#[],guard:=none},{dst:=some 44,op:=Op.call {callee:=Callee.value (Operand.func 37),args:=#[Operand.tmp 42,Operand.tmp 43],argTypes:=#[40,83]},type:=36,pos := "own.go:27",after:=#[⟨3,.data⟩,⟨4,.data⟩],guard:=none},{dst:=some 45,op:=Op.binOp BinOp.neq 36 (Operand.tmp 44) (Operand.const Value.nilIface) 36,type:=4,pos := "own.go:27",after:=#[⟨5,.data⟩],guard:=none}] false).seq (Code.cond (Operand.tmp 45) ((Code.region 7 #[{dst:=some 4,op:=Op.assign (Operand.const (Value.bool false)),type:=4,pos := "own.go:28",after:=#[],guard:=none}] false).seq Code.ret) Code.skip)).seq (Code.exit 1))) Code.skip)).seq (((Code.region 8 #[{dst:=some 46,op:=Op.move (Operand.tmp 0),type:=63,pos := "own.go:32",after:=#[],guard:=none},{dst:=some 47,op:=Op.nilCheck (Operand.tmp 46),type:=0,pos := "own.go:32",after:=#[⟨0,.data⟩],guard:=none},{dst:=some 48,op:=Op.fieldAddr 62 (Operand.tmp 47) 2,type:=0,pos := "own.go:32",after:=#[⟨1,.data⟩],guard:=none},{dst:=some 49,op:=Op.load 60 (Operand.tmp 48),type:=60,pos := "own.go:32",after:=#[⟨2,.data⟩],guard:=none},{dst:=some 50,op:=Op.binOp BinOp.eql 60 (Operand.tmp 49) (Operand.const (Value.pointer none)) 60,type:=4,pos := "own.go:32",after:=#[⟨3,.data⟩],guard:=none}] false).seq (Code.cond (Operand.tmp 50) (((Code.region 9 #[{dst:=some 51,op:=Op.move (Operand.tmp 0),type:=63,pos := "own.go:33",after:=#[],guard:=none},{dst:=some 52,op:=Op.nilCheck (Operand.tmp 51),type:=0,pos := "own.go:33",after:=#[⟨0,.data⟩],guard:=none},{dst:=some 53,op:=Op.fieldAddr 62 (Operand.tmp 52) 4,type:=0,pos := "own.go:33",after:=#[⟨1,.data⟩],guard:=none},{dst:=some 54,op:=Op.load 42 (Operand.tmp 53),type:=42,pos := "own.go:33",after:=#[⟨2,.data⟩],guard:=none},{dst:=some 55,op:=Op.call {callee:=Callee.builtin Builtin.len,args:=#[Operand.tmp 54],argTypes:=#[42]},type:=3,pos := "own.go:33",after:=#[⟨3,.data⟩],guard:=none},{dst:=some 56,op:=Op.move (Operand.tmp 0),type:=63,pos := "own.go:33",after:=#[],guard:=none},{dst:=some 57,op:=Op.nilCheck (Operand.tmp 56),type:=0,pos := "own.go:33",after:=#[⟨5,.data⟩],guard:=none},{dst:=some 58,op:=Op.fieldAddr 62 (Operand.tmp 57) 1,type:=0,pos := "own.go:33",after:=#[⟨6,.data⟩],guard:=none},{dst:=some 59,op:=Op.load 25 (Operand.tmp 58),type:=25,pos := "own.go:33",after:=#[⟨7,.data⟩],guard:=none},{dst:=some 60,op:=Op.call {callee:=Callee.builtin Builtin.len,args:=#[Operand.tmp 59],argTypes:=#[25]},type:=3,pos := "own.go:33",after:=#[⟨8,.data⟩],guard:=none},{dst:=some 61,op:=Op.binOp BinOp.geq 3 (Operand.tmp 55) (Operand.tmp 60) 3,type:=4,pos := "own.go:33",after:=#[⟨4,.data⟩,⟨9,.data⟩],guard:=none}] true).seq (Code.cond (Operand.tmp 61) ((Code.region 10 #[{dst:=some 4,op:=Op.assign (Operand.const (Value.bool false)),type:=4,pos := "own.go:34",after:=#[],guard:=none}] false).seq Code.ret) Code.skip)).seq ((Code.region 11 #[{dst:=some 63,op:=Op.move (Operand.tmp 0),type:=63,pos := "own.go:36",after:=#[],guard:=none},{dst:=some 64,op:=Op.nilCheck (Operand.tmp 63),type:=0,pos := "own.go:36",after:=#[⟨0,.data⟩],guard:=none},{dst:=some 65,op:=Op.fieldAddr 62 (Operand.tmp 64) 1,type:=0,pos := "own.go:36",after:=#[⟨1,.data⟩],guard:=none},{dst:=some 66,op:=Op.load 25 (Operand.tmp 65),type:=25,pos := "own.go:36",after:=#[⟨2,.data⟩],guard:=none},{dst:=some 67,op:=Op.move (Operand.tmp 0),type:=63,pos := "own.go:36",after:=#[],guard:=none},{dst:=some 68,op:=Op.nilCheck (Operand.tmp 67),type:=0,pos := "own.go:36",after:=#[⟨4,.data⟩],guard:=none},{dst:=some 69,op:=Op.fieldAddr 62 (Operand.tmp 68) 4,type:=0,pos := "own.go:36",after:=#[⟨5,.data⟩],guard:=none},{dst:=some 70,op:=Op.load 42 (Operand.tmp 69),type:=42,pos := "own.go:36",after:=#[⟨6,.data⟩],guard:=none},{dst:=some 71,op:=Op.call {callee:=Callee.builtin Builtin.len,args:=#[Operand.tmp 70],argTypes:=#[42]},type:=3,pos := "own.go:36",after:=#[⟨7,.data⟩],guard:=none},{dst:=some 72,op:=Op.indexAddr 25 (Operand.tmp 66) (Operand.tmp 71),type:=0,pos := "own.go:36",after:=#[⟨3,.data⟩,⟨8,.data⟩],guard:=none},{dst:=some 73,op:=Op.load 28 (Operand.tmp 72),type:=28,pos := "own.go:36",after:=#[⟨9,.data⟩],guard:=none},{dst:=some 74,op:=Op.call {callee:=Callee.value (Operand.func 47),args:=#[Operand.tmp 73],argTypes:=#[28]},type:=109,pos := "own.go:36",after:=#[⟨10,.data⟩],guard:=none},{dst:=some 62,op:=Op.move (Operand.tmp 74),type:=109,pos := "own.go:36",after:=#[⟨11,.data⟩],guard:=none},{dst:=some 75,op:=Op.extract (Operand.tmp 62) 0,type:=60,pos := "own.go:36",after:=#[⟨12,.data⟩],guard:=none},{dst:=some 76,op:=Op.extract (Operand.tmp 62) 1,type:=36,pos := "own.go:36",after:=#[⟨12,.data⟩,{on:=15,ground:=Ground.gcOnly Departure.lateStores}],guard:=none},{dst:=some 6,op:=Op.assign (Operand.tmp 75),type:=60,pos := "own.go:36",after:=#[⟨13,.data⟩,⟨11,.chain⟩,⟨0,.phase⟩,⟨1,.phase⟩,⟨2,.phase⟩,⟨3,.phase⟩,⟨4,.phase⟩,⟨5,.phase⟩,⟨6,.phase⟩,⟨7,.phase⟩,⟨8,.phase⟩,⟨9,.phase⟩,⟨10,.phase⟩,⟨11,.phase⟩,⟨12,.phase⟩,⟨13,.phase⟩,{on:=14,ground:=Ground.textOnly Departure.lateStores}],guard:=none},{dst:=some 7,op:=Op.assign (Operand.tmp 76),type:=36,pos := "own.go:36",after:=#[⟨14,.data⟩,⟨15,.chain⟩,⟨0,.phase⟩,⟨1,.phase⟩,⟨2,.phase⟩,⟨3,.phase⟩,⟨4,.phase⟩,⟨5,.phase⟩,⟨6,.phase⟩,⟨7,.phase⟩,⟨8,.phase⟩,⟨9,.phase⟩,⟨10,.phase⟩,⟨11,.phase⟩,⟨12,.phase⟩,⟨13,.phase⟩,⟨14,.phase⟩,⟨15,.phase⟩],guard:=none}] true).seq (((Code.region 12 #[{dst:=some 77,op:=Op.move (Operand.tmp 7),type:=36,pos := "own.go:37",after:=#[],guard:=none},{dst:=some 78,op:=Op.binOp BinOp.neq 36 (Operand.tmp 77) (Operand.const Value.nilIface) 36,type:=4,pos := "own.go:37",after:=#[⟨0,.data⟩],guard:=none}] false).seq (Code.cond (Operand.tmp 78) ((Code.region 13 #[{dst:=some 79,op:=Op.move (Operand.tmp 0),type:=63,pos := "own.go:38",after:=#[],guard:=none},{dst:=some 80,op:=Op.move (Operand.tmp 0),type:=63,pos := "own.go:38",after:=#[],guard:=none},{dst:=some 81,op:=Op.nilCheck (Operand.tmp 80),type:=0,pos := "own.go:38",after:=#[⟨1,.data⟩],guard:=none},{dst:=some 82,op:=Op.fieldAddr 62 (Operand.tmp 81) 4,type:=0,pos := "own.go:38",after:=#[⟨2,.data⟩],guard:=none},{dst:=some 83,op:=Op.load 42 (Operand.tmp 82),type:=42,pos := "own.go:38",after:=#[⟨3,.data⟩],guard:=none},{dst:=some 84,op:=Op.build 39 #[],type:=39,pos := "own.go:38",after:=#[],guard:=none},{dst:=some 85,op:=Op.buildSlice 42 1 #[(0,Operand.tmp 84)],type:=42,pos := "own.go:38",after:=#[⟨5,.data⟩],guard:=none},{dst:=some 86,op:=Op.call {callee:=Callee.builtin Builtin.append,args:=#[Operand.tmp 83,Operand.tmp 85],argTypes:=#[42,42]},type:=42,pos := "own.go:38",after:=#[⟨4,.data⟩,⟨6,.data⟩],guard:=none},{dst:=some 87,op:=Op.nilCheck (Operand.tmp 79),type:=0,pos := "own.go:38",after:=#[⟨0,.data⟩,⟨0,.phase⟩,⟨1,.phase⟩,⟨2,.phase⟩,⟨3,.phase⟩,⟨4,.phase⟩,⟨5,.phase⟩,⟨6,.phase⟩,⟨7,.phase⟩],guard:=none},{dst:=some 88,op:=Op.fieldAddr 62 (Operand.tmp 87) 4,type:=0,pos := "own.go:38",after:=#[⟨8,.data⟩,⟨0,.phase⟩,⟨1,.phase⟩,⟨2,.phase⟩,⟨3,.phase⟩,⟨4,.phase⟩,⟨5,.phase⟩,⟨6,.phase⟩,⟨7,.phase⟩],guard:=none},{dst:=none,op:=Op.store 42 (Operand.tmp 88) (Operand.tmp 86),type:=0,pos := "own.go:38",after:=#[⟨9,.data⟩,⟨7,.data⟩,⟨7,.chain⟩,⟨0,.phase⟩,⟨1,.phase⟩,⟨2,.phase⟩,⟨3,.phase⟩,⟨4,.phase⟩,⟨5,.phase⟩,⟨6,.phase⟩,⟨7,.phase⟩],guard:=none}] false).seq (Code.exit 1)) Code.skip)).seq ((Code.region 14 #[{dst:=some 89,op:=Op.move (Operand.tmp 0),type:=63,pos := "own.go:41",after:=#[],guard:=none},{dst:=some 90,op:=Op.move (Operand.tmp 6),type:=60,pos := "own.go:41",after:=#[],guard:=none},{dst:=some 91,op:=Op.nilCheck (Operand.tmp 89),type:=0,pos := "own.go:41",after:=#[⟨0,.data⟩,⟨0,.phase⟩,⟨1,.phase⟩],guard:=none},{dst:=some 92,op:=Op.fieldAddr 62 (Operand.tmp 91) 2,type:=0,pos := "own.go:41",after:=#[⟨2,.data⟩,⟨0,.phase⟩,⟨1,.phase⟩],guard:=none},{dst:=none,op:=Op.store 60 (Operand.tmp 92) (Operand.tmp 90),type:=0,pos := "own.go:41",after:=#[⟨3,.data⟩,⟨1,.data⟩,⟨0,.phase⟩,⟨1,.phase⟩],guard:=none}] false).seq ((Code.region 15 #[{dst:=some 93,op:=Op.move (Operand.tmp 0),type:=63,pos := "own.go:42",after:=#[],guard:=none},{dst:=some 94,op:=Op.nilCheck (Operand.tmp 93),type:=0,pos := "own.go:42",after:=#[⟨0,.data⟩,⟨0,.phase⟩],guard:=none},{dst:=some 95,op:=Op.fieldAddr 62 (Operand.tmp 94) 3,type:=0,pos := "own.go:42",after:=#[⟨1,.data⟩,⟨0,.phase⟩],guard:=none},{dst:=none,op:=Op.store 4 (Operand.tmp 95) (Operand.const (Value.bool true)),type:=0,pos := "own.go:42",after:=#[⟨2,.data⟩,⟨0,.phase⟩],guard:=none}] false).seq (((Code.region 16 #[{dst:=some 96,op:=Op.move (Operand.tmp 0),type:=63,pos := "own.go:43",after:=#[],guard:=none},{dst:=some 97,op:=Op.nilCheck (Operand.tmp 96),type:=0,pos := "own.go:43",after:=#[⟨0,.data⟩],guard:=none},{dst:=some 98,op:=Op.fieldAddr 62 (Operand.tmp 97) 0,type:=0,pos := "own.go:43",after:=#[⟨1,.data⟩],guard:=none},{dst:=some 99,op:=Op.load 40 (Operand.tmp 98),type:=40,pos := "own.go:43",after:=#[⟨2,.data⟩],guard:=none},{dst:=some 100,op:=Op.build 83 #[(0,Operand.const (Value.int IntKind.i64 1))],type:=83,pos := "own.go:43",after:=#[],guard:=none},{dst:=some 101,op:=Op.call {callee:=Callee.value (Operand.func 37),args:=#[Operand.tmp 99,Operand.tmp 100],argTypes:=#[40,83]},type:=36,pos := "own.go:43",after:=#[⟨3,.data⟩,⟨4,.data⟩],guard:=none},{dst:=some 102,op:=Op.binOp BinOp.neq 36 (Operand.tmp 101) (Operand.const Value.nilIface) 36,type:=4,pos := "own.go:43",after:=#[⟨5,.data⟩],guard:=none}] false).seq (Code.cond (Operand.tmp 102) ((Code.region 17 #[{dst:=some 4,op:=Op.assign (Operand.const (Value.bool false)),type:=4,pos := "own.go:44",after:=#[],guard:=none}] false).seq Code.ret) Code.skip)).seq (Code.exit 1))))))) Code.skip)).seq ((Code.region 18 #[{dst:=some 103,op:=Op.move (Operand.tmp 0),type:=63,pos := "own.go:48",after:=#[],guard:=none},{dst:=some 104,op:=Op.nilCheck (Operand.tmp 103),type:=0,pos := "own.go:48",after:=#[⟨0,.data⟩],guard:=none},{dst:=some 105,op:=Op.fieldAddr 62 (Operand.tmp 104) 2,type:=0,pos := "own.go:48",after:=#[⟨1,.data⟩],guard:=none},{dst:=some 106,op:=Op.load 60 (Operand.tmp 105),type:=60,pos := "own.go:48",after:=#[⟨2,.data⟩],guard:=none},{dst:=some 107,op:=Op.move (Operand.tmp 0),type:=63,pos := "own.go:48",after:=#[],guard:=none},{dst:=some 108,op:=Op.nilCheck (Operand.tmp 107),type:=0,pos := "own.go:48",after:=#[⟨4,.data⟩],guard:=none},{dst:=some 109,op:=Op.fieldAddr 62 (Operand.tmp 108) 0,type:=0,pos := "own.go:48",after:=#[⟨5,.data⟩],guard:=none},{dst:=some 110,op:=Op.load 40 (Operand.tmp 109),type:=40,pos := "own.go:48",after:=#[⟨6,.data⟩],guard:=none},{dst:=some 111,op:=Op.call {callee:=Callee.value (Operand.func 38),args:=#[Operand.tmp 110],argTypes:=#[40]},type:=86,pos := "own.go:48",after:=#[⟨7,.data⟩],guard:=none},{dst:=some 112,op:=Op.call {callee:=Callee.value (Operand.func 48),args:=#[Operand.tmp 106,Operand.tmp 111],argTypes:=#[60,86]},type:=83,pos := "own.go:48",after:=#[⟨3,.data⟩,⟨8,.data⟩,⟨8,.chain⟩],guard:=none},{dst:=some 8,op:=Op.alloc 83,type:=0,pos := "own.go:48",after:=#[],guard:=none},{dst:=none,op:=Op.store 83 (Operand.tmp 8) (Operand.tmp 112),type:=0,pos := "own.go:48",after:=#[⟨10,.data⟩,⟨9,.data⟩,⟨9,.chain⟩,⟨0,.phase⟩,⟨1,.phase⟩,⟨2,.phase⟩,⟨3,.phase⟩,⟨4,.phase⟩,⟨5,.phase⟩,⟨6,.phase⟩,⟨7,.phase⟩,⟨8,.phase⟩,⟨9,.phase⟩,⟨10,.phase⟩],guard:=none}] true).seq (((Code.region 19 #[{dst:=some 113,op:=Op.fieldAddr 83 (Operand.tmp 8) 0,type:=0,pos := "own.go:49",after:=#[],guard:=none},{dst:=some 114,op:=Op.load 3 (Operand.tmp 113),type:=3,pos := "own.go:49",after:=#[⟨0,.data⟩],guard:=none},{dst:=some 115,op:=Op.binOp BinOp.eql 3 (Operand.tmp 114) (Operand.const (Value.int IntKind.i64 12)) 3,type:=4,pos := "own.go:49",after:=#[⟨1,.data⟩],guard:=none}] false).seq (Code.cond (Operand.tmp 115) ((Code.region 20 #[{dst:=some 116,op:=Op.move (Operand.tmp 0),type:=63,pos := "own.go:50",after:=#[],guard:=none},{dst:=some 117,op:=Op.move (Operand.tmp 0),type:=63,pos := "own.go:50",after:=#[],guard:=none},{dst:=some 118,op:=Op.nilCheck (Operand.tmp 117),type:=0,pos := "own.go:50",after:=#[⟨1,.data⟩],guard:=none},{dst:=some 119,op:=Op.fieldAddr 62 (Operand.tmp 118) 4,type:=0,pos := "own.go:50",after:=#[⟨2,.data⟩],guard:=none},{dst:=some 120,op:=Op.load 42 (Operand.tmp 119),type:=42,pos := "own.go:50",after:=#[⟨3,.data⟩],guard:=none},{dst:=some 121,op:=Op.fieldAddr 83 (Operand.tmp 8) 6,type:=0,pos := "own.go:50",after:=#[],guard:=none},{dst:=some 122,op:=Op.load 39 (Operand.tmp 121),type:=39,pos := "own.go:50",after:=#[⟨5,.data⟩],guard:=none},{dst:=some 123,op:=Op.buildSlice 42 1 #[(0,Operand.tmp 122)],type:=42,pos := "own.go:50",after:=#[⟨6,.data⟩],guard:=none},{dst:=some 124,op:=Op.call {callee:=Callee.builtin Builtin.append,args:=#[Operand.tmp 120,Operand.tmp 123],argTypes:=#[42,42]},type:=42,pos := "own.go:50",after:=#[⟨4,.data⟩,⟨7,.data⟩],guard:=none},{dst:=some 125,op:=Op.nilCheck (Operand.tmp 116),type:=0,pos := "own.go:50",after:=#[⟨0,.data⟩,⟨0,.phase⟩,⟨1,.phase⟩,⟨2,.phase⟩,⟨3,.phase⟩,⟨4,.phase⟩,⟨5,.phase⟩,⟨6,.phase⟩,⟨7,.phase⟩,⟨8,.phase⟩],guard:=none},{dst:=some 126,op:=Op.fieldAddr 62 (Operand.tmp 125) 4,type:=0,pos := "own.go:50",after:=#[⟨9,.data⟩,⟨0,.phase⟩,⟨1,.phase⟩,⟨2,.phase⟩,⟨3,.phase⟩,⟨4,.phase⟩,⟨5,.phase⟩,⟨6,.phase⟩,⟨7,.phase⟩,⟨8,.phase⟩],guard:=none},{dst:=none,op:=Op.store 42 (Operand.tmp 126) (Operand.tmp 124),type:=0,pos := "own.go:50",after:=#[⟨10,.data⟩,⟨8,.data⟩,⟨8,.chain⟩,⟨0,.phase⟩,⟨1,.phase⟩,⟨2,.phase⟩,⟨3,.phase⟩,⟨4,.phase⟩,⟨5,.phase⟩,⟨6,.phase⟩,⟨7,.phase⟩,⟨8,.phase⟩],guard:=none}] true).seq ((Code.region 21 #[{dst:=some 127,op:=Op.move (Operand.tmp 0),type:=63,pos := "own.go:51",after:=#[],guard:=none},{dst:=some 128,op:=Op.nilCheck (Operand.tmp 127),type:=0,pos := "own.go:51",after:=#[⟨0,.data⟩,⟨0,.phase⟩],guard:=none},{dst:=some 129,op:=Op.fieldAddr 62 (Operand.tmp 128) 2,type:=0,pos := "own.go:51",after:=#[⟨1,.data⟩,⟨0,.phase⟩],guard:=none},{dst:=none,op:=Op.store 60 (Operand.tmp 129) (Operand.const (Value.pointer none)),type:=0,pos := "own.go:51",after:=#[⟨2,.data⟩,⟨0,.phase⟩],guard:=none}] false).seq (Code.exit 1))) Code.skip)).seq ((Code.region 22 #[{dst:=some 130,op:=Op.move (Operand.tmp 0),type:=63,pos := "own.go:54",after:=#[],guard:=none},{dst:=some 131,op:=Op.nilCheck (Operand.tmp 130),type:=0,pos := "own.go:54",after:=#[⟨0,.data⟩],guard:=none},{dst:=some 132,op:=Op.fieldAddr 62 (Operand.tmp 131) 0,type:=0,pos := "own.go:54",after:=#[⟨1,.data⟩],guard:=none},{dst:=some 133,op:=Op.load 40 (Operand.tmp 132),type:=40,pos := "own.go:54",after:=#[⟨2,.data⟩],guard:=none},{dst:=some 134,op:=Op.load 83 (Operand.tmp 8),type:=83,pos := "own.go:54",after:=#[],guard:=none},{dst:=some 135,op:=Op.call {callee:=Callee.value (Operand.func 37),args:=#[Operand.tmp 133,Operand.tmp 134],argTypes:=#[40,83]},type:=36,pos := "own.go:54",after:=#[⟨3,.data⟩,⟨4,.data⟩],guard:=none},{dst:=some 136,op:=Op.binOp BinOp.neq 36 (Operand.tmp 135) (Operand.const Value.nilIface) 36,type:=4,pos := "own.go:54",after:=#[⟨5,.data⟩],guard:=none}] true).seq (Code.cond (Operand.tmp 136) ((Code.region 23 #[{dst:=some 4,op:=Op.assign (Operand.const (Value.bool false)),type:=4,pos := "own.go:55",after:=#[],guard:=none}] false).seq Code.ret) Code.skip))))))).seq (Code.region 3 #[{dst:=some 23,op:=Op.move (Operand.tmp 5),type:=3,pos := "own.go:24",after:=#[],guard:=none},{dst:=some 24,op:=Op.binOp BinOp.add 3 (Operand.tmp 23) (Operand.const (Value.int IntKind.i64 1)) 3,type:=3,pos := "own.go:24",after:=#[⟨0,.data⟩],guard:=none},{dst:=some 5,op:=Op.assign (Operand.tmp 24),type:=3,pos := "own.go:24",after:=#[⟨1,.data⟩,⟨0,.phase⟩,⟨1,.phase⟩],guard:=none}] false)))
set_option maxRecDepth 100000 in
noncomputable abbrev EZ:Code:=((Code.region 24 #[{dst:=some 138,op:=Op.move (Operand.tmp 0),type:=63,pos := "own.go:58",after:=#[],guard:=none},{dst:=some 139,op:=Op.nilCheck (Operand.tmp 138),type:=0,pos := "own.go:58",after:=#[⟨0,.data⟩],guard:=none},{dst:=some 140,op:=Op.fieldAddr 62 (Operand.tmp 139) 0,type:=0,pos := "own.go:58",after:=#[⟨1,.data⟩],guard:=none},{dst:=some 141,op:=Op.load 40 (Operand.tmp 140),type:=40,pos := "own.go:58",after:=#[⟨2,.data⟩],guard:=none},{dst:=some 142,op:=Op.call {callee:=Callee.value (Operand.func 39),args:=#[Operand.tmp 141],argTypes:=#[40]},type:=100,pos := "own.go:58",after:=#[⟨3,.data⟩],guard:=none},{dst:=some 137,op:=Op.move (Operand.tmp 142),type:=100,pos := "own.go:58",after:=#[⟨4,.data⟩],guard:=none},{dst:=some 143,op:=Op.extract (Operand.tmp 137) 0,type:=92,pos := "own.go:58",after:=#[⟨5,.data⟩],guard:=none},{dst:=some 144,op:=Op.extract (Operand.tmp 137) 1,type:=4,pos := "own.go:58",after:=#[⟨5,.data⟩,{on:=9,ground:=Ground.gcOnly Departure.lateStores}],guard:=none},{dst:=some 9,op:=Op.alloc 92,type:=0,pos := "own.go:58",after:=#[],guard:=none},{dst:=none,op:=Op.store 92 (Operand.tmp 9) (Operand.tmp 143),type:=0,pos := "own.go:58",after:=#[⟨8,.data⟩,⟨6,.data⟩,⟨4,.chain⟩,⟨0,.phase⟩,⟨1,.phase⟩,⟨2,.phase⟩,⟨3,.phase⟩,⟨4,.phase⟩,⟨5,.phase⟩,⟨6,.phase⟩,{on:=7,ground:=Ground.textOnly Departure.lateStores},⟨8,.phase⟩],guard:=none},{dst:=some 10,op:=Op.assign (Operand.tmp 144),type:=4,pos := "own.go:58",after:=#[⟨7,.data⟩,⟨9,.chain⟩,⟨0,.phase⟩,⟨1,.phase⟩,⟨2,.phase⟩,⟨3,.phase⟩,⟨4,.phase⟩,⟨5,.phase⟩,⟨6,.phase⟩,⟨7,.phase⟩,⟨8,.phase⟩,⟨9,.phase⟩],guard:=none}] false).seq (((Code.region 25 #[{dst:=some 145,op:=Op.move (Operand.tmp 10),type:=4,pos := "own.go:59",after:=#[],guard:=none},{dst:=some 146,op:=Op.unOp UnOp.not 4 (Operand.tmp 145),type:=4,pos := "own.go:59",after:=#[⟨0,.data⟩],guard:=none}] false).seq (Code.cond (Operand.tmp 146) ((Code.region 26 #[{dst:=some 4,op:=Op.assign (Operand.const (Value.bool false)),type:=4,pos := "own.go:60",after:=#[],guard:=none}] false).seq Code.ret) Code.skip)).seq ((Code.region 27 #[{dst:=some 148,op:=Op.move (Operand.tmp 1),type:=29,pos := "own.go:62",after:=#[],guard:=none},{dst:=some 149,op:=Op.load 92 (Operand.tmp 9),type:=92,pos := "own.go:62",after:=#[],guard:=none},{dst:=some 150,op:=Op.call {callee:=Callee.value (Operand.func 32),args:=#[Operand.tmp 148,Operand.tmp 149],argTypes:=#[29,92]},type:=88,pos := "own.go:62",after:=#[⟨0,.data⟩,⟨1,.data⟩],guard:=none},{dst:=some 147,op:=Op.move (Operand.tmp 150),type:=88,pos := "own.go:62",after:=#[⟨2,.data⟩],guard:=none},{dst:=some 151,op:=Op.extract (Operand.tmp 147) 0,type:=86,pos := "own.go:62",after:=#[⟨3,.data⟩],guard:=none},{dst:=some 152,op:=Op.extract (Operand.tmp 147) 1,type:=36,pos := "own.go:62",after:=#[⟨3,.data⟩,{on:=7,ground:=Ground.gcOnly Departure.lateStores}],guard:=none},{dst:=some 11,op:=Op.alloc 86,type:=0,pos := "own.go:62",after:=#[],guard:=none},{dst:=none,op:=Op.store 86 (Operand.tmp 11) (Operand.tmp 151),type:=0,pos := "own.go:62",after:=#[⟨6,.data⟩,⟨4,.data⟩,⟨2,.chain⟩,⟨0,.phase⟩,⟨1,.phase⟩,⟨2,.phase⟩,⟨3,.phase⟩,⟨4,.phase⟩,{on:=5,ground:=Ground.textOnly Departure.lateStores},⟨6,.phase⟩],guard:=none},{dst:=some 12,op:=Op.assign (Operand.tmp 152),type:=36,pos := "own.go:62",after:=#[⟨5,.data⟩,⟨7,.chain⟩,⟨0,.phase⟩,⟨1,.phase⟩,⟨2,.phase⟩,⟨3,.phase⟩,⟨4,.phase⟩,⟨5,.phase⟩,⟨6,.phase⟩,⟨7,.phase⟩],guard:=none}] false).seq ((Code.region 28 #[{dst:=some 153,op:=Op.move (Operand.tmp 12),type:=36,pos := "own.go:63",after:=#[],guard:=none},{dst:=some 154,op:=Op.binOp BinOp.eql 36 (Operand.tmp 153) (Operand.const Value.nilIface) 36,type:=4,pos := "own.go:63",after:=#[⟨0,.data⟩],guard:=none},{dst:=some 155,op:=Op.move (Operand.tmp 154),type:=4,pos := "own.go:63",after:=#[⟨1,.data⟩],guard:=none},{dst:=some 156,op:=Op.move (Operand.tmp 0),type:=63,pos := "own.go:63",after:=#[⟨2,.guard⟩],guard:=some (2,true)},{dst:=some 157,op:=Op.nilCheck (Operand.tmp 156),type:=0,pos := "own.go:63",after:=#[⟨3,.data⟩,⟨2,.guard⟩],guard:=some (2,true)},{dst:=some 158,op:=Op.fieldAddr 62 (Operand.tmp 157) 0,type:=0,pos := "own.go:63",after:=#[⟨4,.data⟩,⟨2,.guard⟩],guard:=some (2,true)},{dst:=some 159,op:=Op.load 40 (Operand.tmp 158),type:=40,pos := "own.go:63",after:=#[⟨5,.data⟩,⟨2,.guard⟩],guard:=some (2,true)},{dst:=some 160,op:=Op.load 86 (Operand.tmp 11),type:=86,pos := "own.go:63",after:=#[⟨2,.guard⟩],guard:=some (2,true)},{dst:=some 161,op:=Op.call {callee:=Callee.value (Operand.func 40),args:=#[Operand.tmp 159,Operand.tmp 160],argTypes:=#[40,86]},type:=36,pos := "own.go:63",after:=#[⟨6,.data⟩,⟨7,.data⟩,⟨2,.chain⟩,⟨2,.guard⟩],guard:=some (2,true)},{dst:=some 162,op:=Op.binOp BinOp.eql 36 (Operand.tmp 161) (Operand.const Value.nilIface) 36,type:=4,pos := "own.go:63",after:=#[⟨8,.data⟩,⟨2,.guard⟩],guard:=some (2,true)},{dst:=some 163,op:=Op.pick (Operand.tmp 155) (Operand.tmp 162) (Operand.const (Value.bool false)),type:=4,pos := "own.go:63",after:=#[⟨2,.data⟩,⟨9,.data⟩],guard:=none},{dst:=some 4,op:=Op.assign (Operand.tmp 163),type:=4,pos := "own.go:63",after:=#[⟨10,.data⟩,⟨8,.chain⟩,⟨0,.phase⟩,⟨1,.phase⟩,⟨2,.phase⟩,⟨3,.phase⟩,⟨4,.phase⟩,⟨5,.phase⟩,⟨6,.phase⟩,⟨7,.phase⟩,⟨8,.phase⟩,⟨9,.phase⟩,⟨10,.phase⟩],guard:=none}] true).seq Code.ret))))
end Go.Proofs.YthomdlajobnmnaaGreatDoor.Cq
