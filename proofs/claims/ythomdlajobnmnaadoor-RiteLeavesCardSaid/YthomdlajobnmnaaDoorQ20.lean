/- part 20 of the proof -/
import Derived.Test.YthomdlajobnmnaaDoorQ10
import Derived.Test.YthomdlajobnmnaaDoorQ11
import Derived.Test.YthomdlajobnmnaaDoorQ12
import Derived.Test.YthomdlajobnmnaaDoorQ17
import Derived.Test.YthomdlajobnmnaaDoorQ19
set_option linter.unusedSimpArgs false
set_option linter.unusedVariables false
namespace Go.Proofs.YthomdlajobnmnaaDoor
open Go.Rex
theorem iL {q:Prop} [Decidable q] {l:Lo} {a b:LR} (h1:a.1.freed=l.freed) (h2:b.1.freed=l.freed):(if q then a else b).1.freed=l.freed:=by
 by_cases h:q
 ·rw [if_pos h];exact h1
 ·rw [if_neg h];exact h2
theorem Bg (l:Lo) (k:Int):(RT.leave l k).1.freed=l.freed:=by
 refine iL rfl (iL ?_ rfl)
 cases RS.first l.h k.toNat (9-k.toNat) <;> rfl
theorem Es (l:Lo):(RT.scan l).1.freed=l.freed:=iL rfl (iL rfl rfl)
theorem vJ (l:Lo):(RT.cK l).1.freed=l.freed:=iL (Es l) rfl
theorem KJ (l:Lo) (c:Ca):(RT.begin l c).1.freed=l.freed :=
 iL (iL rfl rfl)<|iL (Bg l 0)<|iL rfl<|iL rfl<|iL rfl<|iL rfl<|iL (iL rfl rfl)<|iL (iL rfl rfl)<|iL rfl<|iL (iL (vJ _)<|iL rfl<|iL rfl rfl) (Es l)
theorem xZ (l:Lo) (r:List Nt):(RT.eY l r).1.freed=l.freed:=by cases r <;> rfl
theorem NW (l:Lo) (t:RT) (x:Rp):l.freed≤(RT.aJ l t x).1.freed∧(RT.aJ l t x).1.freed≤l.freed+1:=by
 have e:∀{a:LR},a.1.freed=l.freed→l.freed≤a.1.freed∧a.1.freed≤l.freed+1:=fun h=>by omega
 cases t with
 | jg i=>exact e (Bg l _)
 | fH c=>exact e (iL rfl (iL rfl rfl))
 | jc c w=>exact e (iL rfl (iL rfl rfl))
 | dR old b=>exact e (iL rfl (vJ _))
 | jP _=>exact e (vJ l)
 | bL ck seen=>exact e (iL rfl (iL (xZ _ _) (iL rfl rfl)))
 | dN=>exact e (xZ _ _)
 | bV d r =>
  have:=xZ {l with notes:=l.notes.erase d,freed:=l.freed+1} r
  show l.freed≤(RT.eY _ _).1.freed∧(RT.eY _ _).1.freed≤l.freed+1
  rw [this]
  show l.freed≤l.freed+1∧l.freed+1≤l.freed+1
  omega
 | _=>exact e rfl
theorem Th.GQ (h:Th) (x:Rp):(h.dF x).l.freed=h.l.freed:=by
 have:=KJ (h.call x).1.l (h.call x).2
 rw [(h.pK x).1] at this
 show (RT.begin (h.call x).1.l (h.call x).2).1.freed=_
 rw [(h.pK x).1]
 exact this
theorem MT.dF {m:Mn} {h:Th} (H:MT m h) (ho:h.l.OK) {x:Rp} (hx:h.t=.idle x):MT {m.next.1 with r:=(m.r.begin m.next.2).1} (h.dF x)∧(m.r.begin m.next.2).2=true∧m.r.gW=x∧m.next.2.OK∧m.next.1.r=m.r:=by
 have hrep:iP h.l (.idle x) m.r:=by
  have:=H.rep
  rw [hx] at this
  exact this
 have hr:m.r.gW=x:=hrep.more
 obtain ⟨n1,n2,n3,n4,n5,n6,n7⟩:=H.next hr
 have hb:=hrep.begin ho (c:=(h.call x).2) (h.wm x)
 have hl:=h.pK x
 refine ⟨⟨?_,n3,n4,n5,n6,n7⟩,?_,hr,?_,n2⟩
 ·show iP (RT.begin (h.call x).1.l (h.call x).2).1 (RT.begin (h.call x).1.l (h.call x).2).2 _
  rw [hl.1,n1]
  exact hb.1
 ·rw [n1];exact hb.2
 ·rw [n1];exact h.wm x
structure Good (k:Int) (n:Nat) (e:Int) (p:PS) (T:Nat→Th) (own:Int→gQ) (A:Nat→Int) (i:Nat) (m:Mn):Prop where
 inv:Inv n e p T own A
 hi:i<n
 mt:MT m (T i)
 wb:(T i).wb k
 fr:0≤(T i).l.freed∧(T i).l.freed≤k
 pw:p.wb k
 st:p.steps≤k
 k0:0≤k
section
variable {n:Nat} {e k:Int} {p:PS} {T:Nat→Th} {own:Int→gQ} {A:Nat→Int} {i:Nat} {m:Mn}
theorem Good.ok (G:Good k n e p T own A i m):(T i).l.OK:=(G.inv.loc i G.hi).ok G.hi G.inv.n6 G.inv.e5
theorem Good.dF (G:Good k n e p T own A i m) (h0:m.r.step=0):m.next.2.OK∧(m.r.begin m.next.2).2=true∧m.next.1.r=m.r∧∃own',Good k n e p (bK T i ((T i).dF m.r.gW)) own' A i {m.next.1 with r:=(m.r.begin m.next.2).1}:=by
 have hst:(T i).t.bg=0:=by rw [←G.mt.rep.step];exact h0
 obtain ⟨x,hx⟩:=RT.jo hst
 obtain ⟨a1,a2,a3,a4,a5⟩:=G.mt.dF G.ok hx
 obtain ⟨own',hI⟩:=G.inv.dF G.hi hx
 have hwx:Wb k x.word:=by
  have:=G.wb.t
  rw [hx] at this
  exact this
 refine ⟨a4,a2,a5,own',?_⟩
 rw [a3]
 have hf:=(T i).GQ x
 refine ⟨hI,G.hi,by rw [aK];exact a1,by rw [aK];exact G.wb.dF G.k0 hwx,by rw [aK,hf];exact G.fr,G.pw,G.st,G.k0⟩
structure Small (m:Mn):Prop where
 pc:0≤m.pc∧m.pc≤7
 old:(-1000000000000≤m.old.slot∧m.old.slot≤1000000000000)∧(-1000000000000≤m.old.gen∧m.old.gen≤1000000000000)∧(-1000000000000≤m.old.tag∧m.old.tag≤1000000000000)
 rp:(-1000000000000≤m.r.gW.word.slot∧m.r.gW.word.slot≤1000000000000)∧(-1000000000000≤m.r.gW.word.gen∧m.r.gW.word.gen≤1000000000000)
theorem Good.small (G:Good k n e p T own A i m) (hk:k≤1000000) (h0:m.r.step=0):Small m:=by
 have hst:(T i).t.bg=0:=by rw [←G.mt.rep.step];exact h0
 obtain ⟨x,hx⟩:=RT.jo hst
 have hwx:Wb k x.word:=by
  have:=G.wb.t
  rw [hx] at this
  exact this
 have hr:m.r.gW=x:=by
  have:=G.mt.rep
  rw [hx] at this
  exact this.more
 have hpc:0≤(T i).pc∧(T i).pc≤7:=by
  have:=(G.inv.loc i G.hi).jI
  unfold Th.sh at this
  rw [hx] at this
  exact this.1
 obtain ⟨o1,o2,o3,o4⟩:=G.wb.old
 obtain ⟨x1,x2,x3,x4⟩:=hwx
 refine ⟨by rw [G.mt.pc];exact hpc,?_,?_⟩
 ·rw [G.mt.old]
  omega
 ·rw [hr]
  omega
theorem Good.rs (G:Good k n e p T own A i m):((0≤m.r.me∧m.r.me<6)∧1≤m.r.threads∧m.r.threads≤6)∧m.r.notes.length≤1000000:=by
 have h1:=G.ok
 have h2:=G.mt.rep
 have h3:=G.inv.CJ (i:=i)
 have h4:=G.inv.ok.ns
 have a:=h1.me
 have b:=h1.threads
 rw [h2.me,h2.threads,h2.notes]
 omega
theorem Good.acc (G:Good k n e p T own A i m) (hk:k≤1000000) (h0:m.r.step≠0):∃p' x,p.act m.r.acc=(p',some x)∧m.r.Tk x∧p.OK:=by
 have hst:(T i).t.bg≠0:=by rw [←G.mt.rep.step];exact h0
 obtain ⟨p',x,own',A',ha,hI⟩:=G.inv.acc G.hi hst
 rw [←G.mt.rep.acc hst] at ha
 have L:=G.inv.loc i G.hi
 have hsh:=L.jI
 have hrep:=G.mt.rep
 have hrs:=G.rs
 have hwa:Wb (k+1) x.word:=by
  have hn:Wb (k+1) m.r.acc.new:=by rw [hrep.acc hst];exact QA G.k0 G.wb.t G.wb.l
  exact (G.pw.act G.k0 G.inv.ok G.st hn).2 x (by rw [ha])
 obtain ⟨x1,x2,x3,x4⟩:=hwa
 have JM:m.r.step=13→∃ck seen,(T i).t=.bL ck seen:=fun h=>by
  rw [hrep.step] at h
  cases ht:(T i).t with
  | bL c s=>exact ⟨_,_,rfl⟩
  | _=>rw [ht] at h;cases h
 have hbd:∀ck seen,(T i).t=.bL ck seen→seen.length≤99999:=fun ck seen ht=>by
  unfold Th.sh at hsh
  rw [ht] at hsh
  obtain ⟨-,-,hl,-⟩:=hsh
  have:=L.nK
  have:=G.inv.n6
  have hall:(T i).l.all≤54:=by
   unfold Lo.all
   by_cases g:(T i).l.aZ
   ·rw [if_pos g];omega
   ·rw [if_neg g];omega
  omega
 refine ⟨p',x,ha,⟨hrs.1.1,hrs.1.2,h0,hrs.2,fun h=>?_,fun h h4=>?_,fun h=>?_,by omega,by rw [hrep.freed];have:=G.fr;omega,fun h=>?_,fun h=>?_,fun h=>?_,fun h=>?_⟩,G.inv.ok⟩
 ·obtain ⟨ck,seen,ht⟩:=JM h
  have hb:=hbd ck seen ht
  rw [ht] at hrep
  rw [hrep.more.2.1]
  exact hb
 ·obtain ⟨ck,seen,ht⟩:=JM h
  have hw:Wb k ck:=by
   have:=G.wb.t
   rw [ht] at this
   exact this
  rw [ht] at hrep
  rw [hrep.more.1 (by rw [←hrep.aj];exact h4)]
  obtain ⟨w1,w2,w3,w4⟩:=hw
  omega
 ·obtain ⟨ck,seen,ht⟩:=JM h
  have hb:=hbd ck seen ht
  rw [ht] at hrep
  rw [hrep.more.2.2]
  omega
 ·rw [hrep.step] at h
  unfold Th.sh at hsh
  cases ht:(T i).t with
  | dN=>rw [ht] at hsh;rw [hrep.aj,L.ik];exact hsh.2
  | _=>rw [ht] at h;cases h
 ·rw [hrep.step] at h
  unfold Th.sh at hsh
  cases ht:(T i).t with
  | jg j =>
   rw [ht] at hsh hrep
   rw [hrep.more,hsh.2.1]
   decide
  | _=>rw [ht] at h;cases h
 ·have hc:m.r.call=Ca.of 6:=by
   rw [hrep.step] at h
   unfold Th.sh at hsh
   cases ht:(T i).t with
   | fH c=>rw [ht] at hsh hrep;rw [hrep.more];exact hsh.2
   | jc c w=>rw [ht] at hsh hrep;rw [hrep.more.1];exact hsh.2.1
   | eT c a=>rw [ht] at hsh hrep;rw [hrep.more];exact hsh.2.1
   | _=>rw [ht] at h;rcases h with h | h | h <;> cases h
  rw [hc]
  decide
 ·rw [hrep.step] at h
  unfold Th.sh at hsh
  cases ht:(T i).t with
  | bV d r =>
   rw [ht] at hsh hrep
   exact ⟨d,r,hrep.more,by rw [hrep.notes];exact hsh.2.2.1 d (List.mem_cons_self ..)⟩
  | _=>rw [ht] at h;cases h
end
end Go.Proofs.YthomdlajobnmnaaDoor
namespace Go.Proofs.YthomdlajobnmnaaDoor
open Go.Rex
def UL:Kn:=[(.bS (.var 0) (.lit 0),false),(.bS (.lit 1024) (.var 0),false),(.bS (.var 1) (.lit 0),false),(.bS (.lit 200) (.var 1),false)]
noncomputable def X5:Ex:={sched:=sched,loops:=[L13],fin:=wz}
def Kj:Out :=
 .alt
 (.ob (.aA (.lit 0) (.var 1)) <|
  .ob (.aA (.mul (.var 1) (.lit 40)) (.lit 281474976710656)) <|
  .ob (.aA (.var 1) (.lit 9223372036854775807)) <|
  .ob (.aA (.lit 0) (.var 0)) <|
  .ob (.aA (.mul (.var 0) (.lit 416)) (.lit 281474976710656)) <|
  .ob (.aA (.var 0) (.lit 9223372036854775807)) <|
  .loop 2 {lo:=2,az:=3,iv:=[(11,.lit 0),(10,.lit 0),(8,.lit 0),(7,.lit 0),(2,yv 0)],bv:=[(12,.lit true),(6,.lit true)],ct:=[(5,.up {r:=0,n1:=.var 0,s1:=52,n2:=10,s2:=5,lo:=2,ks:=yW,z:=true} 1 [] (.lit 0)),(4,.up {r:=0,n1:=.var 0,s1:=52,ks:=yB,z:=true} 0 [] (.lit 0)),(3,.up {r:=0,n1:=.var 1,s1:=5,ks:=yW,z:=true} 0 [] (.lit 0))],nb:=[4,3,4,3]} <|
  .br (.aA (.lit 1) (.var 2))
  (.ob (.aA (.mul (.add (.var 7) (.lit 1)) (.lit 8)) (.lit 140737488355328)) <|
   .ob (.aA (.lit 0) (.var 7)) <|
   .ob (.aA (.var 7) (.var 8)) <|
   .ob (.aA (.var 8) (.lit 9223372036854775807)) <|
   .ob (.or (.not (.var 6)) (.aC (.var 7) (.lit 0))) <|
   .new 13 [.be (.and (.aA (.add (.var 7) (.lit 1)) (.var 13)) (.aA (.var 13) (.lit 9223372036854775807)))] <|
   .ob (.inr .i64 (.sub (.var 2) (.lit 1))) <|
   .back 0 {lo:=2,az:=3,iv:=[(11,yv 11),(10,yv 10),(8,yv 13),(7,.add (.var 7) (.lit 1)),(2,.sub (.var 2) (.lit 1))],bv:=[(12,yw 12),(6,.lit false)],ct:=[(9,.up {r:=9,n1:=.add (.var 7) (.lit 1),s1:=1,ks:=yI} 0 [⟨0,(.var 7),(.lit 0),0,.int .i64 (.var 2)⟩] (.lit 0)),(5,.up {r:=5,n1:=.var 0,s1:=52,n2:=10,s2:=5,lo:=2,ks:=yW} 1 [] (.lit 0)),(4,yu 4 0 52 yB 0),(3,yu 3 1 5 yW 0)],bk:=[(4,yb 4),(3,yc 6 1)]})
  (.fin {lo:=2,az:=0,iv:=[(6,yv 11),(5,yv 10),(4,yv 8),(3,yv 7)],bv:=[(7,yw 12),(2,yw 6)],ct:=[(11,yu 9 7 1 yI 0),(10,.up {r:=5,n1:=.var 0,s1:=52,n2:=10,s2:=5,lo:=2,ks:=yW} 1 [] (.lit 0)),(9,yu 4 0 52 yB 0),(8,yu 3 1 5 yW 0)],bk:=[(4,yb 4),(3,yc 3 1),(2,yc 1 52),(1,yc 0 5),(0,yb 2)]}))
 (.ob (.aA (.lit 0) (.var 0)) <|
  .ob (.aA (.mul (.var 0) (.lit 416)) (.lit 281474976710656)) <|
  .ob (.aA (.var 0) (.lit 9223372036854775807)) <|
  .ob (.aA (.lit 0) (.var 1)) <|
  .ob (.aA (.mul (.var 1) (.lit 40)) (.lit 281474976710656)) <|
  .ob (.aA (.var 1) (.lit 9223372036854775807)) <|
  .loop 2 {lo:=2,az:=3,iv:=[(11,.lit 0),(10,.lit 0),(8,.lit 0),(7,.lit 0),(2,yv 0)],bv:=[(12,.lit true),(6,.lit true)],ct:=[(3,.up {r:=0,n1:=.var 1,s1:=5,ks:=yW,z:=true} 0 [] (.lit 0)),(5,.up {r:=0,n1:=.var 0,s1:=52,n2:=10,s2:=5,lo:=2,ks:=yW,z:=true} 1 [] (.lit 0)),(4,.up {r:=0,n1:=.var 0,s1:=52,ks:=yB,z:=true} 0 [] (.lit 0))],nb:=[4,3,4,3]} <|
  .br (.aA (.lit 1) (.var 2))
  (.ob (.aA (.mul (.add (.var 7) (.lit 1)) (.lit 8)) (.lit 140737488355328)) <|
   .ob (.aA (.lit 0) (.var 7)) <|
   .ob (.aA (.var 7) (.var 8)) <|
   .ob (.aA (.var 8) (.lit 9223372036854775807)) <|
   .ob (.or (.not (.var 6)) (.aC (.var 7) (.lit 0))) <|
   .new 13 [.be (.and (.aA (.add (.var 7) (.lit 1)) (.var 13)) (.aA (.var 13) (.lit 9223372036854775807)))] <|
   .ob (.inr .i64 (.sub (.var 2) (.lit 1))) <|
   .back 0 {lo:=2,az:=3,iv:=[(11,yv 11),(10,yv 10),(8,yv 13),(7,.add (.var 7) (.lit 1)),(2,.sub (.var 2) (.lit 1))],bv:=[(12,yw 12),(6,.lit false)],ct:=[(9,.up {r:=9,n1:=.add (.var 7) (.lit 1),s1:=1,ks:=yI} 0 [⟨0,(.var 7),(.lit 0),0,.int .i64 (.var 2)⟩] (.lit 0)),(3,yu 3 1 5 yW 0),(5,.up {r:=5,n1:=.var 0,s1:=52,n2:=10,s2:=5,lo:=2,ks:=yW} 1 [] (.lit 0)),(4,yu 4 0 52 yB 0)],bk:=[(4,yb 4),(3,yc 6 1)]})
  (.fin {lo:=2,az:=0,iv:=[(6,yv 11),(5,yv 10),(4,yv 8),(3,yv 7)],bv:=[(7,yw 12),(2,yw 6)],ct:=[(11,yu 9 7 1 yI 0),(10,.up {r:=5,n1:=.var 0,s1:=52,n2:=10,s2:=5,lo:=2,ks:=yW} 1 [] (.lit 0)),(9,yu 4 0 52 yB 0),(8,yu 3 1 5 yW 0)],bk:=[(4,yb 4),(3,yc 3 1),(2,yc 0 52),(1,yc 1 5),(0,yb 2)]}))
theorem VT:exec tab X5 8000 [] (gI 13 2 UL [] wz.hp wz.args)=Kj:=by kernel_rfl
def rA (ρ:Env):Prop:=(0≤ρ.iv 0∧ρ.iv 0≤1024)∧0≤ρ.iv 1∧ρ.iv 1≤200
def AB (ρ:Env):Prop:=bu ρ 2∧∃p:PS,ag ρ (ρ.iv 1) (ρ.iv 0) 2=p∧p.nb=ρ.iv 1∧p.ns=ρ.iv 0∧p.nf=ρ.iv 0∧p.steps=0∧p.made=0∧p.iA=true∧(∀i,p.bd i=Wd.zero)∧(∀i,p.gen i=0)∧(∀i,p.used i=false)∧(∀i k,p.cell i k=Wd.zero)∧∀i:Nat,(i:Int)<ρ.iv 0→p.fr i=ρ.iv 0-i
def wK (ρ:Env):Prop:=(0≤ρ.iv 2∧ρ.iv 2≤ρ.iv 0)∧bu ρ 6∧ρ.iv 7=ρ.iv 0-ρ.iv 2∧ρ.iv 10=0∧ρ.iv 11=0∧ρ.bv 12=true∧(∀i,aF (ρ.ic 3 i 0) (ρ.bc 3 i 0)=Wd.zero)∧(∀i,ρ.ic 4 i 0 0=0∧ρ.bc 4 i 0 1=false)∧(∀i k,aF (ρ.ic 5 i k) (ρ.bc 5 i k)=Wd.zero)∧∀i:Nat,(i:Int)<ρ.iv 7→ρ.ic 9 i 0 0=ρ.iv 0-i
theorem Tn {q:Env} (hp:rA q) {σ:Sub} {k:Out} (h0:wK (σ.af q)) (hk:∀r,rA r→wK r→∀Γ,Γ=(fun ρ':Env=>wK ρ'∧ρ'.iv 2+1≤r.iv 2∧0≤ρ'.iv 2)→Sat AB [] [fun ρ'=>wK ρ'∧(ρ'.iv 2).toNat<(r.num.iv 2).toNat] r k):Sat AB [] [] q (.loop 2 σ k) :=
 Sat.uK wK (fun r=>(r.iv 2).toNat) rA h0 (fun _=>hp) fun r hp hI=>hk r hp hI _ rfl
set_option maxHeartbeats 1000000 in
theorem VU (q:Env) (hpre:rA q.num):Sat AB [] [] q Kj:=by
 replace hpre:rA q:=hpre
 obtain ⟨⟨a1,a2⟩,a3,a4⟩:=id hpre
 unfold Kj
 refine Sat.alt ?_ ?_
 all_goals
  refine Sat.ob (by simp only [Da];omega) (Sat.ob (by simp only [Da];omega) (Sat.ob (by simp only [Da];omega) (Sat.ob (by simp only [Da];omega) (Sat.ob (by simp only [Da];omega) (Sat.ob (by simp only [Da];omega) (Tn hpre ?_ fun r hp hI _ _=>?_))))))
  ·refine ⟨⟨a1,Int.le_refl _⟩,⟨fun _=>rfl,Int.le_refl 0,Int.le_refl 0,by show (0:Int)≤_;decide⟩,?_,rfl,rfl,rfl,fun i=>?_,fun i=>?_,fun i k=>?_,fun i hi=>?_⟩
   ·show (0:Int)=q.iv 0-q.iv 0
    omega
   ·simp [aF,Wd.zero,-Int.pred_toNat,Sub.af,assoc,CV.I,CV.B,ah,ai,aa.I,aa.B,SC.I,SC.B,IE.den,BE.den]
   ·simp [-Int.pred_toNat,Sub.af,assoc,CV.I,CV.B,ah,ai,aa.I,aa.B,SC.I,SC.B,IE.den,BE.den]
   ·simp [aF,Wd.zero,-Int.pred_toNat,Sub.af,assoc,CV.I,CV.B,ah,ai,aa.I,aa.B,SC.I,SC.B,IE.den,BE.den]
   ·have:(i:Int)<0:=hi
    omega
  ·obtain ⟨⟨a1,a2⟩,a3,a4⟩:=hp
   obtain ⟨⟨i1,i2⟩,ho,i3,i4,i5,i6,i7,i8,i9,i10⟩:=hI
   refine Sat.br (fun hlt=>?_) (fun hge=>?_)
   ·simp only [Da] at hlt
    refine Sat.ob (by simp only [Da];omega) (Sat.ob (decide_eq_true ho.2.1) (Sat.ob (decide_eq_true ho.2.2.1) (Sat.ob (decide_eq_true ho.2.2.2) (Sat.ob (aR ho) (Sat.zB (fun u=>rA u∧wK u∧1≤u.iv 2∧(u.iv 2-1).toNat<(r.num.iv 2).toNat) (fun _=>⟨⟨⟨a1,a2⟩,a3,a4⟩,⟨⟨i1,i2⟩,ho,i3,i4,i5,i6,i7,i8,i9,i10⟩,hlt,by show (r.iv 2-1).toNat<(r.iv 2).toNat;omega⟩) fun u hu hf=>?_)))))
    obtain ⟨⟨⟨a1,a2⟩,a3,a4⟩,⟨⟨i1,i2⟩,ho,i3,i4,i5,i6,i7,i8,i9,i10⟩,hlt,hm⟩:=hu
    simp only [Da] at hf
    have h7:0≤u.iv 7:=ho.2.1
    refine Sat.ob (by simp only [Da];omega) (Sat.back rfl ⟨⟨⟨by show 0≤u.iv 2-1;omega,by show u.iv 2-1≤u.iv 0;omega⟩,⟨fun h=>(by cases h),by show 0≤u.iv 7+1;omega,hf.1,hf.2⟩,by show u.iv 7+1=u.iv 0-(u.iv 2-1);omega,i4,i5,i6,fun i=>?_,fun i=>?_,fun i k=>?_,fun i hi=>?_⟩,hm⟩)
    ·rw [←i7 i]
     simp [aF,-Int.pred_toNat,Sub.af,assoc,CV.I,CV.B,ah,ai,aa.I,aa.B,SC.I,SC.B,IE.den,BE.den]
    ·obtain ⟨x,y⟩:=i8 i
     refine ⟨?_,?_⟩
     ·simp [-Int.pred_toNat,Sub.af,assoc,CV.I,CV.B,ah,ai,aa.I,aa.B,SC.I,SC.B,IE.den,BE.den,x]
     ·simp [-Int.pred_toNat,Sub.af,assoc,CV.I,CV.B,ah,ai,aa.I,aa.B,SC.I,SC.B,IE.den,BE.den,y]
    ·rw [←i9 i k]
     simp [aF,-Int.pred_toNat,Sub.af,assoc,CV.I,CV.B,ah,ai,aa.I,aa.B,SC.I,SC.B,IE.den,BE.den]
    ·replace hi:(i:Int)<u.iv 7+1:=hi
     by_cases h:i=(u.iv 7).toNat
     ·subst h
      have:(((u.iv 7).toNat:Nat):Int)=u.iv 7:=by omega
      simp [-Int.pred_toNat,Sub.af,assoc,CV.I,CV.B,ah,ai,aa.I,aa.B,SC.I,SC.B,IE.den,BE.den]
      omega
     ·have hr:=i10 i (by omega)
      have hr2:u.iv 0-(i:Int)=(u.iv 0-(i:Int)):=rfl
      simp [-Int.pred_toNat,Sub.af,assoc,CV.I,CV.B,ah,ai,aa.I,aa.B,SC.I,SC.B,IE.den,BE.den,Ne.symm h,hr]
   ·simp only [Da] at hge
    have h2:r.iv 2=0:=by omega
    refine Sat.fin ⟨ho,_,rfl,rfl,rfl,?_,i4,i5,i6,fun i=>?_,fun i=>?_,fun i=>?_,fun i k=>?_,fun i hi=>?_⟩
    ·show r.iv 7=r.iv 0
     omega
    ·rw [←i7 i]
     simp [ag,aF,-Int.pred_toNat,Sub.af,assoc,CV.I,CV.B,ah,ai,aa.I,aa.B,SC.I,SC.B,IE.den,BE.den]
    ·simp [ag,-Int.pred_toNat,Sub.af,assoc,CV.I,CV.B,ah,ai,aa.I,aa.B,SC.I,SC.B,IE.den,BE.den,(i8 i).1]
    ·simp [ag,-Int.pred_toNat,Sub.af,assoc,CV.I,CV.B,ah,ai,aa.I,aa.B,SC.I,SC.B,IE.den,BE.den,(i8 i).2]
    ·rw [←i9 i k]
     simp [ag,aF,-Int.pred_toNat,Sub.af,assoc,CV.I,CV.B,ah,ai,aa.I,aa.B,SC.I,SC.B,IE.den,BE.den]
    ·replace hi:(i:Int)<r.iv 0:=hi
     show _=r.iv 0-(i:Int)
     rw [←i10 i (by omega)]
     simp [ag,-Int.pred_toNat,Sub.af,assoc,CV.I,CV.B,ah,ai,aa.I,aa.B,SC.I,SC.B,IE.den,BE.den]
theorem VV:bF Tryd.prog wz rA AB :=
 dP fC (E:=X5) (cs:=[]) rfl (fun k pre post h=>by cases h) df rfl VT (by kernel_rfl) (fun ρ h p hp=>by
   obtain ⟨⟨a1,a2⟩,a3,a4⟩:rA ρ.num:=h
   simp only [UL,List.mem_cons,List.not_mem_nil,or_false] at hp
   rcases hp with rfl | rfl | rfl | rfl <;> simp only [Da] <;> omega) VU
end Go.Proofs.YthomdlajobnmnaaDoor
namespace Go.Proofs.YthomdlajobnmnaaDoor
open Go.Rex
def jv (ρ:Env) (n m:Int) (b:Nat):PS where
 nb:=n
 ns:=m
 nf:=ρ.iv (b+4)
 steps:=ρ.iv (b+7)
 made:=ρ.iv (b+8)
 iA:=ρ.bv (b+9)
 bd:=fun i=>aF (ρ.ic b i 0) (ρ.bc b i 0)
 gen:=fun i=>ρ.ic (b+1) i 0 0
 used:=fun i=>ρ.bc (b+1) i 0 1
 cell:=fun i k=>aF (ρ.ic (b+2) i k) (ρ.bc (b+2) i k)
 fr:=fun i=>ρ.ic (b+6) i 0 0
theorem pX {p q:PS} (h1:p.nb=q.nb:=by exact rfl) (h2:p.ns=q.ns:=by exact rfl) (h3:p.nf=q.nf:=by exact rfl) (h4:p.steps=q.steps:=by exact rfl) (h5:p.made=q.made:=by exact rfl) (h6:p.iA=q.iA:=by exact rfl)
    (h7:∀i,p.bd i=q.bd i:=by intro i;simp [ag,jv,aF,-Int.pred_toNat,Sub.af,assoc,CV.I,CV.B,ah,ai,aa.I,aa.B,SC.I,SC.B,IE.den,BE.den]) (h8:∀i,p.gen i=q.gen i:=by intro i;simp [ag,jv,-Int.pred_toNat,Sub.af,assoc,CV.I,CV.B,ah,ai,aa.I,aa.B,SC.I,SC.B,IE.den,BE.den]) (h9:∀i,p.used i=q.used i:=by intro i;simp [ag,jv,-Int.pred_toNat,Sub.af,assoc,CV.I,CV.B,ah,ai,aa.I,aa.B,SC.I,SC.B,IE.den,BE.den])
    (h10:∀i k,p.cell i k=q.cell i k:=by intro i k;simp [ag,jv,aF,-Int.pred_toNat,Sub.af,assoc,CV.I,CV.B,ah,ai,aa.I,aa.B,SC.I,SC.B,IE.den,BE.den]) (h11:∀i,p.fr i=q.fr i:=by intro i;simp [ag,jv,-Int.pred_toNat,Sub.af,assoc,CV.I,CV.B,ah,ai,aa.I,aa.B,SC.I,SC.B,IE.den,BE.den]):p=q:=PS.ext' h1 h2 h3 h4 h5 h6 h7 h8 h9 h10 h11
structure sj (p:PS) (n m:Int):Prop where
 nb:p.nb=n
 ns:p.ns=m
 nf:p.nf=m
 steps:p.steps=0
 made:p.made=0
 iA:p.iA=true
 bd:∀i,p.bd i=Wd.zero
 gen:∀i,p.gen i=0
 used:∀i,p.used i=false
 cell:∀i k,p.cell i k=Wd.zero
 fr:∀i:Nat,(i:Int)<m→p.fr i=m-i
theorem sj.ok {p:PS} {n m:Int} (h:sj p n m) (h1:0≤m∧m≤1024) (h2:0≤n∧n≤200):p.OK:=by
 have hu:∀k,kC p.used k=0:=fun k=>by
  rw [rV (v:=fun _=>false) fun i _=>h.used i,xH]
 refine ⟨by rw [h.nb];exact h2,by rw [h.ns];exact h1,by rw [h.nf];exact h1.1,by rw [h.made,h.steps];exact ⟨Int.le_refl 0,Int.le_refl 0⟩,fun i=>by rw [h.gen,h.made];exact ⟨Int.le_refl 0,Int.le_refl 0⟩,fun i hi=>?_,fun i j hi hj=>?_,?_⟩
 ·rw [h.nf] at hi
  rw [h.fr i hi,h.ns]
  exact ⟨by omega,by omega,h.used _⟩
 ·rw [h.nf] at hj
  rw [h.fr i (by omega),h.fr j hj]
  omega
 ·rw [hu,h.nf,h.ns]
  simp
section
variable {post:Env→Prop} {cs:kP} {Γ:List (Env→Prop)} {ρ:Env}
theorem VW {g nv:Nat} {σ:Sub} {k:Out} (hg:cs[g]?=some (nz,Eh,qZ)) (p:PS) (a:Ac) {n m:Int} (hn:(σ.af ρ).iv 14=n) (hm:(σ.af ρ).iv 15=m) (hp:ag (σ.af ρ) n m 16=p) (ha:ay (σ.af ρ) 0=a) (ho:bu (σ.af ρ) 16)
  (hok:p.OK) (hst:p.steps≤1000000) (K:Env→Prop)
  (hK:∀e,bu (ρ.join nv e) (nv+7)→ag (ρ.join nv e) n m (nv+7)=(p.act a).1→(ρ.join nv e).bv (nv+6)=(p.act a).2.isSome→aL (ρ.join nv e) nv=(p.act a).2.getD Rp.no→K (ρ.join nv e)) (h:∀q,K q→Sat post cs Γ q k) :
  Sat post cs Γ ρ (.call g σ nv k):=by
 subst hn hm
 refine Sat.iF (c:=nz) hg ⟨ho,by rw [hp];exact hok,by rw [←hp] at hst;exact hst⟩ K (fun e hq=>?_) h
 have hq:qZ (aH σ 26 nv ρ (ρ.join nv e)):=hq
 obtain ⟨q1,q2,q3⟩:=hq
 have e1:ag (aH σ 26 nv ρ (ρ.join nv e)) ((aH σ 26 nv ρ (ρ.join nv e)).iv 14) ((aH σ 26 nv ρ (ρ.join nv e)).iv 15) 16=p:=hp
 have e2:ay (aH σ 26 nv ρ (ρ.join nv e)) 0=a:=ha
 have e3:ag (aH σ 26 nv ρ (ρ.join nv e)) ((aH σ 26 nv ρ (ρ.join nv e)).iv 14) ((aH σ 26 nv ρ (ρ.join nv e)).iv 15) 33=ag (ρ.join nv e) ((σ.af ρ).iv 14) ((σ.af ρ).iv 15) (nv+7):=by
  unfold ag
  rw [show (aH σ 26 nv ρ (ρ.join nv e)).iv (33+1)=(ρ.join nv e).iv (nv+7+1) from iB 26 8,show (aH σ 26 nv ρ (ρ.join nv e)).iv (33+3)=(ρ.join nv e).iv (nv+7+3) from iB 26 10,show (aH σ 26 nv ρ (ρ.join nv e)).iv (33+4)=(ρ.join nv e).iv (nv+7+4) from iB 26 11,
    show (aH σ 26 nv ρ (ρ.join nv e)).bv (33+5)=(ρ.join nv e).bv (nv+7+5) from kD 26 12,
    show (aH σ 26 nv ρ (ρ.join nv e)).ic (33+6)=(ρ.join nv e).ic (nv+7+6) from tX 26 13,show (aH σ 26 nv ρ (ρ.join nv e)).bc (33+6)=(ρ.join nv e).bc (nv+7+6) from wB 26 13,
    show (aH σ 26 nv ρ (ρ.join nv e)).ic (33+7)=(ρ.join nv e).ic (nv+7+7) from tX 26 14,show (aH σ 26 nv ρ (ρ.join nv e)).bc (33+7)=(ρ.join nv e).bc (nv+7+7) from wB 26 14,
    show (aH σ 26 nv ρ (ρ.join nv e)).ic (33+8)=(ρ.join nv e).ic (nv+7+8) from tX 26 15,show (aH σ 26 nv ρ (ρ.join nv e)).bc (33+8)=(ρ.join nv e).bc (nv+7+8) from wB 26 15,
    show (aH σ 26 nv ρ (ρ.join nv e)).ic (33+9)=(ρ.join nv e).ic (nv+7+9) from tX 26 16]
  rfl
 have e4:aL (aH σ 26 nv ρ (ρ.join nv e)) 26=aL (ρ.join nv e) nv:=by
  unfold aL av
  rw [show (aH σ 26 nv ρ (ρ.join nv e)).iv 26=(ρ.join nv e).iv nv from iB 26 0,show (aH σ 26 nv ρ (ρ.join nv e)).iv (26+1)=(ρ.join nv e).iv (nv+1) from iB 26 1,show (aH σ 26 nv ρ (ρ.join nv e)).iv (26+2)=(ρ.join nv e).iv (nv+2) from iB 26 2,
    show (aH σ 26 nv ρ (ρ.join nv e)).iv (26+3)=(ρ.join nv e).iv (nv+3) from iB 26 3,show (aH σ 26 nv ρ (ρ.join nv e)).bv (26+4)=(ρ.join nv e).bv (nv+4) from kD 26 4,show (aH σ 26 nv ρ (ρ.join nv e)).bv (26+5)=(ρ.join nv e).bv (nv+5) from kD 26 5]
 have e5:(aH σ 26 nv ρ (ρ.join nv e)).bv 32=(ρ.join nv e).bv (nv+6):=kD 26 6
 have e6:bu (aH σ 26 nv ρ (ρ.join nv e)) 33=bu (ρ.join nv e) (nv+7):=by
  unfold bu
  rw [show (aH σ 26 nv ρ (ρ.join nv e)).bv 33=(ρ.join nv e).bv (nv+7) from kD 26 7,show (aH σ 26 nv ρ (ρ.join nv e)).iv (33+1)=(ρ.join nv e).iv (nv+7+1) from iB 26 8,show (aH σ 26 nv ρ (ρ.join nv e)).iv (33+2)=(ρ.join nv e).iv (nv+7+2) from iB 26 9]
 rw [e1,e2,e3,e4,e5] at q2
 rw [e6] at q1
 rw [e4,e5] at q3
 refine hK e q1 (by rw [q2]) ?_ ?_
 ·rw [q2]
  cases (ρ.join nv e).bv (nv+6) <;> rfl
 ·rw [q2]
  cases hb:(ρ.join nv e).bv (nv+6) with
  | true=>rfl
  | false=>exact q3 hb
end
theorem Zi (x n:Int) (h:0<n) (hx:0≤x):0≤x.tmod n∧x.tmod n<n:=by
 rw [Int.tmod_eq_emod_of_nonneg hx]
 exact ⟨Int.emod_nonneg _ (by omega),Int.emod_lt_of_pos _ h⟩
theorem Zj (x:Int):0≤IntKind.u64.wrap x:=by
 rw [IntKind.wrap_u64]
 omega
theorem X6 {x:Int} (h0:0≤x) (h1:x<100000):IntKind.u64.wrap x=x:=by
 rw [IntKind.wrap_u64]
 omega
end Go.Proofs.YthomdlajobnmnaaDoor
namespace Go.Proofs.YthomdlajobnmnaaDoor
open Go.Rex
theorem Mn.ext' {a b:Mn} (h1:a.r=b.r) (h2:a.pc=b.pc) (h3:a.old=b.old) (h4:a.node=b.node) (h5:a.bad=b.bad) (h6:a.stop=b.stop):a=b:=by
 cases a
 cases b
 simp only at *
 subst h1 h2 h3 h4 h5 h6
 rfl
theorem nE {m:Mn} (h:m.r.step≠0):∀k,m.go k=(m,none)
 | 0=>rfl
 | k+1=>by rw [Mn.go,if_pos h]
theorem VX {m:Mn} (h:m.r.step=0) (hs:m.stop=true∧m.pc=0) (k:Nat):m.go (k+1)=(m,some true):=by
 rw [Mn.go,if_neg (fun c=>c h),if_pos hs]
theorem X7 {m:Mn} (h:m.r.step=0) (hs:¬(m.stop=true∧m.pc=0)) (hb:(m.r.begin m.next.2).2=true) (hn:m.next.1.r=m.r) (k:Nat):m.go (k+1)=Mn.go k {m.next.1 with r:=(m.r.begin m.next.2).1}:=by
 rw [Mn.go,if_neg (fun c=>c h),if_neg hs]
 simp only [hn]
 rw [if_neg (by rw [hb];decide)]
theorem X8 (m:Mn) (r':RS) (h:r'.gW=m.r.gW):({m with r:=r'}:Mn).next=({m.next.1 with r:=r'},m.next.2):=by
 unfold Mn.next
 simp only [h]
 repeat' first
  | rfl
  | split
section
variable {σ:Sub} {ρ q:Env} {m d:Nat}
theorem VY (r:RS) (k:Nat):eU (aH σ m d ρ q) r (m+k)=eU q r (d+k):=by
 unfold eU av
 simp only [Nat.add_assoc,iB,kD]
theorem VZ (k:Nat):jX (aH σ m d ρ q) (m+k)=jX q (d+k):=by
 unfold jX av
 simp only [Nat.add_assoc,iB,kD]
end
section
variable {post:Env→Prop} {cs:kP} {Γ:List (Env→Prop)} {ρ:Env}
theorem QD {g nv:Nat} {σ:Sub} {k:Out} (hg:cs[g]?=some (jO,uo,mW)) (m:Mn) (hm:eU (σ.af ρ) m.r 0=m) (hr:aL (σ.af ρ) 13=m.r.gW) (hs:Small m) (K:Env→Prop)
  (hK:∀e,eU (ρ.join nv e) m.next.1.r nv=m.next.1→jX (ρ.join nv e) (nv+13)=m.next.2→K (ρ.join nv e)) (h:∀q,K q→Sat post cs Γ q k):Sat post cs Γ ρ (.call g σ nv k):=by
 have e0:eU (σ.af ρ) (kR (aL (σ.af ρ) 13)) 0={m with r:=kR m.r.gW}:=by
  rw [hr]
  have:=congrArg (fun x:Mn=>({x with r:=kR m.r.gW}:Mn)) hm
  exact this
 refine Sat.iF (c:=jO) hg ?_ K (fun e hq=>?_) h
 ·show Mn.GL (eU (σ.af ρ) (kR (aL (σ.af ρ) 13)) 0)
  rw [e0]
  exact ⟨hs.pc,hs.old,hs.rp⟩
 ·replace hq:mW (aH σ 20 nv ρ (ρ.join nv e)):=hq
  obtain ⟨q1,q2⟩:=hq
  have c0:eU (aH σ 20 nv ρ (ρ.join nv e)) (kR (aL (aH σ 20 nv ρ (ρ.join nv e)) 13)) 0=eU (σ.af ρ) (kR (aL (σ.af ρ) 13)) 0:=rfl
  have c1:=VY (σ:=σ) (ρ:=ρ) (q:=ρ.join nv e) (m:=20) (d:=nv) (kR (aL (aH σ 20 nv ρ (ρ.join nv e)) 13)) 0
  have c2:=VZ (σ:=σ) (ρ:=ρ) (q:=ρ.join nv e) (m:=20) (d:=nv) 13
  rw [c0,e0,X8 m (kR m.r.gW) rfl] at q1 q2
  rw [Nat.add_zero,Nat.add_zero] at c1
  refine hK e ?_ (c2.symm.trans q2)
  have:=c1.symm.trans q1
  have:=congrArg (fun x:Mn=>({x with r:=m.next.1.r}:Mn)) this
  exact this
end
def Ic:kP:=[(jO,uo,mW),(jM,ui,rq),(nz,Eh,qZ),(lu,wG,um)]
theorem Tp:∀k pre post,(k,pre,post)∈Ic→jD k=true∧bF Tryd.prog k pre post:=by
 intro k pre post h
 simp only [Ic,List.mem_cons,List.not_mem_nil,or_false,Prod.mk.injEq] at h
 rcases h with ⟨rfl,rfl,rfl⟩ | ⟨rfl,rfl,rfl⟩ | ⟨rfl,rfl,rfl⟩ | ⟨rfl,rfl,rfl⟩
 ·exact ⟨by kernel_rfl,Qp⟩
 ·exact ⟨by kernel_rfl,PU⟩
 ·exact ⟨by kernel_rfl,Pm⟩
 ·exact ⟨by kernel_rfl,Su⟩
noncomputable def QE:Ex:={sched:=sched,loops:=[YD],cons:=[jO,jM,nz,lu],fin:=jb}
def CK:Out :=
 .loop 96 {lo:=96,az:=18,iv:=yo [(145,yv 70)]<|yr 164 65 5<|yo [(158,yv 60),(157,yv 59),(155,yv 57),(154,yv 56)]<|yr 152 3 4<|yo [(147,yv 53),(146,yv 52),(148,yv 69),(143,yv 50),(142,yv 49),(140,yv 47)]<|yr 138 45 4<|yr 133 40 4<|yr 128 35 4<|yr 123 30 13<|yr 109 16 4<|yr 104 11 8<|yr 177 80 4<|yr 172 75 5<|[(96,.lit 0)],bv:=[(166,yw 67),(165,yw 66),(156,yw 58),(153,yw 55),(145,yw 51),(141,yw 48),(139,yw 46),(134,yw 41),(129,yw 36),(124,yw 31),(110,yw 17),(105,yw 12),(180,yw 83),(179,yw 82),(178,yw 81),(173,yw 76)],ct:=[(159,yu 70 59 7 yN 0),(148,yu 69 70 7 yN 0),(144,yu 68 49 5 yW 0),(167,yl 54 9 5 50 yW 0)],bk:=[(20,yc 12 7),(19,yc 11 7),(18,yc 10 5)]} <|
 .br (.bS (.var 96) (.lit 12))
 (.br (.aC (.var 115) (.lit 0))
  (.br (.and (.var 180) (.aC (.var 168) (.lit 0)))
   (.fin {lo:=96,az:=18,iv:=yo [(162,yv 145)]<|yr 180 90 4<|yr 157 164 5<|yo [(152,yv 158),(151,yv 157),(149,yv 155),(148,yv 154)]<|yr 190 152 4<|yo [(145,yv 147),(144,yv 146),(161,yv 148),(142,yv 143),(141,yv 142),(139,yv 140)]<|yr 137 138 4<|yr 132 133 4<|yr 127 128 4<|yr 122 123 13<|yr 108 109 4<|yr 103 104 8<|yr 172 177 4<|yr 167 172 5 [],bv:=[(181,yw 91),(176,yw 86),(159,yw 166),(158,yw 165),(150,yw 156),(147,yw 153),(143,yw 145),(140,yw 141),(138,yw 139),(133,yw 134),(128,yw 129),(123,yw 124),(109,yw 110),(104,yw 105),(175,yw 180),(174,yw 179),(173,yw 178),(168,yw 173),(186,.lit true)],ct:=[(185,yu 95 87 1 yI 0),(162,yu 159 157 7 yN 0),(161,yu 148 145 7 yN 0),(160,yu 144 142 5 yW 0),(184,.up {r:=94,n1:=.var 85,s1:=52,n2:=10,s2:=5,lo:=2,ks:=yW} 1 [] (.lit 0)),(183,yu 93 85 52 yB 0),(182,yu 92 84 5 yW 0),(146,yl 167 9 5 50 yW 0)],bk:=[(22,yb 17),(21,yc 16 1),(20,yc 20 7),(19,yc 19 7),(18,yc 18 5)]})
   (.call 0 {lo:=0,az:=0,iv:=yr 16 164 4<|yr 9 177 4<|yr 4 172 5 [],bv:=[(18,yw 166),(17,yw 165),(12,yw 180),(11,yw 179),(10,yw 178),(5,yw 173)],ct:=[(19,yl 167 9 5 50 yW 0)],bk:=[(1,yb 9),(0,yb 8)]} 181 <|
    .call 1 {lo:=0,az:=0,iv:=yo [(70,yv 145)]<|yr 65 164 5<|yo [(60,yv 158),(59,yv 157),(57,yv 155),(56,yv 154)]<|yr 3 152 4<|yo [(53,yv 147),(52,yv 146),(69,yv 148),(50,yv 143),(49,yv 142),(47,yv 140)]<|yr 45 138 4<|yr 40 133 4<|yr 35 128 4<|yr 30 123 13<|yr 16 109 4<|yr 11 104 8<|yr 88 211 4<|yr 83 206 4<|yr 78 201 8 [],bv:=[(67,yw 166),(66,yw 165),(58,yw 156),(55,yw 153),(51,yw 145),(48,yw 141),(46,yw 139),(41,yw 134),(36,yw 129),(31,yw 124),(17,yw 110),(12,yw 105),(84,yw 207),(79,yw 202)],ct:=[(70,yu 159 157 7 yN 0),(69,yu 148 145 7 yN 0),(68,yu 144 142 5 yW 0),(54,yl 167 9 5 50 yW 0)],bk:=[(3,yc 20 7),(2,yc 19 7),(1,yc 18 5),(0,yb 9)]} 212 <|
    .ob (.inr .i64 (.add (.var 96) (.lit 1))) <|
    .back 0 {lo:=96,az:=18,iv:=yo [(145,yv 278)]<|yr 164 273 5<|yo [(158,yv 268),(157,yv 267),(155,yv 265),(154,yv 264)]<|yr 152 152 4<|yo [(147,yv 261),(146,yv 260),(148,yv 277),(143,yv 258),(142,yv 257),(140,yv 255)]<|yr 138 253 4<|yr 133 248 4<|yr 128 243 4<|yr 123 238 13<|yr 109 224 4<|yr 104 219 8<|yr 177 190 4<|yr 172 185 5<|[(96,.add (.var 96) (.lit 1))],bv:=[(166,yw 275),(165,yw 274),(156,yw 266),(153,yw 263),(145,yw 259),(141,yw 256),(139,yw 254),(134,yw 249),(129,yw 244),(124,yw 239),(110,yw 225),(105,yw 220),(180,yw 193),(179,yw 192),(178,yw 191),(173,yw 186)],ct:=[(159,yu 278 267 7 yN 0),(148,yu 277 278 7 yN 0),(144,yu 276 257 5 yW 0),(167,yl 262 9 5 50 yW 0)],bk:=[(20,yc 23 7),(19,yc 22 7),(18,yc 21 5)]}))
  (.call 2 {lo:=0,az:=0,iv:=yr 20 90 4<|yo [(15,yv 85),(14,yv 84)]<|yr 12 128 4<|yr 7 123 8 [],bv:=[(21,yw 91),(16,yw 86),(13,yw 129),(8,yw 124)],ct:=[(25,yu 95 87 1 yI 0),(24,.up {r:=94,n1:=.var 85,s1:=52,n2:=10,s2:=5,lo:=2,ks:=yW} 1 [] (.lit 0)),(23,yu 93 85 52 yB 0),(22,yu 92 84 5 yW 0)],bk:=[(12,yb 17),(11,yc 16 1),(10,yc 15 52),(9,yc 14 5),(7,yb 7),(6,yb 6),(5,yb 5),(4,yb 4),(3,yb 3),(2,yb 2),(1,yb 1),(0,yb 0),(8,yb 13)]} 181 <|
   .br (.var 187)
   (.call 3 {lo:=0,az:=0,iv:=yo [(70,yv 145)]<|yr 65 164 5<|yo [(60,yv 158),(59,yv 157),(57,yv 155),(56,yv 154)]<|yr 3 152 4<|yo [(53,yv 147),(52,yv 146),(69,yv 148),(50,yv 143),(49,yv 142),(47,yv 140)]<|yr 45 138 4<|yr 40 133 4<|yr 35 128 4<|yr 30 123 13<|yr 16 109 4<|yr 11 104 8<|yr 74 184 4 [],bv:=[(67,yw 166),(66,yw 165),(58,yw 156),(55,yw 153),(51,yw 145),(48,yw 141),(46,yw 139),(41,yw 134),(36,yw 129),(31,yw 124),(17,yw 110),(12,yw 105),(76,yw 186),(75,yw 185)],ct:=[(70,yu 159 157 7 yN 0),(69,yu 148 145 7 yN 0),(68,yu 144 142 5 yW 0),(54,yl 167 9 5 50 yW 0)],bk:=[(3,yc 20 7),(2,yc 19 7),(1,yc 18 5),(0,yb 9)]} 198 <|
    .fin {lo:=96,az:=18,iv:=yo [(162,yv 264)]<|yr 180 192 4<|yr 157 259 7<|yo [(149,yv 251),(148,yv 250)]<|yr 190 152 4<|yo [(145,yv 247),(144,yv 246),(161,yv 263),(142,yv 244),(141,yv 243),(139,yv 241)]<|yr 137 239 4<|yr 132 234 4<|yr 127 229 4<|yr 122 224 13<|yr 108 210 4<|yr 103 205 8<|yr 172 177 4<|yr 167 172 5 [],bv:=[(181,yw 193),(176,yw 188),(159,yw 261),(158,yw 260),(150,yw 252),(147,yw 249),(143,yw 245),(140,yw 242),(138,yw 240),(133,yw 235),(128,yw 230),(123,yw 225),(109,yw 211),(104,yw 206),(175,yw 180),(174,yw 179),(173,yw 178),(168,yw 173),(186,.lit true)],ct:=[(185,yu 197 189 1 yI 0),(162,yu 264 253 7 yN 0),(161,yu 263 264 7 yN 0),(160,yu 262 243 5 yW 0),(184,.up {r:=196,n1:=.var 85,s1:=52,n2:=10,s2:=5,lo:=2,ks:=yW} 1 [] (.lit 0)),(183,yu 195 85 52 yB 0),(182,yu 194 84 5 yW 0),(146,yl 248 9 5 50 yW 0)],bk:=[(22,yb 24),(21,yc 23 1),(20,yc 28 7),(19,yc 27 7),(18,yc 26 5)]})
   (.fin {lo:=96,az:=18,iv:=yo [(162,yv 145)]<|yr 180 192 4<|yr 157 164 5<|yo [(152,yv 158),(151,yv 157),(149,yv 155),(148,yv 154)]<|yr 190 152 4<|yo [(145,yv 147),(144,yv 146),(161,yv 148),(142,yv 143),(141,yv 142),(139,yv 140)]<|yr 137 138 4<|yr 132 133 4<|yr 127 128 4<|yr 122 123 13<|yr 108 109 4<|yr 103 104 8<|yr 172 177 4<|yr 167 172 5 [],bv:=[(181,yw 193),(176,yw 188),(159,yw 166),(158,yw 165),(150,yw 156),(147,yw 153),(143,yw 145),(140,yw 141),(138,yw 139),(133,yw 134),(128,yw 129),(123,yw 124),(109,yw 110),(104,yw 105),(175,yw 180),(174,yw 179),(173,yw 178),(168,yw 173),(186,.lit false)],ct:=[(185,yu 197 189 1 yI 0),(162,yu 159 157 7 yN 0),(161,yu 148 145 7 yN 0),(160,yu 144 142 5 yW 0),(184,.up {r:=196,n1:=.var 85,s1:=52,n2:=10,s2:=5,lo:=2,ks:=yW} 1 [] (.lit 0)),(183,yu 195 85 52 yB 0),(182,yu 194 84 5 yW 0),(146,yl 167 9 5 50 yW 0)],bk:=[(22,yb 24),(21,yc 23 1),(20,yc 20 7),(19,yc 19 7),(18,yc 18 5)]})))
 (.br (.aC (.var 115) (.lit 0))
  (.fin {lo:=96,az:=18,iv:=yo [(162,yv 145)]<|yr 180 90 4<|yr 157 164 5<|yo [(152,yv 158),(151,yv 157),(149,yv 155),(148,yv 154)]<|yr 190 152 4<|yo [(145,yv 147),(144,yv 146),(161,yv 148),(142,yv 143),(141,yv 142),(139,yv 140)]<|yr 137 138 4<|yr 132 133 4<|yr 127 128 4<|yr 122 123 13<|yr 108 109 4<|yr 103 104 8<|yr 172 177 4<|yr 167 172 5 [],bv:=[(181,yw 91),(176,yw 86),(159,yw 166),(158,yw 165),(150,yw 156),(147,yw 153),(143,yw 145),(140,yw 141),(138,yw 139),(133,yw 134),(128,yw 129),(123,yw 124),(109,yw 110),(104,yw 105),(175,yw 180),(174,yw 179),(173,yw 178),(168,yw 173),(186,.lit false)],ct:=[(185,yu 95 87 1 yI 0),(162,yu 159 157 7 yN 0),(161,yu 148 145 7 yN 0),(160,yu 144 142 5 yW 0),(184,.up {r:=94,n1:=.var 85,s1:=52,n2:=10,s2:=5,lo:=2,ks:=yW} 1 [] (.lit 0)),(183,yu 93 85 52 yB 0),(182,yu 92 84 5 yW 0),(146,yl 167 9 5 50 yW 0)],bk:=[(22,yb 17),(21,yc 16 1),(20,yc 20 7),(19,yc 19 7),(18,yc 18 5)]})
  (.call 2 {lo:=0,az:=0,iv:=yr 20 90 4<|yo [(15,yv 85),(14,yv 84)]<|yr 12 128 4<|yr 7 123 8 [],bv:=[(21,yw 91),(16,yw 86),(13,yw 129),(8,yw 124)],ct:=[(25,yu 95 87 1 yI 0),(24,.up {r:=94,n1:=.var 85,s1:=52,n2:=10,s2:=5,lo:=2,ks:=yW} 1 [] (.lit 0)),(23,yu 93 85 52 yB 0),(22,yu 92 84 5 yW 0)],bk:=[(12,yb 17),(11,yc 16 1),(10,yc 15 52),(9,yc 14 5),(7,yb 7),(6,yb 6),(5,yb 5),(4,yb 4),(3,yb 3),(2,yb 2),(1,yb 1),(0,yb 0),(8,yb 13)]} 181 <|
   .br (.var 187)
   (.call 3 {lo:=0,az:=0,iv:=yo [(70,yv 145)]<|yr 65 164 5<|yo [(60,yv 158),(59,yv 157),(57,yv 155),(56,yv 154)]<|yr 3 152 4<|yo [(53,yv 147),(52,yv 146),(69,yv 148),(50,yv 143),(49,yv 142),(47,yv 140)]<|yr 45 138 4<|yr 40 133 4<|yr 35 128 4<|yr 30 123 13<|yr 16 109 4<|yr 11 104 8<|yr 74 184 4 [],bv:=[(67,yw 166),(66,yw 165),(58,yw 156),(55,yw 153),(51,yw 145),(48,yw 141),(46,yw 139),(41,yw 134),(36,yw 129),(31,yw 124),(17,yw 110),(12,yw 105),(76,yw 186),(75,yw 185)],ct:=[(70,yu 159 157 7 yN 0),(69,yu 148 145 7 yN 0),(68,yu 144 142 5 yW 0),(54,yl 167 9 5 50 yW 0)],bk:=[(3,yc 20 7),(2,yc 19 7),(1,yc 18 5),(0,yb 9)]} 198 <|
    .fin {lo:=96,az:=18,iv:=yo [(162,yv 264)]<|yr 180 192 4<|yr 157 259 7<|yo [(149,yv 251),(148,yv 250)]<|yr 190 152 4<|yo [(145,yv 247),(144,yv 246),(161,yv 263),(142,yv 244),(141,yv 243),(139,yv 241)]<|yr 137 239 4<|yr 132 234 4<|yr 127 229 4<|yr 122 224 13<|yr 108 210 4<|yr 103 205 8<|yr 172 177 4<|yr 167 172 5 [],bv:=[(181,yw 193),(176,yw 188),(159,yw 261),(158,yw 260),(150,yw 252),(147,yw 249),(143,yw 245),(140,yw 242),(138,yw 240),(133,yw 235),(128,yw 230),(123,yw 225),(109,yw 211),(104,yw 206),(175,yw 180),(174,yw 179),(173,yw 178),(168,yw 173),(186,.lit true)],ct:=[(185,yu 197 189 1 yI 0),(162,yu 264 253 7 yN 0),(161,yu 263 264 7 yN 0),(160,yu 262 243 5 yW 0),(184,.up {r:=196,n1:=.var 85,s1:=52,n2:=10,s2:=5,lo:=2,ks:=yW} 1 [] (.lit 0)),(183,yu 195 85 52 yB 0),(182,yu 194 84 5 yW 0),(146,yl 248 9 5 50 yW 0)],bk:=[(22,yb 24),(21,yc 23 1),(20,yc 28 7),(19,yc 27 7),(18,yc 26 5)]})
   (.fin {lo:=96,az:=18,iv:=yo [(162,yv 145)]<|yr 180 192 4<|yr 157 164 5<|yo [(152,yv 158),(151,yv 157),(149,yv 155),(148,yv 154)]<|yr 190 152 4<|yo [(145,yv 147),(144,yv 146),(161,yv 148),(142,yv 143),(141,yv 142),(139,yv 140)]<|yr 137 138 4<|yr 132 133 4<|yr 127 128 4<|yr 122 123 13<|yr 108 109 4<|yr 103 104 8<|yr 172 177 4<|yr 167 172 5 [],bv:=[(181,yw 193),(176,yw 188),(159,yw 166),(158,yw 165),(150,yw 156),(147,yw 153),(143,yw 145),(140,yw 141),(138,yw 139),(133,yw 134),(128,yw 129),(123,yw 124),(109,yw 110),(104,yw 105),(175,yw 180),(174,yw 179),(173,yw 178),(168,yw 173),(186,.lit false)],ct:=[(185,yu 197 189 1 yI 0),(162,yu 159 157 7 yN 0),(161,yu 148 145 7 yN 0),(160,yu 144 142 5 yW 0),(184,.up {r:=196,n1:=.var 85,s1:=52,n2:=10,s2:=5,lo:=2,ks:=yW} 1 [] (.lit 0)),(183,yu 195 85 52 yB 0),(182,yu 194 84 5 yW 0),(146,yl 167 9 5 50 yW 0)],bk:=[(22,yb 24),(21,yc 23 1),(20,yc 20 7),(19,yc 19 7),(18,yc 18 5)]})))
theorem QG:exec tab QE 8000 [] (gI jb.f jb.nv [] jb.gl jb.hp jb.args)=CK:=by kernel_rfl
def nH (m:Mn) (p:PS):Prop:=∃k n e T own A i,k≤900000∧Good k n e p T own A i m
def M0 (q:Env):Mn:=eU q (ae q 0 4) 71
def P0 (q:Env):PS:=ag q (q.iv 84) (q.iv 85) 86
def Mc (q:Env):Mn:=eU q (vF q 97) 168
def CL (ρ:Env):Prop:=bJ ρ 4∧bu ρ 86∧nH (M0 ρ) (P0 ρ)
def GR (ρ:Env):Prop:=bJ ρ 96∧bu ρ 176∧(eU ρ (ae ρ 187 96) 163,ag ρ (ρ.iv 84) (ρ.iv 85) 176,ρ.bv 186)=(M0 ρ).step (P0 ρ)
def Kk (q:Env):Prop:=SG q 97∧bu q 86∧(0≤q.iv 96∧q.iv 96≤12)∧nH (Mc q) (P0 q)∧(M0 q).go 12=(Mc q).go (12-q.iv 96).toNat
theorem V3 {m m1:Mn} {p:PS} (hg:m.go 12=(m1,none)) (h0:m1.r.step≠0) {p':PS} {x:Rp} (ha:p.act m1.r.acc=(p',some x)):m.step p=({m1 with r:=(m1.r.aJ x).1},p',(m1.r.aJ x).2):=by
 unfold Mn.step
 rw [hg]
 simp only
 rw [if_neg h0,ha]
theorem QH {r:RS} {x:Rp} (h0:r.step≠0):(r.aJ x).2=true:=by
 unfold RS.aJ
 rw [if_neg h0]
 repeat' first
  | rfl
  | split
theorem nH.to {m m':Mn} {p p':PS} (h:nH m p) (e1:m'=m) (e2:p'=p):nH m' p':=by
 subst e1 e2
 exact h
theorem UM {a b:Mn} {j k:Nat} (h:b=a) (hj:j=k):a.go k=b.go j:=by
 subst h hj
 rfl
theorem UN {α β γ:Type} {a a':α} {b b':β} {c c':γ} (h1:a=a') (h2:b=b') (h3:c=c'):(a,b,c)=(a',b',c'):=by
 subst h1 h2 h3
 rfl
theorem X9 {ρ:Env} {r r':RS} {v:Nat} {m:Mn} (h:eU ρ r v=m):eU ρ r' v={m with r:=r'}:=by
 subst h
 rfl
def ZT (c:Int) (u:Env):Prop:=(SG u 97∧bu u 86∧(0≤u.iv 96∧u.iv 96<12∧u.iv 96=c))∧nH (Mc u) (P0 u)∧(M0 u).go 12=(Mc u).go (12-u.iv 96).toNat∧¬((Mc u).stop=true∧(Mc u).pc=0)∧(Mc u).r.step=0∧eU u (Mc u).next.1.r 181=(Mc u).next.1∧jX u 194=(Mc u).next.2
def Md (v:Env):Mn:=eU v ((ae v 0 212).at (v.iv 149) (v.iv 150) (v.iv 151) (v.iv 152)) 181
def ZU (c:Int) (v:Env):Prop:=(bJ v 212∧bu v 86∧(0≤v.iv 96∧v.iv 96<12∧v.iv 96=c))∧nH (Md v) (P0 v)∧(M0 v).go 12=(Md v).go (11-v.iv 96).toNat
def ZV (u:Env):Prop:=(SG u 97∧bu u 188)∧(M0 u).go 12=(Mc u,none)∧(Mc u).r.step≠0∧(ag u (u.iv 84) (u.iv 85) 188=((P0 u).act (Mc u).r.acc).1∧u.bv 187=((P0 u).act (Mc u).r.acc).2.isSome∧aL u 181=((P0 u).act (Mc u).r.acc).2.getD Rp.no)∧∃p' x,(P0 u).act (Mc u).r.acc=(p',some x)∧(Mc u).r.Tk x
def Me (v:Env):Mn:=eU v ((ae v 0 198).at (v.iv 149) (v.iv 150) (v.iv 151) (v.iv 152)) 168
def ZW (v:Env):Prop:=(bJ v 198∧bu v 188)∧(M0 v).step (P0 v)=(Me v,ag v (v.iv 84) (v.iv 85) 188,true)
set_option maxHeartbeats 8000000 in
theorem QI (ρ:Env) (hpre:CL ρ.num):Sat GR Ic [] ρ CK:=by
 replace hpre:CL ρ:=hpre
 obtain ⟨⟨o1,o2,o3⟩,ho,hG⟩:=hpre
 unfold CK
 refine Sat.uK Kk (fun q=>(12-q.iv 96).toNat) (fun _=>True) ⟨⟨o1,o2,o3⟩,ho,⟨Int.le_refl 0,by show (0:Int)≤12;decide⟩,hG.to ?_ rfl,UM ?_ rfl⟩ (fun _=>trivial) fun q _ hI=>?_
 ·exact Mn.ext' (RS.ext' rfl rfl rfl rfl rfl rfl bA bE rfl rfl rfl rfl (fun i=>by simp [Mc,M0,Md,Me,eU,RS.at,ae,vF,aF,-Int.pred_toNat,Sub.af,assoc,CV.I,CV.B,ah,ai,aa.I,aa.B,SC.I,SC.B,IE.den,BE.den]) rfl bB rfl rfl) rfl rfl rfl rfl rfl
 ·exact Mn.ext' (RS.ext' rfl rfl rfl rfl rfl rfl bA bE rfl rfl rfl rfl (fun i=>by simp [Mc,M0,Md,Me,eU,RS.at,ae,vF,aF,-Int.pred_toNat,Sub.af,assoc,CV.I,CV.B,ah,ai,aa.I,aa.B,SC.I,SC.B,IE.den,BE.den]) rfl bB rfl rfl) rfl rfl rfl rfl rfl
 replace hI:Kk q:=hI
 rw [show (12-q.num.iv 96).toNat=(12-q.iv 96).toNat from rfl]
 obtain ⟨hl,ho,⟨i1,i2⟩,hG,hgo⟩:=hI
 have hG':=hG
 obtain ⟨k,n,e,T,own,A,i,hk,G⟩:=hG'
 have o1:=hl.1
 have o2:=hl.2.1
 have o3:=hl.2.2
 have e40:(Mc q).r.step=q.iv 115:=rfl
 refine Sat.br (fun c1=>Sat.br (fun c2=>?_) (fun c2=>?_)) (fun c1=>Sat.br (fun c2=>?_) (fun c2=>?_))
 ·replace c1:q.iv 96<12:=of_decide_eq_true c1
  replace c2:(Mc q).r.step=0:=beq_iff_eq.1 c2
  obtain ⟨j,hj⟩:∃j,(12-q.iv 96).toNat=j+1:=⟨(12-q.iv 96).toNat-1,by omega⟩
  refine Sat.br (fun c3=>?_) (fun c3=>?_)
  ·replace c3:(Mc q).stop=true∧(Mc q).pc=0:=by
    have h:(q.bv 180 && (q.iv 168 == 0))=true:=c3
    rw [Bool.and_eq_true,beq_iff_eq] at h
    exact h
   have hs:(M0 q).step (P0 q)=(Mc q,P0 q,true):=by
    unfold Mn.step
    rw [hgo,hj,VX c2 c3]
   refine Sat.fin ⟨⟨o1,o2,o3⟩,ho,Eq.trans (UN ?_ ?_ rfl) hs.symm⟩
   ·exact Mn.ext' (RS.ext' rfl rfl rfl rfl rfl rfl bA bE rfl rfl rfl rfl (fun i=>by simp [Mc,M0,Md,Me,eU,RS.at,ae,vF,aF,-Int.pred_toNat,Sub.af,assoc,CV.I,CV.B,ah,ai,aa.I,aa.B,SC.I,SC.B,IE.den,BE.den]) rfl bB rfl rfl) rfl rfl rfl rfl rfl
   ·exact (PS.ext' rfl rfl rfl rfl rfl rfl (fun i=>by simp [P0,ag,jv,aF,-Int.pred_toNat,Sub.af,assoc,CV.I,CV.B,ah,ai,aa.I,aa.B,SC.I,SC.B,IE.den,BE.den]) (fun i=>by simp [P0,ag,jv,-Int.pred_toNat,Sub.af,assoc,CV.I,CV.B,ah,ai,aa.I,aa.B,SC.I,SC.B,IE.den,BE.den]) (fun i=>by simp [P0,ag,jv,-Int.pred_toNat,Sub.af,assoc,CV.I,CV.B,ah,ai,aa.I,aa.B,SC.I,SC.B,IE.den,BE.den]) (fun i k=>by simp [P0,ag,jv,aF,-Int.pred_toNat,Sub.af,assoc,CV.I,CV.B,ah,ai,aa.I,aa.B,SC.I,SC.B,IE.den,BE.den]) (fun i=>by simp [P0,ag,jv,-Int.pred_toNat,Sub.af,assoc,CV.I,CV.B,ah,ai,aa.I,aa.B,SC.I,SC.B,IE.den,BE.den]))
  ·replace c3:¬((Mc q).stop=true∧(Mc q).pc=0):=fun h=>by
    have h':(q.bv 180 && (q.iv 168 == 0))=false:=c3
    have h1:q.bv 180=true:=h.1
    have h2:q.iv 168=0:=h.2
    rw [h1,h2] at h'
    cases h'
   refine QD rfl (Mc q) rfl rfl (G.small (by omega) c2) (ZT (q.iv 96)) (fun e h1 h2=>⟨⟨hl,ho,i1,c1,rfl⟩,hG,hgo,c3,c2,h1,h2⟩) fun u hu=>?_
   clear hl ho i1 i2 hG G hgo c1 c2 c3 hj o1 o2 o3 e40 hk
   obtain ⟨⟨hl,ho,i1,i2,ic⟩,hG,hgo,c3,c2,hm,hc⟩:=hu
   have o1:=hl.1
   have o2:=hl.2.1
   have o3:=hl.2.2
   obtain ⟨k,n,e,T,own,A,i,hk,G⟩:=hG
   obtain ⟨g1,g2,g3,own',G'⟩:=G.dF c2
   refine NQ rfl (Mc u).r (Mc u).next.2 (RS.ext' rfl rfl rfl rfl rfl rfl bA bE rfl rfl rfl rfl (fun i=>by simp [Mc,M0,Md,Me,eU,RS.at,ae,vF,aF,-Int.pred_toNat,Sub.af,assoc,CV.I,CV.B,ah,ai,aa.I,aa.B,SC.I,SC.B,IE.den,BE.den]) rfl bB rfl rfl) hc ⟨o1,o2,o3⟩ G.rs.1 G.rs.2 c2 g1 (ZU (q.iv 96)) (fun e h1 h2=>?_) fun v hv=>?_
   ·have hmd:Md (u.join 212 e)={(Mc u).next.1 with r:=((Mc u).r.begin (Mc u).next.2).1}:=by
     rw [←h2]
     exact X9 hm
    refine ⟨⟨h1,ho,i1,i2,ic⟩,?_,?_⟩
    ·rw [hmd]
     exact ⟨k,n,_,_,_,_,_,hk,G'⟩
    ·rw [hmd]
     refine Eq.trans hgo ?_
     rw [show (12-u.iv 96).toNat=(11-u.iv 96).toNat+1 by omega]
     exact X7 c2 c3 g2 g3 _
   ·clear hl ho i1 i2 G G' hgo c2 c3 o1 o2 o3 hm hc g1 g2 g3 hk
    obtain ⟨⟨hl,ho,i1,i2,ic⟩,hG,hgo⟩:=hv
    have o1:=hl.1
    have o2:=hl.2.1
    have o3:=hl.2.2
    refine Sat.ob (by simp only [Da];omega) (Sat.back rfl ⟨⟨⟨o1,o2,o3⟩,ho,⟨by show 0≤v.iv 96+1;omega,by show v.iv 96+1≤12;omega⟩,hG.to ?_ rfl,hgo.trans (UM ?_ ?_)⟩,?_⟩)
    ·exact Mn.ext' (RS.ext' rfl rfl rfl rfl rfl rfl bA bE rfl rfl rfl rfl (fun i=>by simp [Mc,M0,Md,Me,eU,RS.at,ae,vF,aF,-Int.pred_toNat,Sub.af,assoc,CV.I,CV.B,ah,ai,aa.I,aa.B,SC.I,SC.B,IE.den,BE.den]) rfl bB rfl rfl) rfl rfl rfl rfl rfl
    ·exact Mn.ext' (RS.ext' rfl rfl rfl rfl rfl rfl bA bE rfl rfl rfl rfl (fun i=>by simp [Mc,M0,Md,Me,eU,RS.at,ae,vF,aF,-Int.pred_toNat,Sub.af,assoc,CV.I,CV.B,ah,ai,aa.I,aa.B,SC.I,SC.B,IE.den,BE.den]) rfl bB rfl rfl) rfl rfl rfl rfl rfl
    ·show (12-(v.iv 96+1)).toNat=(11-v.iv 96).toNat
     omega
    ·show (12-(v.iv 96+1)).toNat<(12-q.iv 96).toNat
     omega
 rotate_left
 ·replace c1:¬q.iv 96<12:=of_decide_eq_false c1
  replace c2:(Mc q).r.step=0:=beq_iff_eq.1 c2
  have hs:(M0 q).step (P0 q)=(Mc q,P0 q,false):=by
   unfold Mn.step
   rw [hgo,show (12-q.iv 96).toNat=0 by omega,show (Mc q).go 0=(Mc q,none) from rfl]
   simp only
   rw [if_pos c2]
  refine Sat.fin ⟨⟨o1,o2,o3⟩,ho,Eq.trans (UN ?_ ?_ rfl) hs.symm⟩
  ·exact Mn.ext' (RS.ext' rfl rfl rfl rfl rfl rfl bA bE rfl rfl rfl rfl (fun i=>by simp [Mc,M0,Md,Me,eU,RS.at,ae,vF,aF,-Int.pred_toNat,Sub.af,assoc,CV.I,CV.B,ah,ai,aa.I,aa.B,SC.I,SC.B,IE.den,BE.den]) rfl bB rfl rfl) rfl rfl rfl rfl rfl
  ·exact (PS.ext' rfl rfl rfl rfl rfl rfl (fun i=>by simp [P0,ag,jv,aF,-Int.pred_toNat,Sub.af,assoc,CV.I,CV.B,ah,ai,aa.I,aa.B,SC.I,SC.B,IE.den,BE.den]) (fun i=>by simp [P0,ag,jv,-Int.pred_toNat,Sub.af,assoc,CV.I,CV.B,ah,ai,aa.I,aa.B,SC.I,SC.B,IE.den,BE.den]) (fun i=>by simp [P0,ag,jv,-Int.pred_toNat,Sub.af,assoc,CV.I,CV.B,ah,ai,aa.I,aa.B,SC.I,SC.B,IE.den,BE.den]) (fun i k=>by simp [P0,ag,jv,aF,-Int.pred_toNat,Sub.af,assoc,CV.I,CV.B,ah,ai,aa.I,aa.B,SC.I,SC.B,IE.den,BE.den]) (fun i=>by simp [P0,ag,jv,-Int.pred_toNat,Sub.af,assoc,CV.I,CV.B,ah,ai,aa.I,aa.B,SC.I,SC.B,IE.den,BE.den]))
 all_goals
  replace c2:(Mc q).r.step≠0:=beq_eq_false_iff_ne.1 c2
  rw [nE c2] at hgo
  obtain ⟨p',x,ha,htk,hok⟩:=G.acc (by omega) c2
  have hst:=G.st
  refine VW rfl (P0 q) (Mc q).r.acc (n:=q.iv 84) (m:=q.iv 85) rfl rfl (PS.ext' rfl rfl rfl rfl rfl rfl (fun i=>by simp [P0,ag,jv,aF,-Int.pred_toNat,Sub.af,assoc,CV.I,CV.B,ah,ai,aa.I,aa.B,SC.I,SC.B,IE.den,BE.den]) (fun i=>by simp [P0,ag,jv,-Int.pred_toNat,Sub.af,assoc,CV.I,CV.B,ah,ai,aa.I,aa.B,SC.I,SC.B,IE.den,BE.den]) (fun i=>by simp [P0,ag,jv,-Int.pred_toNat,Sub.af,assoc,CV.I,CV.B,ah,ai,aa.I,aa.B,SC.I,SC.B,IE.den,BE.den]) (fun i k=>by simp [P0,ag,jv,aF,-Int.pred_toNat,Sub.af,assoc,CV.I,CV.B,ah,ai,aa.I,aa.B,SC.I,SC.B,IE.den,BE.den]) (fun i=>by simp [P0,ag,jv,-Int.pred_toNat,Sub.af,assoc,CV.I,CV.B,ah,ai,aa.I,aa.B,SC.I,SC.B,IE.den,BE.den])) rfl ho hok (by omega) ZV (fun e h1 h2 h3 h4=>⟨⟨hl,h1⟩,hgo,c2,⟨h2,h3,h4⟩,p',x,ha,htk⟩) fun u hu=>?_
  clear hl ho i1 i2 hG G hgo c1 c2 o1 o2 o3 e40 hk hst ha htk hok
  obtain ⟨⟨hl,ho⟩,hgo,c2,⟨h1,h2,h3⟩,p',x,ha,htk⟩:=hu
  have o1:=hl.1
  have o2:=hl.2.1
  have o3:=hl.2.2
  rw [ha] at h1 h2 h3
  refine Sat.br (fun c3=>?_) (fun c3=>?_)
  ·refine Ql rfl (Mc u).r x (RS.ext' rfl rfl rfl rfl rfl rfl bA bE rfl rfl rfl rfl (fun i=>by simp [Mc,M0,Md,Me,eU,RS.at,ae,vF,aF,-Int.pred_toNat,Sub.af,assoc,CV.I,CV.B,ah,ai,aa.I,aa.B,SC.I,SC.B,IE.den,BE.den]) rfl bB rfl rfl) h3 ⟨o1,o2,o3⟩ htk ZW (fun e g1 g2=>⟨⟨g1,ho⟩,?_⟩) fun v hv=>?_
   ·refine (V3 hgo c2 ha).trans (UN ?_ h1.symm (QH c2))
    rw [←g2]
    rfl
   ·obtain ⟨⟨hl,ho⟩,hs⟩:=hv
    have o1:=hl.1
    have o2:=hl.2.1
    have o3:=hl.2.2
    refine Sat.fin ⟨⟨o1,o2,o3⟩,ho,Eq.trans (UN ?_ ?_ rfl) hs.symm⟩
    ·exact Mn.ext' (RS.ext' rfl rfl rfl rfl rfl rfl bA bE rfl rfl rfl rfl (fun i=>by simp [Mc,M0,Md,Me,eU,RS.at,ae,vF,aF,-Int.pred_toNat,Sub.af,assoc,CV.I,CV.B,ah,ai,aa.I,aa.B,SC.I,SC.B,IE.den,BE.den]) rfl bB rfl rfl) rfl rfl rfl rfl rfl
    ·exact (PS.ext' rfl rfl rfl rfl rfl rfl (fun i=>by simp [P0,ag,jv,aF,-Int.pred_toNat,Sub.af,assoc,CV.I,CV.B,ah,ai,aa.I,aa.B,SC.I,SC.B,IE.den,BE.den]) (fun i=>by simp [P0,ag,jv,-Int.pred_toNat,Sub.af,assoc,CV.I,CV.B,ah,ai,aa.I,aa.B,SC.I,SC.B,IE.den,BE.den]) (fun i=>by simp [P0,ag,jv,-Int.pred_toNat,Sub.af,assoc,CV.I,CV.B,ah,ai,aa.I,aa.B,SC.I,SC.B,IE.den,BE.den]) (fun i k=>by simp [P0,ag,jv,aF,-Int.pred_toNat,Sub.af,assoc,CV.I,CV.B,ah,ai,aa.I,aa.B,SC.I,SC.B,IE.den,BE.den]) (fun i=>by simp [P0,ag,jv,-Int.pred_toNat,Sub.af,assoc,CV.I,CV.B,ah,ai,aa.I,aa.B,SC.I,SC.B,IE.den,BE.den]))
  ·exfalso
   replace c3:u.bv 187=false:=c3
   rw [h2] at c3
   cases c3
theorem QJ:bF Tryd.prog jb CL GR :=
 dP fC (E:=QE) (cs:=Ic) rfl Tp df rfl QG (by kernel_rfl) (fun ρ _ p hp=>by cases hp) QI
end Go.Proofs.YthomdlajobnmnaaDoor
namespace Go.Rex
def ed (ρ:Env) (ν:Nat→Addr) (hp:List SB) (b:Nat):Prop:=∃(k:Nat) (sb:SB),hp[k]?=some sb∧sb.dead ρ=false∧b=(ν k).block
theorem rC {ρ:Env} {ν:Nat→Addr} {hp:List SB} {b:Nat} (h:kM ρ ν hp b):ed ρ ν hp b:=by
 obtain ⟨k,sb,h1,-,h3,rfl⟩:=h
 exact ⟨k,sb,h1,h3,rfl⟩
theorem QK {ρ:Env} {ν:Nat→Addr} {hp:List SB} (ha:nV hp=true) {b:Nat} (h:ed ρ ν hp b):kM ρ ν hp b:=by
 obtain ⟨k,sb,h1,h3,rfl⟩:=h
 exact ⟨k,sb,h1,(qX ha h1 (SB.dO h3)).1,h3,rfl⟩
theorem uq {ρ:Env} {ν:Nat→Addr} {hp:List SB} {w:World} (h:aN ρ ν hp w) {b:Nat} (hb:ed ρ ν hp b):b<w.heap.size:=by
 obtain ⟨k,sb,h1,h3,rfl⟩:=hb
 exact h.lt h1 h3
theorem uX {nv n:Nat} {ρ ρ':Env} {ν aQ:Nat→Addr} (hA:dM nv n ρ ρ' ν aQ) {hp:List SB} (hs:nM nv n hp=true) (hl:hp.length≤n) {b:Nat}:ed ρ' aQ hp b↔ed ρ ν hp b:=by
 constructor
 ·rintro ⟨k,sb,h1,h3,rfl⟩
  have:=(List.getElem?_eq_some_iff.1 h1).1
  exact ⟨k,sb,h1,by rwa [SB.ll hA (iM hs k sb h1)] at h3,by rw [hA.bl k (by omega)]⟩
 ·rintro ⟨k,sb,h1,h3,rfl⟩
  have:=(List.getElem?_eq_some_iff.1 h1).1
  exact ⟨k,sb,h1,by rwa [SB.ll hA (iM hs k sb h1)],by rw [hA.bl k (by omega)]⟩
theorem aN.join {a b:List SB} {N:Nat} {pU nX:Env} {uu rO:Nat→Addr} {w:World} (ha:aN pU uu a w) (hb:aN nX rO b w) (hs:nM N a.length a=true) (hd:∀x,ed pU uu a x→ed nX rO b x→False) :
  aN (pU.cat N nX) (iJ a.length uu rO) (a ++ b.map (SB.aU (N+·) (a.length+·))) w:=by
 have hA:=dM.cat N a.length pU nX uu rO
 have e1:(pU.cat N nX).pull (N+·)=nX:=Env.Cb N pU nX
 have e2:(fun k=>iJ a.length uu rO (a.length+k))=rO:=funext fun k=>j6 ..
 refine aN.app (ha.ext hA hs (Nat.le_refl _)) (by rw [e1,e2];exact hb) fun i j x y hi hj dx dy _ he=>?_
 rw [e1] at dy
 have hl:=(List.getElem?_eq_some_iff.1 hi).1
 rw [nC _ _ _ hl,j6] at he
 rw [SB.ll hA (iM hs i x hi)] at dx
 exact hd _ ⟨i,x,hi,dx,rfl⟩ ⟨j,y,hj,dy,he⟩
theorem NY {a b:List SB} {N:Nat} {pU nX:Env} {uu rO:Nat→Addr} (hs:nM N a.length a=true) {x:Nat}:ed (pU.cat N nX) (iJ a.length uu rO) (a ++ b.map (SB.aU (N+·) (a.length+·))) x↔ed pU uu a x∨ed nX rO b x:=by
 have hA:=dM.cat N a.length pU nX uu rO
 have e1:(pU.cat N nX).pull (N+·)=nX:=Env.Cb N pU nX
 constructor
 ·rintro ⟨k,sb,h1,h3,rfl⟩
  rw [List.getElem?_append] at h1
  split at h1
  ·rename_i hk
   rw [SB.ll hA (iM hs k sb h1)] at h3
   exact .inl ⟨k,sb,h1,h3,by rw [nC _ _ _ hk]⟩
  ·rename_i hk
   rw [List.getElem?_map,Option.map_eq_some_iff] at h1
   obtain ⟨c,hc,rfl⟩:=h1
   rw [SB.fK,e1] at h3
   refine .inr ⟨k-a.length,c,hc,h3,?_⟩
   have:=j6 a.length uu rO (k-a.length)
   rw [show a.length+(k-a.length)=k by omega] at this
   rw [this]
 ·rintro (⟨k,sb,h1,h3,rfl⟩ | ⟨k,sb,h1,h3,rfl⟩)
  ·have hk:=(List.getElem?_eq_some_iff.1 h1).1
   exact ⟨k,sb,by rw [List.getElem?_append_left hk];exact h1,by rwa [SB.ll hA (iM hs k sb h1)],by rw [nC _ _ _ hk]⟩
  ·refine ⟨a.length+k,sb.aU (N+·) (a.length+·),?_,by rw [SB.fK,e1];exact h3,by rw [j6]⟩
   rw [List.getElem?_append_right (by omega),show a.length+k-a.length=k by omega,List.getElem?_map,h1]
   rfl
theorem zS {a b:List SB} {N:Nat} {pU nX:Env} {uu rO:Nat→Addr} (hs:nM N a.length a=true) {x:Nat} (h:kM (pU.cat N nX) (iJ a.length uu rO) (a ++ b.map (SB.aU (N+·) (a.length+·))) x):kM pU uu a x∨kM nX rO b x:=by
 have hA:=dM.cat N a.length pU nX uu rO
 have e1:(pU.cat N nX).pull (N+·)=nX:=Env.Cb N pU nX
 obtain ⟨k,sb,h1,h2,h3,rfl⟩:=h
 rw [List.getElem?_append] at h1
 split at h1
 ·rename_i hk
  rw [SB.ll hA (iM hs k sb h1)] at h3
  exact .inl ⟨k,sb,h1,h2,h3,by rw [nC _ _ _ hk]⟩
 ·rename_i hk
  rw [List.getElem?_map,Option.map_eq_some_iff] at h1
  obtain ⟨c,hc,rfl⟩:=h1
  rw [SB.fK,e1] at h3
  refine .inr ⟨k-a.length,c,hc,h2,h3,?_⟩
  have:=j6 a.length uu rO (k-a.length)
  rw [show a.length+(k-a.length)=k by omega] at this
  rw [this]
def YH (hp:List SB):Bool:=hp.all fun b=>!b.own
theorem qF {ρ:Env} {ν:Nat→Addr} {hp:List SB} (h:YH hp=true) {x:Nat} (hx:kM ρ ν hp x):False:=by
 obtain ⟨k,sb,h1,h2,-,-⟩:=hx
 have:=List.all_eq_true.1 h sb (List.mem_of_getElem? h1)
 rw [h2] at this
 cases this
theorem Et {H hp:List SB} {f g:Nat→Nat} (hg:(List.range hp.length).map (fun j=>H[g j]?)=hp.map fun sb=>some (sb.aU f g)) {k:Nat} {sb:SB} (hk:hp[k]?=some sb):H[g k]?=some (sb.aU f g):=by
 have hlt:=(List.getElem?_eq_some_iff.1 hk).1
 have:=congrArg (fun l=>l[k]?) hg
 simp only [List.getElem?_map,List.getElem?_range hlt,hk,Option.map_some] at this
 exact Option.some.inj this
theorem QL {ρ:Env} {ν:Nat→Addr} {H hp:List SB} {f g:Nat→Nat} (hg:(List.range hp.length).map (fun j=>H[g j]?)=hp.map fun sb=>some (sb.aU f g)) {x:Nat} (h:ed (ρ.pull f) (fun k=>ν (g k)) hp x):ed ρ ν H x:=by
 obtain ⟨k,sb,h1,h3,rfl⟩:=h
 exact ⟨g k,sb.aU f g,Et hg h1,by rw [SB.fK];exact h3,rfl⟩
theorem QM {ρ:Env} {ν:Nat→Addr} {w:World} {H hp hq:List SB} {f g f' g':Nat→Nat} (h:aN ρ ν H w) (hg:(List.range hp.length).map (fun j=>H[g j]?)=hp.map fun sb=>some (sb.aU f g)) (hg':(List.range hq.length).map (fun j=>H[g' j]?)=hq.map fun sb=>some (sb.aU f' g'))
  (hn:∀i j,i<hp.length→j<hq.length→g i≠g' j) (ho:nV hp=true) {x:Nat} (h1:ed (ρ.pull f) (fun k=>ν (g k)) hp x) (h2:ed (ρ.pull f') (fun k=>ν (g' k)) hq x):False:=by
 obtain ⟨k,sb,a1,a3,rfl⟩:=h1
 obtain ⟨j,sc,b1,b3,he⟩:=h2
 refine hn k j (List.getElem?_eq_some_iff.1 a1).1 (List.getElem?_eq_some_iff.1 b1).1 ?_
 exact h.inj (g k) (g' j) _ _ (Et hg a1) (Et hg' b1) (by rw [SB.fK];exact a3) (by rw [SB.fK];exact b3) (qX ho a1 (SB.dO a3)).2 he
theorem aN.Eu {ρ:Env} {ν:Nat→Addr} {hp:List SB} {w w':World} (ha:nV hp=true) (h:aN ρ ν hp w) (hk:∀b,ed ρ ν hp b→w'.heap[b]?=w.heap[b]?):aN ρ ν hp w' :=
 h.frame ha fun b hb=>hk b (rC hb)
theorem kY.aI {z:Nat} {W:Nat→Prop} {ρ:Env} {ν:Nat→Addr} {hp:List SB} (ha:nV hp=true) (h:kY z W ρ ν hp) {b:Nat} (hb:ed ρ ν hp b):z≤b∨W b:=Vr h (QK ha hb)
end Go.Rex
namespace Go.Proofs.YthomdlajobnmnaaDoor
open Go.Rex
structure lU (w:World) (a:Addr) (p:PS) (B:Nat→Prop):Prop where
 ex:∃ρ ν,ν 0=a∧aN ρ ν iy w∧ag ρ (ρ.iv 0) (ρ.iv 1) 2=p∧bu ρ 2∧∀b,ed ρ ν iy b→B b
structure lV (w:World) (a:Addr) (m:Mn) (B:Nat→Prop):Prop where
 ex:∃ρ ν,ν 0=a∧aN ρ ν jA w∧eU ρ (ae ρ 0 4) 71=m∧bJ ρ 4∧∀b,ed ρ ν jA b→B b
structure qG (w:World) (iG:Nat→Addr):Prop where
 hp:∃ρ,aN ρ iG gz w
 gl:jq iG (gL zz 0)
theorem Ev:nV iy=true:=by kernel_rfl
theorem NZ:nV jA=true:=by kernel_rfl
section
variable {w w':World} {a:Addr} {p:PS} {m:Mn} {B B':Nat→Prop}
theorem lU.frame (h:lU w a p B) (hk:∀b,B b→w'.heap[b]?=w.heap[b]?):lU w' a p B:=by
 obtain ⟨ρ,ν,h1,h2,h3,h4,h5⟩:=h.ex
 exact ⟨ρ,ν,h1,h2.Eu Ev fun b hb=>hk b (h5 b hb),h3,h4,h5⟩
theorem lV.frame (h:lV w a m B) (hk:∀b,B b→w'.heap[b]?=w.heap[b]?):lV w' a m B:=by
 obtain ⟨ρ,ν,h1,h2,h3,h4,h5⟩:=h.ex
 exact ⟨ρ,ν,h1,h2.Eu NZ fun b hb=>hk b (h5 b hb),h3,h4,h5⟩
theorem lU.mono (h:lU w a p B) (hk:∀b,B b→b<w.heap.size→B' b):lU w a p B':=by
 obtain ⟨ρ,ν,h1,h2,h3,h4,h5⟩:=h.ex
 exact ⟨ρ,ν,h1,h2,h3,h4,fun b hb=>hk b (h5 b hb) (uq h2 hb)⟩
theorem lV.mono (h:lV w a m B) (hk:∀b,B b→b<w.heap.size→B' b):lV w a m B':=by
 obtain ⟨ρ,ν,h1,h2,h3,h4,h5⟩:=h.ex
 exact ⟨ρ,ν,h1,h2,h3,h4,fun b hb=>hk b (h5 b hb) (uq h2 hb)⟩
theorem qG.frame {iG:Nat→Addr} (h:qG w iG) (hz:w.heap.size≤w'.heap.size) (hk:∀k,k<8→w'.heap[(iG k).block]?=w.heap[(iG k).block]?):qG w' iG:=by
 obtain ⟨⟨ρ,h1⟩,h2⟩:=h
 exact ⟨⟨ρ,h1.EU hz fun k sb hk' _=>hk k (Nat.lt_of_lt_of_le (List.getElem?_eq_some_iff.1 hk').1 (by decide))⟩,h2⟩
end
def fM (i:Nat):Nat:=if i<4 then i+187 else i+92
def gM:Nat→Nat
 | 0=>8
 | 1=>9
 | k=>k+16
def fP:Nat→Nat
 | 0=>84
 | 1=>85
 | i=>i+174
def gP:Nat→Nat
 | 0=>13
 | 1=>14
 | 2=>15
 | k=>k+18
theorem Tq:(List.range jA.length).map (fun j=>jb.hp'[gM j]?)=jA.map fun sb=>some (sb.aU fM gM):=by kernel_rfl
theorem Tt:(List.range iy.length).map (fun j=>jb.hp'[gP j]?)=iy.map fun sb=>some (sb.aU fP gP):=by kernel_rfl
theorem Ya:∀i j,i<jA.length→j<jA.length→gM i=gM j→i=j:=by
 intro i j hi hj h
 replace hi:i<5:=hi
 replace hj:j<5:=hj
 match i,j,hi,hj,h with
 | 0,0,_,_,_=>rfl
 | 1,1,_,_,_=>rfl
 | i+2,j+2,_,_,h =>
  have h:i+2+16=j+2+16:=h
  omega
 | 0,1,_,_,h=>cases h
 | 1,0,_,_,h=>cases h
 | 0,j+2,_,_,h =>
  have h:8=j+2+16:=h
  omega
 | 1,j+2,_,_,h =>
  have h:9=j+2+16:=h
  omega
 | i+2,0,_,_,h =>
  have h:i+2+16=8:=h
  omega
 | i+2,1,_,_,h =>
  have h:i+2+16=9:=h
  omega
theorem Yb:∀i j,i<iy.length→j<iy.length→gP i=gP j→i=j:=by
 have:∀i,i<5→∀j,j<5→gP i=gP j→i=j:=by decide
 intro i j hi hj
 exact this i hi j hj
theorem gMP:∀i j,i<jA.length→j<iy.length→gM i≠gP j:=by
 have:∀i,i<5→∀j,j<5→gM i≠gP j:=by decide
 intro i j hi hj
 exact this i hi j hj
theorem V4 {w:World} {a aP:Addr} {m:Mn} {p:PS} {BM BP:Nat→Prop} {iG:Nat→Addr} (hs:qG w iG) (hm:lV w a m BM) (hp:lU w aP p BP) (hd:∀b,BM b→BP b→False) (hz:∀k,k<8→¬BM (iG k).block∧¬BP (iG k).block) (hpre:nH m p) :
  Calls Tryd.prog 22 #[.pointer (some a),.pointer (some aP)] w fun e w'=>e=.returned (.bool (m.step p).2.2)∧∃L6 L8,lV w' a (m.step p).1 L6∧lU w' aP (m.step p).2.1 L8∧(∀b,L6 b→L8 b→False)∧(∀b,L6 b∨L8 b→w.heap.size≤b∨BM b∨BP b)∧jh w (fun b=>BM b∨BP b) w':=by
 obtain ⟨UO,QN,rfl,hmh,rfl,hmo,hmb⟩:=hm.ex
 obtain ⟨dB,fG,rfl,QO,rfl,hpo,hpb⟩:=hp.ex
 obtain ⟨⟨GU,hsh⟩,hgl⟩:=hs
 have hsB:∀x,ed GU iG gz x→∃k,k<8∧x=(iG k).block:=by
  rintro x ⟨k,sb,h1,_,rfl⟩
  exact ⟨k,Nat.lt_of_lt_of_le (List.getElem?_eq_some_iff.1 h1).1 (by decide),rfl⟩
 have hSM:=aN.join (N:=0) hsh hmh (by kernel_rfl) fun x h1 h2=>by
  obtain ⟨k,hk,rfl⟩:=hsB x h1
  exact (hz k hk).1 (hmb _ h2)
 have CO:=aN.join (N:=84) hSM QO (by kernel_rfl) fun x h1 h2=>by
  rcases (NY (by kernel_rfl)).1 h1 with h1 | h1
  ·obtain ⟨k,hk,rfl⟩:=hsB x h1
   exact (hz k hk).2 (hpb _ h2)
  ·exact hd x (hmb _ h1) (hpb _ h2)
 have eL:jb.hp=(gz ++ jA.map (SB.aU (0+·) (gz.length+·))) ++ iy.map (SB.aU (84+·) ((gz ++ jA.map (SB.aU (0+·) (gz.length+·))).length+·)):=by kernel_rfl
 rw [←eL] at CO
 have uw:∀x,kM ((GU.cat 0 UO).cat 84 dB) (iJ (gz ++ jA.map (SB.aU (0+·) (gz.length+·))).length (iJ gz.length iG QN) fG) jb.hp x→BM x∨BP x:=by
  intro x hx
  rw [eL] at hx
  rcases zS (by kernel_rfl) hx with hb | hb
  ·rcases zS (by kernel_rfl) hb with hb | hb
   ·exact (qF (by kernel_rfl) hb).elim
   ·exact .inl (hmb _ (rC hb))
  ·exact .inr (hpb _ (rC hb))
 obtain ⟨ρ,hρ⟩:∃ρ,ρ=(GU.cat 0 UO).cat 84 dB:=⟨_,rfl⟩
 obtain ⟨ν,kV⟩:∃ν,ν=iJ (gz ++ jA.map (SB.aU (0+·) (gz.length+·))).length (iJ gz.length iG QN) fG:=⟨_,rfl⟩
 have e8:ν 8=QN 0:=by rw [kV];rfl
 have e13:ν 13=fG 0:=by rw [kV];rfl
 have eM:M0 ρ=eU UO (ae UO 0 4) 71:=by rw [hρ];rfl
 have eP:P0 ρ=ag dB (dB.iv 0) (dB.iv 1) 2:=by rw [hρ];rfl
 have hG:jq ν jb.gl:=by
  refine jq.ext (nv:=0) (n:=8) (ρ:=GU) (ρ':=ρ) (ν:=iG) ⟨fun i h=>absurd h (Nat.not_lt_zero _),fun i h=>absurd h (Nat.not_lt_zero _),fun i h=>absurd h (Nat.not_lt_zero _),fun i h=>absurd h (Nat.not_lt_zero _),fun i h=>absurd h (Nat.not_lt_zero _),fun i h=>absurd h (Nat.not_lt_zero _),fun i h=>?_⟩ (by kernel_rfl) hgl
  rw [kV,nC _ _ _ (Nat.lt_of_lt_of_le h (by decide)),nC _ _ _ (Nat.lt_of_lt_of_le h (by decide))]
 have UQ:bJ ρ 4∧bu ρ 86:=by
  rw [hρ]
  exact ⟨hmo,hpo⟩
 rw [←hρ,←kV] at CO uw
 rw [←eM,←eP] at hpre ⊢
 have hrun:=QJ.run ρ ν w CO hG ⟨UQ.1,UQ.2,hpre⟩
 rw [show (jb.args.map (·.den ρ ν)).toArray=#[.pointer (some (QN 0)),.pointer (some (fG 0))] by rw [←e8,←e13];rfl] at hrun
 refine hrun.mono ?_
 rintro ev w' ⟨ρ',aQ,hA,rfl,jf,hwr,how,q1,q2,q3⟩
 have eM':M0 ρ'=M0 ρ:=by
  unfold M0 eU ae jX ay aL av dZ aV ig bO
  simp (disch:=decide) only [hA.iv,hA.bv,hA.ic,hA.bc]
 have Yc:P0 ρ'=P0 ρ:=by
  unfold P0 ag
  simp (disch:=decide) only [hA.iv,hA.bv,hA.ic,hA.bc]
 replace q3:(eU ρ' (ae ρ' 187 96) 163,ag ρ' (ρ'.iv 84) (ρ'.iv 85) 176,ρ'.bv 186)=(M0 ρ').step (P0 ρ'):=q3
 rw [eM',Yc] at q3
 rw [←q3]
 refine ⟨rfl,ed (ρ'.pull fM) (fun k=>aQ (gM k)) jA,ed (ρ'.pull fP) (fun k=>aQ (gP k)) iy,⟨ρ'.pull fM,fun k=>aQ (gM k),?_,jf.sub Tq Ya,rfl,q1,fun _ h=>h⟩,⟨ρ'.pull fP,fun k=>aQ (gP k),?_,jf.sub Tt Yb,rfl,q2,fun _ h=>h⟩,fun b h1 h2=>QM jf Tq Tt gMP NZ h1 h2,?_,?_⟩
 ·show aQ 8=QN 0
  rw [hA.bl 8 (by decide),e8]
 ·show aQ 13=fG 0
  rw [hA.bl 13 (by decide),e13]
 ·rintro b (h | h)
  ·exact ((how.sub Tq).aI NZ h).imp id (uw b)
  ·exact ((how.sub Tt).aI Ev h).imp id (uw b)
 ·exact ⟨hwr.os,hwr.tape,hwr.output,hwr.size,fun k hk hn=>hwr.block k hk fun h=>hn (uw k h)⟩
end Go.Proofs.YthomdlajobnmnaaDoor
namespace Go.Proofs.YthomdlajobnmnaaDoor
open Go.Rex
structure mq (w:World) (aP:Addr) (aM:Nat→Addr) (n:Nat) (p:PS) (M:Nat→Mn) (F:Nat→Prop):Prop where
 ex:∃(BP:Nat→Prop) (BM:Nat→Nat→Prop),lU w aP p BP∧(∀k,k<n→lV w (aM k) (M k) (BM k))∧(∀k,k<n→∀b,BM k b→BP b→False)∧(∀j k,j<n→k<n→j≠k→∀b,BM j b→BM k b→False)∧(∀b,BP b→F b)∧∀k,k<n→∀b,BM k b→F b
section
variable {w w':World} {aP:Addr} {aM:Nat→Addr} {n k:Nat} {p:PS} {M:Nat→Mn} {F F':Nat→Prop}
theorem mq.mono (h:mq w aP aM n p M F) (hF:∀b,F b→b<w.heap.size→F' b):mq w aP aM n p M F':=by
 obtain ⟨BP,BM,h1,h2,h3,h4,h5,h6⟩:=h.ex
 exact ⟨fun b=>BP b∧b<w.heap.size,fun k b=>BM k b∧b<w.heap.size,h1.mono fun b hb hl=>⟨hb,hl⟩,fun k hk=>(h2 k hk).mono fun b hb hl=>⟨hb,hl⟩,fun k hk b x y=>h3 k hk b x.1 y.1,fun j k hj hk hn b x y=>h4 j k hj hk hn b x.1 y.1,fun b hb=>hF b (h5 b hb.1) hb.2,fun k hk b hb=>hF b (h6 k hk b hb.1) hb.2⟩
theorem mq.frame (h:mq w aP aM n p M F) (hk:∀b,b<w.heap.size→F b→w'.heap[b]?=w.heap[b]?):mq w' aP aM n p M F:=by
 obtain ⟨BP,BM,h1,h2,h3,h4,h5,h6⟩:=(h.mono (F':=fun b=>F b∧b<w.heap.size) fun b x y=>⟨x,y⟩).ex
 exact ⟨BP,BM,h1.frame fun b hb=>hk b (h5 b hb).2 (h5 b hb).1,fun k hn=>(h2 k hn).frame fun b hb=>hk b (h6 k hn b hb).2 (h6 k hn b hb).1,h3,h4,fun b hb=>(h5 b hb).1,fun k hk b hb=>(h6 k hk b hb).1⟩
theorem mq.step {iG:Nat→Addr} (h:mq w aP aM n p M F) (hk:k<n) (hs:qG w iG) (hz:∀j,j<8→¬F (iG j).block) (hpre:nH (M k) p) :
  Calls Tryd.prog 22 #[.pointer (some (aM k)),.pointer (some aP)] w fun e w'=>e=.returned (.bool ((M k).step p).2.2)∧mq w' aP aM n ((M k).step p).2.1 (bK M k ((M k).step p).1) (fun b=>F b∨w.heap.size≤b)∧jh w F w':=by
 obtain ⟨BP,BM,h1,h2,h3,h4,h5,h6⟩:=(h.mono (F':=fun b=>F b∧b<w.heap.size) fun b x y=>⟨x,y⟩).ex
 refine (V4 hs (h2 k hk) h1 (h3 k hk) (fun j hj=>⟨fun x=>hz j hj (h6 k hk _ x).1,fun x=>hz j hj (h5 _ x).1⟩) hpre).mono ?_
 rintro e w' ⟨rfl,L6,L8,g1,g2,g3,g4,g5⟩
 have hkeep:∀b,b<w.heap.size→¬BM k b→¬BP b→w'.heap[b]?=w.heap[b]?:=fun b hb x y=>g5.block b hb fun z=>z.elim x y
 have hnew:∀b,L6 b∨L8 b→∀j,j<n→j≠k→BM j b→False:=fun b hb j hj hjk hbj=>by
  rcases g4 b hb with x | x | x
  ·exact absurd (h6 j hj b hbj).2 (Nat.not_lt.2 x)
  ·exact h4 j k hj hk hjk b hbj x
  ·exact h3 j hj b hbj x
 refine ⟨rfl,⟨L8,bK BM k L6,g2,fun j hj=>?_,fun j hj b=>?_,fun i j hi hj hij b=>?_,fun b hb=>?_,fun j hj b=>?_⟩,⟨g5.os,g5.tape,g5.output,g5.size,fun b hb hn=>hkeep b hb (fun x=>hn (h6 k hk b x).1) fun x=>hn (h5 b x).1⟩⟩
 ·by_cases hjk:j=k
  ·rw [hjk,aK,aK]
   exact g1
  ·rw [bD _ _ hjk,bD _ _ hjk]
   exact (h2 j hj).frame fun b hb=>hkeep b (h6 j hj b hb).2 (fun x=>h4 j k hj hk hjk b hb x) fun x=>h3 j hj b hb x
 ·by_cases hjk:j=k
  ·rw [hjk,aK]
   exact g3 b
  ·rw [bD _ _ hjk]
   exact fun x y=>hnew b (.inr y) j hj hjk x
 ·by_cases q1:i=k
  ·have q2:j≠k:=fun e=>hij (q1.trans e.symm)
   rw [q1,aK,bD _ _ q2]
   exact fun x y=>hnew b (.inl x) j hj q2 y
  ·rw [bD _ _ q1]
   by_cases q2:j=k
   ·rw [q2,aK]
    exact fun x y=>hnew b (.inl y) i hi q1 x
   ·rw [bD _ _ q2]
    exact h4 i j hi hj hij b
 ·rcases g4 b (.inr hb) with x | x | x
  ·exact .inr x
  ·exact .inl (h6 k hk b x).1
  ·exact .inl (h5 b x).1
 ·by_cases hjk:j=k
  ·rw [hjk,aK]
   intro hb
   rcases g4 b (.inl hb) with x | x | x
   ·exact .inr x
   ·exact .inl (h6 k hk b x).1
   ·exact .inl (h5 b x).1
  ·rw [bD _ _ hjk]
   exact fun hb=>.inl (h6 j hj b hb).1
end
end Go.Proofs.YthomdlajobnmnaaDoor
namespace Go.Proofs.YthomdlajobnmnaaDoor
open Go.Rex
abbrev Nw (w w':World):Prop:=jh w (fun _=>False) w'
theorem Ew {ρ:Env} {ν:Nat→Addr} {w:World}:aN ρ ν [] w:=⟨fun i j a b h=>by simp at h,fun k sb h=>by simp at h,fun k sb h=>by simp at h⟩
def L9 (f:Nat→Int):Env:=⟨f,fun _=>false,fun _=>undef,fun _ _ _ _=>0,fun _ _ _ _=>false,fun _ _ _ _=>undef⟩
def fN:Nat→Nat
 | 0=>1
 | 1=>0
 | i=>i
theorem Yd:(List.range iy.length).map (fun j=>wz.hp'[j]?)=iy.map fun sb=>some (sb.aU fN fun k=>k):=by kernel_rfl
theorem N7 (m:Int) (h:0≤m∧m≤1024) (w:World) :
  Calls Tryd.prog 13 #[.int .i64 m,.int .i64 85] w fun e w'=>∃aP p B,e=.returned (.tuple #[.pointer (some aP),.nilIface])∧lU w' aP p B∧sj p 85 m∧(∀b,B b→w.heap.size≤b)∧Nw w w':=by
 have hrun:=VV.run (L9 fun i=>if i=0 then m else 85) (fun _=>⟨0,0,none⟩) w Ew ⟨fun g k _ h=>(by cases h),fun g g' k k' _ _ h=>(by cases h)⟩ ⟨h,by show (0:Int)≤85∧(85:Int)≤200;decide⟩
 refine Calls.mono hrun ?_
 rintro e w' ⟨ρ,ν,hA,rfl,jf,hwr,how,q1,q2⟩
 have e0:ρ.iv 0=m:=(hA.iv 0 (by decide)).trans rfl
 have e1:ρ.iv 1=85:=(hA.iv 1 (by decide)).trans rfl
 have hn:∀b,¬kM (L9 fun i=>if i=0 then m else 85) (fun _=>(⟨0,0,none⟩:Addr)) wz.hp b:=fun b ⟨k,sb,hk,_⟩=>by
  have hk:([]:List SB)[k]?=some sb:=hk
  simp at hk
 obtain ⟨p,h1,h2⟩:=q2
 replace h1:ag ρ (ρ.iv 1) (ρ.iv 0) 2=p:=h1
 refine ⟨ν 0,p,ed (ρ.pull fN) ν iy,rfl,⟨ρ.pull fN,ν,rfl,jf.sub Yd fun i j _ _ h=>h,h1,q1,fun _ h=>h⟩,?_,fun b hb=>?_,⟨hwr.os,hwr.tape,hwr.output,hwr.size,fun k hk _=>hwr.block k hk (hn k)⟩⟩
 ·obtain ⟨a1,a2,a3,a4,a5,a6,a7,a8,a9,a10,a11⟩:=h2
  exact ⟨a1.trans e1,a2.trans e0,a3.trans e0,a4,a5,a6,a7,a8,a9,a10,fun i hi=>(a11 i (by show (i:Int)<ρ.iv 0;rw [e0];exact hi)).trans (by show ρ.iv 0-i=m-i;rw [e0])⟩
 ·rcases (how.sub Yd).aI Ev hb with h | h
  ·exact h
  ·exact absurd h (hn b)
def N8 (a:Ac):Value:=.agg #[.int .i64 a.kind,.int .i64 a.slot,.int .i64 a.gen,.int .i64 a.field,.int .i64 a.old.slot,.int .i64 a.old.gen,.int .i64 a.old.tag,.int .i64 a.old.num,.bool a.old.mark,.int .i64 a.new.slot,.int .i64 a.new.gen,.int .i64 a.new.tag,.int .i64 a.new.num,.bool a.new.mark]
def UR (w:Wd):Value:=.agg #[.int .i64 w.slot,.int .i64 w.gen,.int .i64 w.tag,.int .i64 w.num,.bool w.mark]
def YI (x:Rp):Value:=.agg #[.int .i64 x.word.slot,.int .i64 x.word.gen,.int .i64 x.word.tag,.int .i64 x.word.num,.bool x.word.mark,.bool x.ok]
def Ie (a:Ac):Env where
 iv:=fun i=>([a.kind,a.slot,a.gen,a.field,a.old.slot,a.old.gen,a.old.tag,a.old.num,0,a.new.slot,a.new.gen,a.new.tag,a.new.num,0]:List Int).getD i 0
 bv:=fun i=>if i=8 then a.old.mark else a.new.mark
 vv:=fun _=>undef
 ic:=fun _ _ _ _=>0
 bc:=fun _ _ _ _=>false
 vc:=fun _ _ _ _=>undef
def fD:Nat→Nat
 | 0=>14
 | 1=>15
 | i=>i+31
def gD:Nat→Nat
 | 0=>8
 | 1=>9
 | 2=>10
 | k=>k+10
theorem Ye:(List.range iy.length).map (fun j=>nz.hp'[gD j]?)=iy.map fun sb=>some (sb.aU fD gD):=by kernel_rfl
theorem Yf:∀i j,i<iy.length→j<iy.length→gD i=gD j→i=j:=by
 have:∀i,i<5→∀j,j<5→gD i=gD j→i=j:=by decide
 intro i j hi hj
 exact this i hi j hj
theorem YJ {w:World} {aP:Addr} {p p':PS} {B:Nat→Prop} {iG:Nat→Addr} {a:Ac} {x:Rp} (hs:qG w iG) (hp:lU w aP p B) (hz:∀k,k<8→¬B (iG k).block) (hok:p.OK) (hst:p.steps≤1000000) (hx:p.act a=(p',some x)) :
  Calls Tryd.prog 14 #[.pointer (some aP),N8 a] w fun e w'=>e=.returned (.tuple #[YI x,.nilIface])∧∃B',lU w' aP p' B'∧(∀b,B' b→w.heap.size≤b∨B b)∧jh w B w':=by
 obtain ⟨dB,fG,rfl,QO,rfl,hpo,hpb⟩:=hp.ex
 obtain ⟨⟨GU,hsh⟩,hgl⟩:=hs
 have hsB:∀x,ed (Ie a) iG gz x→∃k,k<8∧x=(iG k).block:=by
  rintro x ⟨k,sb,h1,_,rfl⟩
  exact ⟨k,Nat.lt_of_lt_of_le (List.getElem?_eq_some_iff.1 h1).1 (by decide),rfl⟩
 have hsh':aN (Ie a) iG gz w:=aN.ext (nv:=0) (n:=8) ⟨fun i h=>absurd h (Nat.not_lt_zero _),fun i h=>absurd h (Nat.not_lt_zero _),fun i h=>absurd h (Nat.not_lt_zero _),fun i h=>absurd h (Nat.not_lt_zero _),fun i h=>absurd h (Nat.not_lt_zero _),fun i h=>absurd h (Nat.not_lt_zero _),fun i h=>rfl⟩ (by kernel_rfl) (by decide) hsh
 have CO:=aN.join (N:=14) hsh' QO (by kernel_rfl) fun x h1 h2=>by
  obtain ⟨k,hk,rfl⟩:=hsB x h1
  exact hz k hk (hpb _ h2)
 have eL:nz.hp=gz ++ iy.map (SB.aU (14+·) (gz.length+·)):=by kernel_rfl
 rw [←eL] at CO
 have uw:∀x,kM ((Ie a).cat 14 dB) (iJ gz.length iG fG) nz.hp x→B x:=by
  intro x hx
  rw [eL] at hx
  rcases zS (by kernel_rfl) hx with hb | hb
  ·exact (qF (by kernel_rfl) hb).elim
  ·exact hpb _ (rC hb)
 obtain ⟨ρ,hρ⟩:∃ρ,ρ=(Ie a).cat 14 dB:=⟨_,rfl⟩
 obtain ⟨ν,kV⟩:∃ν,ν=iJ gz.length iG fG:=⟨_,rfl⟩
 have e8:ν 8=fG 0:=by rw [kV];rfl
 have eP:ag ρ (ρ.iv 14) (ρ.iv 15) 16=ag dB (dB.iv 0) (dB.iv 1) 2:=by rw [hρ];rfl
 have eA:ay ρ 0=a:=by rw [hρ];rfl
 have hG:jq ν nz.gl:=by
  refine jq.ext (nv:=0) (n:=8) (ρ:=GU) (ρ':=ρ) (ν:=iG) ⟨fun i h=>absurd h (Nat.not_lt_zero _),fun i h=>absurd h (Nat.not_lt_zero _),fun i h=>absurd h (Nat.not_lt_zero _),fun i h=>absurd h (Nat.not_lt_zero _),fun i h=>absurd h (Nat.not_lt_zero _),fun i h=>absurd h (Nat.not_lt_zero _),fun i h=>?_⟩ (by kernel_rfl) hgl
  rw [kV,nC _ _ _ (Nat.lt_of_lt_of_le h (by decide))]
 have UQ:bu ρ 16:=by
  rw [hρ]
  exact hpo
 have hargs:(nz.args.map (·.den ρ ν)).toArray=#[.pointer (some (fG 0)),N8 a]:=by
  rw [←e8,←eA]
  rfl
 rw [←hρ,←kV] at CO uw
 rw [←eP] at hok hst hx
 have hrun:=Pm.run ρ ν w CO hG ⟨UQ,hok,hst⟩
 rw [hargs] at hrun
 refine Calls.mono hrun ?_
 rintro ev w' ⟨ρ',aQ,hA,rfl,jf,hwr,how,q1,q2,q3⟩
 have Yc:ag ρ' (ρ'.iv 14) (ρ'.iv 15) 16=ag ρ (ρ.iv 14) (ρ.iv 15) 16:=by
  unfold ag
  simp (disch:=decide) only [hA.iv,hA.bv,hA.ic,hA.bc]
 have eA':ay ρ' 0=a:=by
  rw [←eA]
  unfold ay av
  simp (disch:=decide) only [hA.iv,hA.bv]
 replace q2:(ag ρ' (ρ'.iv 14) (ρ'.iv 15) 16).act (ay ρ' 0)=(ag ρ' (ρ'.iv 14) (ρ'.iv 15) 33,if ρ'.bv 32=true then some (aL ρ' 26) else none):=q2
 rw [Yc,eA',hx] at q2
 have hb:ρ'.bv 32=true:=by
  cases h:ρ'.bv 32 with
  | true=>rfl
  | false=>rw [h] at q2;cases q2
 rw [hb,if_pos rfl,Prod.mk.injEq,Option.some.injEq] at q2
 obtain ⟨rfl,rfl⟩:=q2
 refine ⟨?_,ed (ρ'.pull fD) (fun k=>aQ (gD k)) iy,⟨ρ'.pull fD,fun k=>aQ (gD k),?_,jf.sub Ye Yf,rfl,q1,fun _ h=>h⟩,fun b h=>((how.sub Ye).aI Ev h).imp id (uw b),hwr.os,hwr.tape,hwr.output,hwr.size,fun k hk hn=>hwr.block k hk fun h=>hn (uw k h)⟩
 ·show Ending.returned (.tuple #[_,if ρ'.bv 32=true then _ else _])=_
  rw [hb]
  rfl
 ·show aQ 8=fG 0
  rw [hA.bl 8 (by decide),e8]
def dC:List SB:=zA 0 4 0
theorem Ig:nV dC=true:=by kernel_rfl
def Zk (E M T N:Int):Env:=L9 fun i=>([E,M,T,N]:List Int).getD i 0
theorem N9 (E M T N:Int) (h1:1≤E∧E≤5) (h2:0≤M∧M<T) (h3:1≤T∧T≤6) (h4:1≤N∧N≤64) (w:World) :
  Calls Tryd.prog 30 #[.int .i64 E,.int .i64 M,.int .i64 T,.int .i64 N] w fun e w'=>∃ρ ν,e=.returned (.tuple #[.pointer (some (ν 0)),.nilIface])∧(aN ρ ν dC w'∧ae ρ 0 4=RS.new E M T N∧bJ ρ 4∧∀b,ed ρ ν dC b→w.heap.size≤b)∧Nw w w':=by
 have hrun:=SE.run (Zk E M T N) (fun _=>⟨0,0,none⟩) w Ew ⟨fun g k _ h=>(by cases h),fun g g' k k' _ _ h=>(by cases h)⟩ ⟨h1,h2,h3,h4.1,h4.2⟩
 refine Calls.mono hrun ?_
 rintro e w' ⟨ρ,ν,hA,rfl,jf,hwr,how,q1,q2⟩
 have hn:∀b,¬kM (Zk E M T N) (fun _=>(⟨0,0,none⟩:Addr)) oL.hp b:=fun b ⟨k,sb,hk,_⟩=>by
  have hk:([]:List SB)[k]?=some sb:=hk
  simp at hk
 refine ⟨ρ,ν,rfl,⟨jf,Eq.trans q2 ?_,q1,fun b hb=>(how.aI Ig hb).elim id fun h=>absurd h (hn b)⟩,hwr.os,hwr.tape,hwr.output,hwr.size,fun k hk _=>hwr.block k hk (hn k)⟩
 show RS.new (ρ.iv 0) (ρ.iv 1) (ρ.iv 2) (ρ.iv 3)=_
 rw [hA.iv 0 (by decide),hA.iv 1 (by decide),hA.iv 2 (by decide),hA.iv 3 (by decide)]
 rfl
theorem oJ {ρ:Env} {ν:Nat→Addr} {sb:SB} (h1:sb.bf=[]) (h2:sb.ups=[]) (h3:sb.cap=none):sb.has ρ ν (sb.cs.map (·.den ρ ν)).toArray:=by
 refine ⟨fun u hu=>?_,fun _ _=>by simp,fun e n h=>?_,fun p c hp hh=>?_,fun gi g hg=>?_⟩
 ·rw [h2] at hu;cases hu
 ·rw [h3] at h;cases h
 ·simp [hp]
 ·rw [h1] at hg;simp at hg
def Tu:Env:=L9 fun _=>0
theorem V5 {w:World} {ρ:Env} {ν:Nat→Addr} {b:Nat} {r:RS} (h:aN ρ ν dC w) (hr:ae ρ 0 4=r) (ho:bJ ρ 4) (hn:¬ed ρ ν dC b)
  (hb:w.heap[b]?=some (.cells #[.pointer (some (ν 0)),.int .i64 0,.int .i64 0,.int .i64 0,.int .i64 0,.int .i64 0,.bool false,.int .i64 0,.int .i64 0,.int .i64 0,.int .i64 0,.bool false,.bool false,.bool false] 60 (0,0))) :
  lV w ⟨b,0,none⟩ ⟨r,0,Wd.zero,Wd.zero,false,false⟩ fun x=>x=b∨ed ρ ν dC x:=by
 have hA:dM 71 4 ρ (ρ.cat 71 Tu) ν ν:=⟨fun _ h=>if_pos h,fun _ h=>if_pos h,fun _ h=>if_pos h,fun _ h=>if_pos h,fun _ h=>if_pos h,fun _ h=>if_pos h,fun _ _=>rfl⟩
 have hsc:nM 71 4 dC=true:=by kernel_rfl
 obtain ⟨q,hq⟩:∃q,q=ρ.cat 71 Tu:=⟨_,rfl⟩
 rw [←hq] at hA
 have hh:aN q ν dC w:=h.ext hA hsc (by decide)
 have e1:(fun k=>iJ 1 (fun _=>(⟨b,0,none⟩:Addr)) ν (1+k))=ν:=funext fun k=>j6 ..
 have hone:aN q (iJ 1 (fun _=>(⟨b,0,none⟩:Addr)) ν) [tV 71 1] w:=by
  refine ⟨fun i j x y hi hj _ _ _ _=>?_,fun k sb hk _ _=>?_,fun k sb hk _ hr=>?_⟩
  ·have:=(List.getElem?_eq_some_iff.1 hi).1
   have:=(List.getElem?_eq_some_iff.1 hj).1
   simp at *
   omega
  ·match k,hk with
   | 0,hk =>
    simp at hk
    subst hk
    refine ⟨rfl,_,?_,oJ rfl rfl rfl⟩
    rw [show ((iJ 1 (fun _=>(⟨b,0,none⟩:Addr)) ν) 0).block=b from rfl,hb,hq]
    exact fe.kH rfl
   | k+1,hk=>simp at hk
  ·match k,hk with
   | 0,hk=>simp at hk;subst hk;cases hr
   | k+1,hk=>simp at hk
 have hall:=hone.app (f:=id) (hq:=dC) (by rw [show q.pull id=q from rfl,show (fun k=>iJ 1 (fun _=>(⟨b,0,none⟩:Addr)) ν (([tV 71 1]:List SB).length+k))=ν from e1];exact hh) fun i j x y hi hj _ dy _ he=>by
  match i,hi with
  | 0,hi =>
   have e2:iJ 1 (fun _=>(⟨b,0,none⟩:Addr)) ν (1+j)=ν j:=j6 ..
   have he:b=(iJ 1 (fun _=>(⟨b,0,none⟩:Addr)) ν (1+j)).block:=he
   rw [e2] at he
   exact hn ((uX hA hsc (by decide)).1 ⟨j,y,hj,dy,he⟩)
  | i+1,hi=>simp at hi
 have eL:jA=[tV 71 1] ++ dC.map (SB.aU id (([tV 71 1]:List SB).length+·)):=by kernel_rfl
 rw [←eL] at hall
 refine ⟨q,_,rfl,hall,?_,?_,fun x hx=>?_⟩
 ·rw [←hr,hq]
  rfl
 ·rw [hq]
  exact ho
 ·obtain ⟨k,sb,h1,h2,rfl⟩:=hx
  match k,h1 with
  | 0,_=>exact .inl rfl
  | k+1,h1 =>
   have e2:iJ 1 (fun _=>(⟨b,0,none⟩:Addr)) ν (k+1)=ν k:=by rw [Nat.add_comm];exact j6 ..
   rw [eL] at h1
   rw [List.getElem?_append_right (by simp)] at h1
   simp only [List.length_singleton,Nat.add_sub_cancel,List.getElem?_map,Option.map_eq_some_iff] at h1
   obtain ⟨sc,rJ,rfl⟩:=h1
   rw [SB.fK] at h2
   rw [e2]
   exact .inr ((uX hA hsc (by decide)).1 ⟨k,sc,rJ,h2,rfl⟩)
end Go.Proofs.YthomdlajobnmnaaDoor
namespace Go.Proofs.YthomdlajobnmnaaDoor
open Go.Rex
section
variable {k:Int} {h:Th} {p:PS}
theorem UT (h0:0≤k):∀(j:Nat) {h:Th},h.wb k→(h.go j).1.wb k∧(h.go j).1.l.freed=h.l.freed
 | 0,h,H=>⟨H,rfl⟩
 | j+1,h,H=>by
  by_cases hz:h.t.bg=0
  ·obtain ⟨x,hx⟩:=RT.jo hz
   rw [Th.qB hx]
   by_cases hs:h.stop=true∧h.pc=0
   ·rw [if_pos hs];exact ⟨H,rfl⟩
   ·rw [if_neg hs]
    have hwx:Wb k x.word:=by
     have:=H.t
     rw [hx] at this
     exact this
    obtain ⟨a,b⟩:=UT h0 j (H.dF h0 hwx)
    exact ⟨a,b.trans (h.GQ x)⟩
  ·rw [Th.nE hz];exact ⟨H,rfl⟩
theorem V6 (h0:0≤k) (H:h.wb k) (hp:p.wb k) (hok:p.OK) (hs:p.steps≤k):(h.step p).1.wb (k+1)∧(h.step p).2.1.wb (k+1)∧h.l.freed≤(h.step p).1.l.freed∧(h.step p).1.l.freed≤h.l.freed+1:=by
 obtain ⟨a,b⟩:=UT h0 12 H
 unfold Th.step
 generalize h.go 12=g at a b
 obtain ⟨g1,g2⟩:=g
 simp only at a b
 rw [←b]
 cases g2 with
 | some c=>exact ⟨a.mono h0 (by omega),hp.mono (by omega),Int.le_refl _,by show g1.l.freed≤g1.l.freed+1;omega⟩
 | none =>
  simp only
  by_cases hz:g1.t.bg=0
  ·rw [if_pos hz]
   exact ⟨a.mono h0 (by omega),hp.mono (by omega),Int.le_refl _,by show g1.l.freed≤g1.l.freed+1;omega⟩
  ·rw [if_neg hz]
   have hac:=hp.act h0 hok hs (QA h0 a.t a.l)
   cases hh:p.act (g1.t.acc g1.l) with
   | mk p' xo =>
    rw [hh] at hac
    cases xo with
    | none=>exact ⟨a.mono h0 (by omega),hac.1,Int.le_refl _,by show g1.l.freed≤g1.l.freed+1;omega⟩
    | some x=>exact ⟨a.aJ h0 (hac.2 x rfl),hac.1,NW g1.l g1.t x⟩
end
structure Sys (k:Int) (n:Nat) (e:Int) (p:PS) (T:Nat→Th) (own:Int→gQ) (A:Nat→Int) (M:Nat→Mn):Prop where
 inv:Inv n e p T own A
 mt:∀i,i<n→MT (M i) (T i)
 wb:∀i,i<n→(T i).wb k
 fr:∀i,i<n→0≤(T i).l.freed∧(T i).l.freed≤k
 bad:∀i,i<n→(T i).bad=false
 pw:p.wb k
 st:p.steps≤k
 k0:0≤k
section
variable {n:Nat} {e k:Int} {p:PS} {T:Nat→Th} {own:Int→gQ} {A:Nat→Int} {i:Nat} {M:Nat→Mn}
theorem Sys.iA (S:Sys k n e p T own A M) (hi:i<n):Good k n e p T own A i (M i):=⟨S.inv,hi,S.mt i hi,S.wb i hi,S.fr i hi,S.pw,S.st,S.k0⟩
theorem Sys.step (S:Sys k n e p T own A M) (hi:i<n):((M i).step p).2.2=true∧((M i).step p).2.1=((T i).step p).2.1∧∃own' A',Sys (k+1) n e ((M i).step p).2.1 (bK T i ((T i).step p).1) own' A' (bK M i ((M i).step p).1):=by
 obtain ⟨own',A',hI,h1,h2,h3,h4,h5⟩:=S.inv.step hi (S.bad i hi)
 obtain ⟨m1,m2,m3⟩:=(S.mt i hi).step (p:=p) (S.iA hi).ok h3
 obtain ⟨w1,w2,w3,w4⟩:=V6 S.k0 (S.wb i hi) S.pw S.inv.ok S.st
 have hs:=S.st
 have h0:=S.k0
 refine ⟨m3.trans h1,m2,own',A',?_⟩
 rw [m2]
 refine ⟨hI,fun j hj=>?_,fun j hj=>?_,fun j hj=>?_,fun j hj=>?_,w2,by omega,by omega⟩
 all_goals
  by_cases hji:j=i
  ·rw [hji]
   simp only [aK]
   first
    | exact m1
    | exact w1
    | exact h2
    | (have:=S.fr i hi;omega)
  ·simp only [bD _ _ hji]
   first
    | exact S.mt j hj
    | exact (S.wb j hj).mono h0 (by omega)
    | exact S.bad j hj
    | (have:=S.fr j hj;omega)
theorem Sys.init {most:Int} (hok:p.OK) (hnb:p.nb=85) (hg:p.iA=true) (h6:1≤n∧n≤6) (h5:1≤e∧e≤5) (hm:1≤most) (hbd:∀k,k≠24→p.bd k=Wd.zero) (hck:p.bd 24=dW 1) (hu:∀k,p.used k=false) (hc:∀i j,p.cell i j=Wd.zero) (hs:p.steps≤1) :
  Sys 1 n e p (fun i=>Th.new e i n most) (fun _=>.free) (fun _=>1) (fun i=>Mn.new e i n most):=by
 have hz:Wb 1 Wd.zero:=Wb.zero (by decide)
 refine ⟨Inv.init hok hnb hg h6 h5 hm hbd hck hu,fun i _=>⟨⟨rfl,rfl,rfl,rfl,rfl,rfl,rfl,rfl,rfl,fun h=>absurd rfl h,rfl⟩,rfl,rfl,rfl,rfl,rfl⟩,fun i _=>⟨hz,hz,⟨fun _=>hz,by show -(2000 * 1+3000)≤(0:Int)∧(0:Int)≤2000 * 1+3000;decide,by show -(2000 * 1+3000)≤(0:Int)∧(0:Int)≤2000 * 1+3000;decide⟩,hz⟩,fun i _=>by show (0:Int)≤0∧(0:Int)≤1;decide,fun i _=>rfl,⟨fun i=>?_,fun i j=>by rw [hc];exact hz⟩,hs,by decide⟩
 by_cases h:i=24
 ·rw [h,hck]
  refine ⟨?_,?_,?_,?_⟩ <;> decide
 ·rw [hbd i h];exact hz
end
end Go.Proofs.YthomdlajobnmnaaDoor
