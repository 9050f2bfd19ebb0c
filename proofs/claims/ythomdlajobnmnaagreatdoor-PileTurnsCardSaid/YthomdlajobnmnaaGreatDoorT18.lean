/- part 18 of the proof -/
import Derived.Test.YthomdlajobnmnaaGreatDoorT10
import Derived.Test.YthomdlajobnmnaaGreatDoorT11
import Derived.Test.YthomdlajobnmnaaGreatDoorT12
import Derived.Test.YthomdlajobnmnaaGreatDoorT13
import Derived.Test.YthomdlajobnmnaaGreatDoorT15
import Derived.Test.YthomdlajobnmnaaGreatDoorT17
set_option linter.unusedSimpArgs false
set_option linter.unusedVariables false
namespace Go.Proofs.YthomdlajobnmnaaGreatDoor
open Go.Rex
def QJ:SC→Bool
 | .int _ (.lit 0)=>true
 | .bool (.lit false)=>true
 | .bg=>true
 | .hole=>true
 | _=>false
theorem Ym {ρ:Env} {c:SC} (h:QJ c=true):c.I ρ=0∧c.B ρ=false:=by
 unfold QJ at h
 split at h
 ·exact ⟨rfl,rfl⟩
 ·exact ⟨rfl,rfl⟩
 ·exact ⟨rfl,rfl⟩
 ·exact ⟨rfl,rfl⟩
 ·cases h
theorem GL {ρ:Env}:∀{cs:List SC},cs.all QJ=true→∀p,QJ (cs.getD p .hole)=true
 | [],_,p=>rfl
 | c :: r,h,p=>by
  simp only [List.all_cons,Bool.and_eq_true] at h
  cases p with
  | zero=>exact h.1
  | succ p=>exact GL (ρ:=ρ) h.2 p
theorem vg {ρ:Env} {cs:List SC} {lo p:Nat} (h:(cs.drop lo).all QJ=true) (hp:lo≤p):(cs.getD p .hole).I ρ=0∧(cs.getD p .hole).B ρ=false:=by
 have:=GL (ρ:=ρ) h (p-lo)
 rw [show (cs.drop lo).getD (p-lo) .hole=cs.getD p .hole by simp [List.getD_eq_getElem?_getD,List.getElem?_drop,show lo+(p-lo)=p by omega]] at this
 exact Ym this
def ZO:Kn:=[(.bR (.var 0) (.lit 1),false),(.bR (.lit 5) (.var 0),false),(.bR (.var 2) (.lit 1),false),(.bR (.lit 6) (.var 2),false),(.bR (.var 1) (.lit 0),false),(.aA (.var 2) (.var 1),false),(.bR (.var 3) (.lit 1),false),(.bR (.lit 64) (.var 3),false)]
noncomputable def Vh:Ex:={sched:=sched,loops:=[],fin:=nG}
def Fw:Out :=
 .fin {lo:=4,az:=0,iv:=[(65,.lit 0),(64,.lit 0),(63,.lit 0),(62,.lit 0),(61,.lit 0),(60,.lit 0),(59,.lit 0),(57,.lit 0),(56,.lit 0),(53,.lit 0),(52,.lit 0),(50,.lit 0),(49,.lit 0),(47,.lit 0),(45,.lit 0),(44,.lit 0),(43,.lit 0),(42,.lit 0),(40,.lit 0),(39,.lit 0),(38,.lit 0),(37,.lit 0),(35,.lit 0),(34,.lit 0),(33,.lit 0),(32,.lit 0),(30,.lit 0),(29,.lit 0),(28,.lit 0),(27,.lit 0),(26,.lit 0),(25,.lit 0),(24,.lit 0),(23,.lit 0),(22,.lit 0),(21,.lit 0),(20,.lit 0),(19,.lit 0),(18,.lit 0),(16,.lit 0),(15,.lit 0),(14,.lit 0),(13,.lit 0),(11,.lit 0),(10,.lit 0),(9,.lit 0),(8,.lit 0),(7,.lit 0),(6,.lit 0),(5,.lit 0),(4,.lit 0)],bv:=[(67,.lit false),(66,.lit false),(58,.lit true),(55,.lit false),(51,.lit true),(48,.lit true),(46,.lit false),(41,.lit false),(36,.lit false),(31,.lit false),(17,.lit false),(12,.lit false)],ct:=[(54,.ex [.int .i64 (.lit 0),.int .i64 (.lit 0),.int .i64 (.lit 0),.int .i64 (.lit 0),.int .i64 (.lit 0),.int .i64 (.lit 0),.int .i64 (.lit 0),.int .i64 (.lit 0),.bool (.lit false),.int .i64 (.lit 0),.int .i64 (.lit 0),.int .i64 (.lit 0),.int .i64 (.lit 0),.bool (.lit false),.int .i64 (.lit 0),.int .i64 (.lit 0),.int .i64 (.lit 0),.int .i64 (.lit 0),.int .i64 (.lit 0),.int .i64 (.lit 0),.int .i64 (.lit 0),.int .i64 (.lit 0),.int .i64 (.lit 0),.int .i64 (.lit 0),.int .i64 (.lit 0),.int .i64 (.lit 0),.int .i64 (.lit 0),.bool (.lit false),.int .i64 (.lit 0),.int .i64 (.lit 0),.int .i64 (.lit 0),.int .i64 (.lit 0),.bool (.lit false),.int .i64 (.lit 0),.int .i64 (.lit 0),.int .i64 (.lit 0),.int .i64 (.lit 0),.bool (.lit false),.int .i64 (.lit 0),.int .i64 (.lit 0),.int .i64 (.lit 0),.int .i64 (.lit 0),.bool (.lit false),.int .i64 (.lit 0),.bg,.bg,.int .i64 (.var 0),.int .i64 (.var 1),.int .i64 (.var 2),.int .i64 (.var 3),.int .i64 (.lit 0),.int .i64 (.lit 0),.int .i64 (.lit 0),.int .i64 (.lit 0),.bool (.lit false),.int .i64 (.lit 0),.int .i64 (.lit 0),.int .i64 (.lit 0),.int .i64 (.lit 0),.bool (.lit false),.int .i64 (.lit 0),.int .i64 (.lit 0),.int .i64 (.lit 0),.int .i64 (.lit 0),.bool (.lit false),.int .i64 (.lit 0),.int .i64 (.lit 0),.int .i64 (.lit 0),.int .i64 (.lit 0),.bool (.lit false),.int .i64 (.lit 0),.int .i64 (.lit 0),.int .i64 (.lit 0),.int .i64 (.lit 0),.bool (.lit false),.int .i64 (.lit 0),.int .i64 (.lit 0),.int .i64 (.lit 0),.int .i64 (.lit 0),.bool (.lit false),.int .i64 (.lit 0),.int .i64 (.lit 0),.int .i64 (.lit 0),.int .i64 (.lit 0),.bool (.lit false),.int .i64 (.lit 0),.int .i64 (.lit 0),.int .i64 (.lit 0),.int .i64 (.lit 0),.bool (.lit false),.int .i64 (.lit 0),.int .i64 (.lit 0),.int .i64 (.lit 0),.int .i64 (.lit 0),.bool (.lit false),.bool (.lit false),.int .i64 (.lit 0),.int .i64 (.lit 0),.bg,.int .i64 (.lit 0),.int .i64 (.lit 0),.int .i64 (.lit 0),.int .i64 (.lit 0),.int .i64 (.lit 0),.bool (.lit false),.bool (.lit false)] 5 0 50)],bk:=[(0,yb 0)],nb:=[3,2,1,3,2,1]}
theorem Tz:exec tab Vh 8000 [] (fB nG.f nG.nv ZO nG.gl nG.hp nG.args)=Fw:=by kernel_rfl
def Me (ρ:Env):Prop:=(1≤ρ.iv 0∧ρ.iv 0≤5)∧(0≤ρ.iv 1∧ρ.iv 1<ρ.iv 2)∧(1≤ρ.iv 2∧ρ.iv 2≤6)∧1≤ρ.iv 3∧ρ.iv 3≤64
def J5 (ρ:Env):Prop:=bE ρ 4∧aa ρ 0 4=RS.new (ρ.iv 0) (ρ.iv 1) (ρ.iv 2) (ρ.iv 3)
theorem TA (ρ:Env) (hpre:Me ρ.num):Sat J5 [] [] ρ Fw:=by
 unfold Fw
 have o1:=True.intro
 refine Sat.fin ⟨⟨aj rfl rfl,⟨aj rfl rfl,Int.le_refl 0,.inl rfl⟩,aj rfl rfl⟩,RS.ext' rfl rfl rfl rfl rfl rfl (Gx rfl) (nI rfl) rfl rfl rfl rfl (fun i=>?_) rfl (Gy rfl) rfl rfl⟩
 refine ou.2 ⟨?_,?_,?_,?_,?_⟩
 ·show ((_:List SC).getD (i * 5+0 * 0+50+0) .hole).I ρ=0
  exact (vg (lo:=50) (by rfl) (by omega)).1
 ·show ((_:List SC).getD (i * 5+0 * 0+50+1) .hole).I ρ=0
  exact (vg (lo:=50) (by rfl) (by omega)).1
 ·show ((_:List SC).getD (i * 5+0 * 0+50+2) .hole).I ρ=0
  exact (vg (lo:=50) (by rfl) (by omega)).1
 ·show ((_:List SC).getD (i * 5+0 * 0+50+3) .hole).I ρ=0
  exact (vg (lo:=50) (by rfl) (by omega)).1
 ·show ((_:List SC).getD (i * 5+0 * 0+50+4) .hole).B ρ=false
  exact (vg (lo:=50) (by rfl) (by omega)).2
theorem TB:bf Tryz.prog nG Me J5 :=
 dw dY (E:=Vh) (cs:=[]) rfl (fun k pre post h=>by cases h) bZ rfl Tz (by kernel_rfl) (fun ρ h p hp=>by
   obtain ⟨⟨a1,a2⟩,⟨b1,b2⟩,⟨c1,c2⟩,d1,d2⟩:=h
   simp only [ZO,List.mem_cons,List.not_mem_nil,or_false] at hp
   rcases hp with rfl | rfl | rfl | rfl | rfl | rfl | rfl | rfl
   · exact decide_eq_false (show ¬ρ.num.iv 0<1 by omega)
   · exact decide_eq_false (show ¬5<ρ.num.iv 0 by omega)
   · exact decide_eq_false (show ¬ρ.num.iv 2<1 by omega)
   · exact decide_eq_false (show ¬6<ρ.num.iv 2 by omega)
   · exact decide_eq_false (show ¬ρ.num.iv 1<0 by omega)
   · exact decide_eq_false (show ¬ρ.num.iv 2≤ρ.num.iv 1 by omega)
   · exact decide_eq_false (show ¬ρ.num.iv 3<1 by omega)
   · exact decide_eq_false (show ¬64<ρ.num.iv 3 by omega)) TA
def kG:dX:={mD 39 0 [] (.gZ [.agg (EY 138),.one (.bool (.var 152))]) with jc:=153}
def jK:dX:={mD 38 0 [] (.w (.agg (uT 138))) with jc:=144}
def ZP:Kn:=[(.aB (.var 22) (.lit 0),false)]
noncomputable def QK:Ex:={sched:=sched,loops:=[],fin:=kG}
def Cj:Out :=
 .fin {lo:=71,az:=4,iv:=yo [(137,yv 70)]<|yr 132 65 7<|yo [(124,yv 57),(123,yv 56),(120,yv 53),(119,yv 52),(136,yv 69),(117,yv 50),(116,yv 49),(114,yv 47)]<|yr 112 45 4<|yr 107 40 4<|yr 102 35 4<|yr 97 30 13<|yr 83 16 4<|yr 78 11 8<|yr 150 35 4<|yr 145 30 8 [],bv:=[(134,yw 67),(133,yw 66),(125,yw 58),(122,yw 55),(118,yw 51),(115,yw 48),(113,yw 46),(108,yw 41),(103,yw 36),(98,yw 31),(84,yw 17),(79,yw 12),(152,.lit true),(151,yw 36),(146,yw 31)],ct:=[(137,yu 70 59 7 yN 0),(136,yu 69 70 7 yN 0),(135,yu 68 49 5 yW 0),(121,yl 54 9 5 50 yW 0)],bk:=[(6,yc 3 7),(5,yc 2 7),(4,yc 1 5)]}
theorem QL:exec tab QK 8000 [] (fB kG.f kG.nv ZP kG.gl kG.hp kG.args)=Cj:=by kernel_rfl
def xe (ρ:Env):Prop:=bE ρ 4∧¬ρ.iv 22=0
def GM (ρ:Env):Prop:=bE ρ 71∧(ay ρ 138=(aa ρ 0 4).acc∧ρ.bv 152=true)∧aa ρ 0 71=aa ρ 0 4
theorem QM (ρ:Env) (hpre:xe ρ.num):Sat GM [] [] ρ Cj:=by
 replace hpre:xe ρ:=hpre
 obtain ⟨⟨o1,o2,o3⟩,hf⟩:=hpre
 unfold Cj
 exact Sat.fin ⟨⟨(by first | exact o1 | exact o2 | exact o3 | exact aj rfl rfl | assumption),(by first | exact o2 | exact ⟨aj rfl rfl,Int.le_refl 0,.inl rfl⟩ | assumption),(by first | exact o1 | exact o2 | exact o3 | exact aj rfl rfl | assumption)⟩,⟨rfl,rfl⟩,Eq.trans (b:=(aa ρ 0 4)) (RS.ext' rfl rfl rfl rfl rfl rfl bu bC rfl rfl rfl rfl bB rfl bz rfl rfl) (Eq.symm (rfl))⟩
theorem QN:bf Tryz.prog kG xe GM :=
 dw dY (E:=QK) (cs:=[]) rfl (fun k pre post h=>by cases h) bZ rfl QL (by kernel_rfl) (fun ρ h p hp=>by
   obtain ⟨-,h⟩:=h
   simp only [ZP,List.mem_cons,List.not_mem_nil,or_false] at hp
   subst hp
   exact beq_eq_false_iff_ne.2 h) QM
noncomputable def Mf:Ex:={sched:=sched,loops:=[],fin:=jK}
def zo:Out :=
 .fin {lo:=71,az:=4,iv:=yo [(137,yv 70)]<|yr 132 65 7<|yo [(124,yv 57),(123,yv 56),(120,yv 53),(119,yv 52),(136,yv 69),(117,yv 50),(116,yv 49),(114,yv 47)]<|yr 112 45 4<|yr 107 40 4<|yr 102 35 4<|yr 97 30 13<|yr 83 16 4<|yr 78 11 8<|yr 141 65 4 [],bv:=[(134,yw 67),(133,yw 66),(125,yw 58),(122,yw 55),(118,yw 51),(115,yw 48),(113,yw 46),(108,yw 41),(103,yw 36),(98,yw 31),(84,yw 17),(79,yw 12),(143,yw 67),(142,yw 66)],ct:=[(137,yu 70 59 7 yN 0),(136,yu 69 70 7 yN 0),(135,yu 68 49 5 yW 0),(121,yl 54 9 5 50 yW 0)],bk:=[(6,yc 3 7),(5,yc 2 7),(4,yc 1 5)]}
theorem N8:exec tab Mf 8000 [] (fB jK.f jK.nv [] jK.gl jK.hp jK.args)=zo:=by kernel_rfl
def tV (ρ:Env):Prop:=bE ρ 4
def Ef (ρ:Env):Prop:=bE ρ 71∧aH ρ 138=(aa ρ 0 4).bT∧aa ρ 0 71=aa ρ 0 4
theorem N9 (ρ:Env) (hpre:tV ρ.num):Sat Ef [] [] ρ zo:=by
 replace hpre:tV ρ:=hpre
 obtain ⟨o1,o2,o3⟩:=hpre
 unfold zo
 exact Sat.fin ⟨⟨(by first | exact o1 | exact o2 | exact o3 | exact aj rfl rfl | assumption),(by first | exact o2 | exact ⟨aj rfl rfl,Int.le_refl 0,.inl rfl⟩ | assumption),(by first | exact o1 | exact o2 | exact o3 | exact aj rfl rfl | assumption)⟩,rfl,Eq.trans (b:=(aa ρ 0 4)) (RS.ext' rfl rfl rfl rfl rfl rfl bu bC rfl rfl rfl rfl bB rfl bz rfl rfl) (Eq.symm (rfl))⟩
theorem Oa:bf Tryz.prog jK tV Ef :=
 dw dY (E:=Mf) (cs:=[]) rfl (fun k pre post h=>by cases h) bZ rfl N8 (by kernel_rfl) (fun ρ _ p hp=>by cases hp) N9
def Vi:Kn:=[(.bR (.var 0) (.lit 0),false),(.bR (.lit 1024) (.var 0),false),(.bR (.var 1) (.lit 0),false),(.bR (.lit 200) (.var 1),false)]
noncomputable def Yn:Ex:={sched:=sched,loops:=[L13],fin:=oo}
def J6:Out :=
 .alt
 (.ob (.aA (.lit 0) (.var 1)) <|
  .ob (.aA (.mul (.var 1) (.lit 40)) (.lit 281474976710656)) <|
  .ob (.aA (.var 1) (.lit 9223372036854775807)) <|
  .ob (.aA (.lit 0) (.var 0)) <|
  .ob (.aA (.mul (.var 0) (.lit 416)) (.lit 281474976710656)) <|
  .ob (.aA (.var 0) (.lit 9223372036854775807)) <|
  .loop 2 {lo:=2,az:=3,iv:=[(11,.lit 0),(10,.lit 0),(8,.lit 0),(7,.lit 0),(2,yv 0)],bv:=[(12,.lit true),(6,.lit true)],ct:=[(5,.up {r:=0,n1:=.var 0,s1:=52,n2:=10,s2:=5,lo:=2,ks:=yW,z:=true} 1 [] (.lit 0)),(4,.up {r:=0,n1:=.var 0,s1:=52,ks:=yB,z:=true} 0 [] (.lit 0)),(3,.up {r:=0,n1:=.var 1,s1:=5,ks:=yW,z:=true} 0 [] (.lit 0))],nb:=[4,3,4,3]} <|
  .br (.aA (.lit 1) (.var 2))
  (.ob (.aA (.mul (.add (.var 7) (.lit 1)) (.lit 8)) (.lit 140737488355328)) <|
   .ob (.aA (.lit 0) (.var 7)) <|
   .ob (.aA (.var 7) (.var 8)) <|
   .ob (.aA (.var 8) (.lit 9223372036854775807)) <|
   .ob (.or (.not (.var 6)) (.aB (.var 7) (.lit 0))) <|
   .new 13 [.be (.and (.aA (.add (.var 7) (.lit 1)) (.var 13)) (.aA (.var 13) (.lit 9223372036854775807)))] <|
   .ob (.inr .i64 (.sub (.var 2) (.lit 1))) <|
   .back 0 {lo:=2,az:=3,iv:=[(11,yv 11),(10,yv 10),(8,yv 13),(7,.add (.var 7) (.lit 1)),(2,.sub (.var 2) (.lit 1))],bv:=[(12,yw 12),(6,.lit false)],ct:=[(9,.up {r:=9,n1:=.add (.var 7) (.lit 1),s1:=1,ks:=yI} 0 [⟨0,(.var 7),(.lit 0),0,.int .i64 (.var 2)⟩] (.lit 0)),(5,.up {r:=5,n1:=.var 0,s1:=52,n2:=10,s2:=5,lo:=2,ks:=yW} 1 [] (.lit 0)),(4,yu 4 0 52 yB 0),(3,yu 3 1 5 yW 0)],bk:=[(4,yb 4),(3,yc 6 1)]})
  (.fin {lo:=2,az:=0,iv:=[(6,yv 11),(5,yv 10),(4,yv 8),(3,yv 7)],bv:=[(7,yw 12),(2,yw 6)],ct:=[(11,yu 9 7 1 yI 0),(10,.up {r:=5,n1:=.var 0,s1:=52,n2:=10,s2:=5,lo:=2,ks:=yW} 1 [] (.lit 0)),(9,yu 4 0 52 yB 0),(8,yu 3 1 5 yW 0)],bk:=[(4,yb 4),(3,yc 3 1),(2,yc 1 52),(1,yc 0 5),(0,yb 2)]}))
 (.ob (.aA (.lit 0) (.var 0)) <|
  .ob (.aA (.mul (.var 0) (.lit 416)) (.lit 281474976710656)) <|
  .ob (.aA (.var 0) (.lit 9223372036854775807)) <|
  .ob (.aA (.lit 0) (.var 1)) <|
  .ob (.aA (.mul (.var 1) (.lit 40)) (.lit 281474976710656)) <|
  .ob (.aA (.var 1) (.lit 9223372036854775807)) <|
  .loop 2 {lo:=2,az:=3,iv:=[(11,.lit 0),(10,.lit 0),(8,.lit 0),(7,.lit 0),(2,yv 0)],bv:=[(12,.lit true),(6,.lit true)],ct:=[(3,.up {r:=0,n1:=.var 1,s1:=5,ks:=yW,z:=true} 0 [] (.lit 0)),(5,.up {r:=0,n1:=.var 0,s1:=52,n2:=10,s2:=5,lo:=2,ks:=yW,z:=true} 1 [] (.lit 0)),(4,.up {r:=0,n1:=.var 0,s1:=52,ks:=yB,z:=true} 0 [] (.lit 0))],nb:=[4,3,4,3]} <|
  .br (.aA (.lit 1) (.var 2))
  (.ob (.aA (.mul (.add (.var 7) (.lit 1)) (.lit 8)) (.lit 140737488355328)) <|
   .ob (.aA (.lit 0) (.var 7)) <|
   .ob (.aA (.var 7) (.var 8)) <|
   .ob (.aA (.var 8) (.lit 9223372036854775807)) <|
   .ob (.or (.not (.var 6)) (.aB (.var 7) (.lit 0))) <|
   .new 13 [.be (.and (.aA (.add (.var 7) (.lit 1)) (.var 13)) (.aA (.var 13) (.lit 9223372036854775807)))] <|
   .ob (.inr .i64 (.sub (.var 2) (.lit 1))) <|
   .back 0 {lo:=2,az:=3,iv:=[(11,yv 11),(10,yv 10),(8,yv 13),(7,.add (.var 7) (.lit 1)),(2,.sub (.var 2) (.lit 1))],bv:=[(12,yw 12),(6,.lit false)],ct:=[(9,.up {r:=9,n1:=.add (.var 7) (.lit 1),s1:=1,ks:=yI} 0 [⟨0,(.var 7),(.lit 0),0,.int .i64 (.var 2)⟩] (.lit 0)),(3,yu 3 1 5 yW 0),(5,.up {r:=5,n1:=.var 0,s1:=52,n2:=10,s2:=5,lo:=2,ks:=yW} 1 [] (.lit 0)),(4,yu 4 0 52 yB 0)],bk:=[(4,yb 4),(3,yc 6 1)]})
  (.fin {lo:=2,az:=0,iv:=[(6,yv 11),(5,yv 10),(4,yv 8),(3,yv 7)],bv:=[(7,yw 12),(2,yw 6)],ct:=[(11,yu 9 7 1 yI 0),(10,.up {r:=5,n1:=.var 0,s1:=52,n2:=10,s2:=5,lo:=2,ks:=yW} 1 [] (.lit 0)),(9,yu 4 0 52 yB 0),(8,yu 3 1 5 yW 0)],bk:=[(4,yb 4),(3,yc 3 1),(2,yc 0 52),(1,yc 1 5),(0,yb 2)]}))
theorem Wy:exec tab Yn 8000 [] (fB oo.f oo.nv Vi oo.gl oo.hp oo.args)=J6:=by kernel_rfl
def qg (ρ:Env):Prop:=(0≤ρ.iv 0∧ρ.iv 0≤1024)∧0≤ρ.iv 1∧ρ.iv 1≤200
def Ag (ρ:Env):Prop:=bD ρ 2∧∃p:PS,af ρ (ρ.iv 1) (ρ.iv 0) 2=p∧p.nb=ρ.iv 1∧p.ns=ρ.iv 0∧p.nf=ρ.iv 0∧p.steps=0∧p.made=0∧p.dF=true∧(∀i,p.bd i=Wd.zero)∧(∀i,p.gen i=0)∧(∀i,p.used i=false)∧(∀i k,p.cell i k=Wd.zero)∧∀i:Nat,(i:Int)<ρ.iv 0→p.fr i=ρ.iv 0-i
def vk (ρ:Env):Prop:=(0≤ρ.iv 2∧ρ.iv 2≤ρ.iv 0)∧bD ρ 6∧ρ.iv 7=ρ.iv 0-ρ.iv 2∧ρ.iv 10=0∧ρ.iv 11=0∧ρ.bv 12=true∧(∀i,aG (ρ.ic 3 i 0) (ρ.bc 3 i 0)=Wd.zero)∧(∀i,ρ.ic 4 i 0 0=0∧ρ.bc 4 i 0 1=false)∧(∀i k,aG (ρ.ic 5 i k) (ρ.bc 5 i k)=Wd.zero)∧∀i:Nat,(i:Int)<ρ.iv 7→ρ.ic 9 i 0 0=ρ.iv 0-i
theorem TC {q:Env} (hp:qg q) {σ:Sub} {k:Out} (h0:vk (σ.ag q)) (hk:∀r,qg r→vk r→∀Γ,Γ=(fun ρ':Env=>vk ρ'∧ρ'.iv 2+1≤r.iv 2∧0≤ρ'.iv 2)→Sat Ag [] [fun ρ'=>vk ρ'∧(ρ'.iv 2).toNat<(r.num.iv 2).toNat] r k):Sat Ag [] [] q (.loop 2 σ k) :=
 Sat.wJ vk (fun r=>(r.iv 2).toNat) qg h0 (fun _=>hp) fun r hp hI=>hk r hp hI _ rfl
set_option maxHeartbeats 1000000 in
theorem Wz (q:Env) (hpre:qg q.num):Sat Ag [] [] q J6:=by
 replace hpre:qg q:=hpre
 obtain ⟨⟨a1,a2⟩,a3,a4⟩:=id hpre
 unfold J6
 refine Sat.alt ?_ ?_
 all_goals
  refine Sat.ob (by simp only [Da];omega) (Sat.ob (by simp only [Da];omega) (Sat.ob (by simp only [Da];omega) (Sat.ob (by simp only [Da];omega) (Sat.ob (by simp only [Da];omega) (Sat.ob (by simp only [Da];omega) (TC hpre ?_ fun r hp hI _ _=>?_))))))
  ·refine ⟨⟨a1,Int.le_refl _⟩,⟨fun _=>rfl,Int.le_refl 0,Int.le_refl 0,by show (0:Int)≤_;decide⟩,?_,rfl,rfl,rfl,fun i=>?_,fun i=>?_,fun i k=>?_,fun i hi=>?_⟩
   ·show (0:Int)=q.iv 0-q.iv 0
    omega
   ·simp [aG,Wd.zero,-Int.pred_toNat,Sub.ag,assoc,CV.I,CV.B,ah,ai,ae.I,ae.B,SC.I,SC.B,IE.den,BE.den]
   ·simp [-Int.pred_toNat,Sub.ag,assoc,CV.I,CV.B,ah,ai,ae.I,ae.B,SC.I,SC.B,IE.den,BE.den]
   ·simp [aG,Wd.zero,-Int.pred_toNat,Sub.ag,assoc,CV.I,CV.B,ah,ai,ae.I,ae.B,SC.I,SC.B,IE.den,BE.den]
   ·have:(i:Int)<0:=hi
    omega
  ·obtain ⟨⟨a1,a2⟩,a3,a4⟩:=hp
   obtain ⟨⟨i1,i2⟩,ho,i3,i4,i5,i6,i7,i8,i9,i10⟩:=hI
   refine Sat.br (fun hlt=>?_) (fun hge=>?_)
   ·simp only [Da] at hlt
    refine Sat.ob (by simp only [Da];omega) (Sat.ob (decide_eq_true ho.2.1) (Sat.ob (decide_eq_true ho.2.2.1) (Sat.ob (decide_eq_true ho.2.2.2) (Sat.ob (aL ho) (Sat.yZ (fun u=>qg u∧vk u∧1≤u.iv 2∧(u.iv 2-1).toNat<(r.num.iv 2).toNat) (fun _=>⟨⟨⟨a1,a2⟩,a3,a4⟩,⟨⟨i1,i2⟩,ho,i3,i4,i5,i6,i7,i8,i9,i10⟩,hlt,by show (r.iv 2-1).toNat<(r.iv 2).toNat;omega⟩) fun u hu hf=>?_)))))
    obtain ⟨⟨⟨a1,a2⟩,a3,a4⟩,⟨⟨i1,i2⟩,ho,i3,i4,i5,i6,i7,i8,i9,i10⟩,hlt,hm⟩:=hu
    simp only [Da] at hf
    have h7:0≤u.iv 7:=ho.2.1
    refine Sat.ob (by simp only [Da];omega) (Sat.back rfl ⟨⟨⟨by show 0≤u.iv 2-1;omega,by show u.iv 2-1≤u.iv 0;omega⟩,⟨fun h=>(by cases h),by show 0≤u.iv 7+1;omega,hf.1,hf.2⟩,by show u.iv 7+1=u.iv 0-(u.iv 2-1);omega,i4,i5,i6,fun i=>?_,fun i=>?_,fun i k=>?_,fun i hi=>?_⟩,hm⟩)
    ·rw [←i7 i]
     simp [aG,-Int.pred_toNat,Sub.ag,assoc,CV.I,CV.B,ah,ai,ae.I,ae.B,SC.I,SC.B,IE.den,BE.den]
    ·obtain ⟨x,y⟩:=i8 i
     refine ⟨?_,?_⟩
     ·simp [-Int.pred_toNat,Sub.ag,assoc,CV.I,CV.B,ah,ai,ae.I,ae.B,SC.I,SC.B,IE.den,BE.den,x]
     ·simp [-Int.pred_toNat,Sub.ag,assoc,CV.I,CV.B,ah,ai,ae.I,ae.B,SC.I,SC.B,IE.den,BE.den,y]
    ·rw [←i9 i k]
     simp [aG,-Int.pred_toNat,Sub.ag,assoc,CV.I,CV.B,ah,ai,ae.I,ae.B,SC.I,SC.B,IE.den,BE.den]
    ·replace hi:(i:Int)<u.iv 7+1:=hi
     by_cases h:i=(u.iv 7).toNat
     ·subst h
      have:(((u.iv 7).toNat:Nat):Int)=u.iv 7:=by omega
      simp [-Int.pred_toNat,Sub.ag,assoc,CV.I,CV.B,ah,ai,ae.I,ae.B,SC.I,SC.B,IE.den,BE.den]
      omega
     ·have hr:=i10 i (by omega)
      have hr2:u.iv 0-(i:Int)=(u.iv 0-(i:Int)):=rfl
      simp [-Int.pred_toNat,Sub.ag,assoc,CV.I,CV.B,ah,ai,ae.I,ae.B,SC.I,SC.B,IE.den,BE.den,Ne.symm h,hr]
   ·simp only [Da] at hge
    have h2:r.iv 2=0:=by omega
    refine Sat.fin ⟨ho,_,rfl,rfl,rfl,?_,i4,i5,i6,fun i=>?_,fun i=>?_,fun i=>?_,fun i k=>?_,fun i hi=>?_⟩
    ·show r.iv 7=r.iv 0
     omega
    ·rw [←i7 i]
     simp [af,aG,-Int.pred_toNat,Sub.ag,assoc,CV.I,CV.B,ah,ai,ae.I,ae.B,SC.I,SC.B,IE.den,BE.den]
    ·simp [af,-Int.pred_toNat,Sub.ag,assoc,CV.I,CV.B,ah,ai,ae.I,ae.B,SC.I,SC.B,IE.den,BE.den,(i8 i).1]
    ·simp [af,-Int.pred_toNat,Sub.ag,assoc,CV.I,CV.B,ah,ai,ae.I,ae.B,SC.I,SC.B,IE.den,BE.den,(i8 i).2]
    ·rw [←i9 i k]
     simp [af,aG,-Int.pred_toNat,Sub.ag,assoc,CV.I,CV.B,ah,ai,ae.I,ae.B,SC.I,SC.B,IE.den,BE.den]
    ·replace hi:(i:Int)<r.iv 0:=hi
     show _=r.iv 0-(i:Int)
     rw [←i10 i (by omega)]
     simp [af,-Int.pred_toNat,Sub.ag,assoc,CV.I,CV.B,ah,ai,ae.I,ae.B,SC.I,SC.B,IE.den,BE.den]
theorem WA:bf Tryz.prog oo qg Ag :=
 dw dY (E:=Yn) (cs:=[]) rfl (fun k pre post h=>by cases h) bZ rfl Wy (by kernel_rfl) (fun ρ h p hp=>by
   obtain ⟨⟨a1,a2⟩,a3,a4⟩:qg ρ.num:=h
   simp only [Vi,List.mem_cons,List.not_mem_nil,or_false] at hp
   rcases hp with rfl | rfl | rfl | rfl <;> simp only [Da] <;> omega) Wz
end Go.Proofs.YthomdlajobnmnaaGreatDoor
namespace Go.Rex
def Env.pull (f:Nat→Nat) (ρ:Env):Env:=⟨fun i=>ρ.iv (f i),fun i=>ρ.bv (f i),fun i=>ρ.vv (f i),fun i=>ρ.ic (f i),fun i=>ρ.bc (f i),fun i=>ρ.vc (f i)⟩
def Env.cat (N:Nat) (ρ e:Env):Env where
 iv:=fun i=>if i<N then ρ.iv i else e.iv (i-N)
 bv:=fun i=>if i<N then ρ.bv i else e.bv (i-N)
 vv:=fun i=>if i<N then ρ.vv i else e.vv (i-N)
 ic:=fun i=>if i<N then ρ.ic i else e.ic (i-N)
 bc:=fun i=>if i<N then ρ.bc i else e.bc (i-N)
 vc:=fun i=>if i<N then ρ.vc i else e.vc (i-N)
def uu (n:Nat) (ν μ:Nat→Addr):Nat→Addr:=fun k=>if k<n then ν k else μ (k-n)
theorem Env.Ck (N:Nat) (ρ e:Env):(ρ.cat N e).pull (N+·)=e:=by
 have h:∀i,¬N+i<N:=fun i=>by omega
 have h2:∀i,N+i-N=i:=fun i=>by omega
 cases e
 simp only [Env.pull,Env.cat,if_neg (h _),h2]
theorem vo (n:Nat) (ν μ:Nat→Addr) (k:Nat):uu n ν μ (n+k)=μ k:=by
 unfold uu
 rw [if_neg (by omega),show n+k-n=k by omega]
theorem vw (n:Nat) (ν μ:Nat→Addr) {k:Nat} (h:k<n):uu n ν μ k=ν k:=if_pos h
theorem di.cat (N n:Nat) (ρ e:Env) (ν μ:Nat→Addr):di N n ρ (ρ.cat N e) ν (uu n ν μ) :=
 ⟨fun _ h=>if_pos h,fun _ h=>if_pos h,fun _ h=>if_pos h,fun _ h=>if_pos h,fun _ h=>if_pos h,fun _ h=>if_pos h,fun _ h=>if_pos h⟩
section
variable (f g:Nat→Nat)
def IE.aT:IE→IE
 | .lit n=>.lit n
 | .var i=>.var (f i)
 | .add a b=>.add a.aT b.aT
 | .sub a b=>.sub a.aT b.aT
 | .mul a b=>.mul a.aT b.aT
 | .div a b=>.div a.aT b.aT
 | .mod a b=>.mod a.aT b.aT
 | .wrap k a=>.wrap k a.aT
 | .oL a b=>.oL a.aT b.aT
 | .imax a b=>.imax a.aT b.aT
 | .cell r a b j=>.cell (f r) a.aT b.aT j
def BE.aT:BE→BE
 | .lit b=>.lit b
 | .var i=>.var (f i)
 | .not a=>.not a.aT
 | .and a b=>.and a.aT b.aT
 | .or a b=>.or a.aT b.aT
 | .ite a b c=>.ite a.aT b.aT c.aT
 | .aB a b=>.aB (a.aT f) (b.aT f)
 | .aA a b=>.aA (a.aT f) (b.aT f)
 | .bR a b=>.bR (a.aT f) (b.aT f)
 | .beq a b=>.beq a.aT b.aT
 | .inr k a=>.inr k (a.aT f)
 | .cell r a b j=>.cell (f r) (a.aT f) (b.aT f) j
def SA.aT (a:SA):SA:={aD:=g a.aD,i1:=a.i1.aT f,s1:=a.s1,i2:=a.i2.aT f,s2:=a.s2,j:=a.j}
def SC.aT:SC→SC
 | .int k e=>.int k (e.aT f)
 | .bool b=>.bool (b.aT f)
 | .str l=>.str l
 | .val i=>.val (f i)
 | .jh r a b j=>.jh (f r) (a.aT f) (b.aT f) j
 | .ptr a=>.ptr (a.aT f g)
 | .aU=>.aU
 | .sl a l c=>.sl (a.aT f g) (l.aT f) (c.aT f)
 | .bg=>.bg
 | .eY k a l c=>.eY (k.aT f) (a.aT f g) (l.aT f) (c.aT f)
 | .fn h jl=>.fn h (jl.map g)
 | .aF=>.aF
 | .iface t c=>.iface t c.aT
 | .df=>.df
 | .iB c x=>.iB (c.aT f) x.aT
 | .mp b=>.mp (g b)
 | .pG=>.pG
 | .rt t b o=>.rt t b o
 | .hole=>.hole
def ae.aT (s:ae):ae:={s with r:=f s.r,n1:=s.n1.aT f}
def Up.aT (u:Up):Up:={g:=u.g,i1:=u.i1.aT f,i2:=u.i2.aT f,j:=u.j,c:=u.c.aT f g}
def SB.aT (b:SB):SB:={b with cs:=b.cs.map (SC.aT f g),aV:=b.aV.map (ae.aT f),ups:=b.ups.map (Up.aT f g),cap:=b.cap.map fun x=>(x.1.aT f,x.2),nl:=b.nl.aT f}
variable {f g} {ρ:Env} {ν:Nat→Addr}
theorem IE.fP (e:IE):(e.aT f).den ρ=e.den (ρ.pull f):=by
 induction e <;> simp_all [IE.aT,IE.den,Env.pull]
theorem BE.fP (e:BE):(e.aT f).den ρ=e.den (ρ.pull f):=by
 induction e <;> simp_all [BE.aT,BE.den,IE.fP]
 all_goals rfl
theorem SA.fP (a:SA):(a.aT f g).den ρ ν=a.den (ρ.pull f) (fun k=>ν (g k)):=by
 simp only [SA.aT,SA.den,SA.off,IE.fP]
theorem SC.fP (c:SC):(c.aT f g).den ρ ν=c.den (ρ.pull f) (fun k=>ν (g k)):=by
 induction c with
 | fn h jl=>simp only [SC.aT,SC.den,List.map_map];rfl
 | val i=>rfl
 | jh r a b j=>simp only [SC.aT,SC.den,IE.fP];rfl
 | _=>simp_all [SC.aT,SC.den,IE.fP,BE.fP,SA.fP]
theorem SC.J7 (c:SC):(c.aT f g).isHole=c.isHole:=by
 induction c <;> simp_all [SC.aT,SC.isHole]
theorem ae.J8 (s:ae) (i1 i2 j:Nat):(s.aT f).base ρ i1 i2 j=s.base (ρ.pull f) i1 i2 j:=rfl
theorem xg (gi i1 i2 j:Nat) (b:Value):∀us:List Up,cu ρ ν (us.map (Up.aT f g)) gi i1 i2 j b=cu (ρ.pull f) (fun k=>ν (g k)) us gi i1 i2 j b
 | []=>rfl
 | u :: r=>by
  simp only [List.map_cons,cu,xg gi i1 i2 j b r]
  simp only [Up.aT,IE.fP,SC.fP]
theorem SB.iA (b:SB):(b.aT f g).dead ρ=b.dead (ρ.pull f):=by
 simp only [SB.dead,SB.aT,BE.fP]
theorem SB.Ah (b:SB) {arr:Array Value}:(b.aT f g).has ρ ν arr↔b.has (ρ.pull f) (fun k=>ν (g k)) arr:=by
 constructor
 ·intro h
  refine ⟨fun u hu=>?_,fun h1 h2=>?_,fun e n he=>?_,fun p c hp hh=>?_,fun gi s hs i1 i2 j h1 h2 h3=>?_⟩
  ·have:=h.un (u.aT f g) (List.mem_map.2 ⟨u,hu,rfl⟩)
   simpa only [Up.aT,IE.fP] using this
  ·have:=h.size (by simp [SB.aT,h1]) h2
   simpa [SB.aT] using this
  ·have:=h.cap (e.aT f) n (by simp [SB.aT,he])
   simpa only [IE.fP] using this
  ·have:=h.ex p (c.aT f g) (by simp [SB.aT,hp]) (by rw [SC.J7];exact hh)
   rwa [SC.fP] at this
  ·have:=h.sg gi (s.aT f) (by simp [SB.aT,hs]) i1 i2 j (by simpa only [ae.aT,IE.fP] using h1) h2 h3
   rw [ae.J8] at this
   simpa only [SB.aT,xg,ae.aT] using this
 ·intro h
  refine ⟨fun u hu=>?_,fun h1 h2=>?_,fun e n he=>?_,fun p c hp hh=>?_,fun gi s hs i1 i2 j h1 h2 h3=>?_⟩
  ·simp only [SB.aT,List.mem_map] at hu
   obtain ⟨u',hu',rfl⟩:=hu
   have:=h.un u' hu'
   simpa only [Up.aT,IE.fP] using this
  ·have:=h.size (by simpa [SB.aT] using h1) h2
   simpa [SB.aT] using this
  ·simp only [SB.aT,Option.map_eq_some_iff] at he
   obtain ⟨⟨e',n'⟩,he,h2⟩:=he
   simp only [Prod.mk.injEq] at h2
   obtain ⟨rfl,rfl⟩:=h2
   have:=h.cap e' n' he
   simpa only [IE.fP] using this
  ·simp only [SB.aT,List.getElem?_map,Option.map_eq_some_iff] at hp
   obtain ⟨c',hp,rfl⟩:=hp
   rw [SC.J7] at hh
   rw [SC.fP]
   exact h.ex p c' hp hh
  ·simp only [SB.aT,List.getElem?_map,Option.map_eq_some_iff] at hs
   obtain ⟨s',hs,rfl⟩:=hs
   have:=h.sg gi s' hs i1 i2 j (by simpa only [ae.aT,IE.fP] using h1) h2 h3
   rw [ae.J8]
   simpa only [SB.aT,xg,ae.aT] using this
theorem SB.J9 (b:SB) {w:World} {k:Nat}:vH (b.aT f g) w k↔vH b w k:=by
 unfold vH
 simp [SB.aT]
end
theorem aK.sub {ρ:Env} {ν:Nat→Addr} {w:World} {H hp:List SB} {f g:Nat→Nat} (h:aK ρ ν H w) (hg:(List.range hp.length).map (fun j=>H[g j]?)=hp.map fun sb=>some (sb.aT f g))
  (hi:∀i j,i<hp.length→j<hp.length→g i=g j→i=j):aK (ρ.pull f) (fun k=>ν (g k)) hp w:=by
 have at_:∀(k:Nat) (sb:SB),hp[k]?=some sb→H[g k]?=some (sb.aT f g):=fun k sb hk=>by
  have hlt:=(List.getElem?_eq_some_iff.1 hk).1
  have:=congrArg (fun l=>l[k]?) hg
  simp only [List.getElem?_map,List.getElem?_range hlt,hk,Option.map_some] at this
  exact Option.some.inj this
 refine ⟨fun i j a b h1 h2 d1 d2 ra he=>?_,fun k sb hk hd hr=>?_,fun k sb hk hd hr=>?_⟩
 ·refine hi i j (List.getElem?_eq_some_iff.1 h1).1 (List.getElem?_eq_some_iff.1 h2).1 ?_
  exact h.inj (g i) (g j) _ _ (at_ i a h1) (at_ j b h2) (by rw [SB.iA];exact d1) (by rw [SB.iA];exact d2) ra he
 ·obtain ⟨h1,cs,h2,h3⟩:=h.aD (g k) _ (at_ k sb hk) (by rw [SB.iA];exact hd) hr
  exact ⟨h1,cs,h2,SB.Ah sb |>.1 h3⟩
 ·obtain ⟨h1,cs,h2,h3⟩:=h.rd (g k) _ (at_ k sb hk) (by rw [SB.iA];exact hd) hr
  exact ⟨SB.J9 sb |>.1 h1,cs,SB.Ah sb |>.1 h2,h3⟩
theorem aK.app {ρ:Env} {ν:Nat→Addr} {w:World} {hp hq:List SB} {f:Nat→Nat} (h1:aK ρ ν hp w) (h2:aK (ρ.pull f) (fun k=>ν (hp.length+k)) hq w)
  (hd:∀(i j:Nat) (a b:SB),hp[i]?=some a→hq[j]?=some b→a.dead ρ=false→b.dead (ρ.pull f)=false→a.ro=false∨b.ro=false→(ν i).block≠(ν (hp.length+j)).block):aK ρ ν (hp ++ hq.map (SB.aT f (hp.length+·))) w:=by
 have at_:∀(k:Nat) (sb:SB),(hp ++ hq.map (SB.aT f (hp.length+·)))[k]?=some sb→hp[k]?=some sb∨∃j b,k=hp.length+j∧hq[j]?=some b∧sb=b.aT f (hp.length+·):=fun k sb hk=>by
  rw [List.getElem?_append] at hk
  split at hk
  ·exact .inl hk
  ·rw [List.getElem?_map,Option.map_eq_some_iff] at hk
   obtain ⟨b,hb,rfl⟩:=hk
   exact .inr ⟨k-hp.length,b,by omega,hb,rfl⟩
 refine ⟨fun i j a b hi hj d1 d2 ra he=>?_,fun k sb hk hdd hr=>?_,fun k sb hk hdd hr=>?_⟩
 ·rcases at_ i a hi with qi | ⟨i',a',rfl,qi,rfl⟩
  ·rcases at_ j b hj with qj | ⟨j',b',rfl,qj,rfl⟩
   ·exact h1.inj i j a b qi qj d1 d2 ra he
   ·rw [SB.iA] at d2
    exact absurd he (hd i j' a b' qi qj d1 d2 (.inl ra))
  ·rw [SB.iA] at d1
   rcases at_ j b hj with qj | ⟨j',b',rfl,qj,rfl⟩
   ·exact absurd he.symm (hd j i' b a' qj qi d2 d1 (.inr ra))
   ·rw [SB.iA] at d2
    have:=h2.inj i' j' a' b' qi qj d1 d2 ra he
    omega
 ·rcases at_ k sb hk with qk | ⟨j,b,rfl,qk,rfl⟩
  ·exact h1.aD k sb qk hdd hr
  ·rw [SB.iA] at hdd
   obtain ⟨g1,cs,g2,g3⟩:=h2.aD j b qk hdd hr
   exact ⟨g1,cs,g2,SB.Ah b |>.2 g3⟩
 ·rcases at_ k sb hk with qk | ⟨j,b,rfl,qk,rfl⟩
  ·exact h1.rd k sb qk hdd hr
  ·rw [SB.iA] at hdd
   obtain ⟨g1,cs,g2,g3⟩:=h2.rd j b qk hdd hr
   exact ⟨SB.J9 b |>.2 g1,cs,SB.Ah b |>.2 g2,g3⟩
theorem jR.sub {z:Nat} {W:Nat→Prop} {ρ:Env} {ν:Nat→Addr} {H hp:List SB} {f g:Nat→Nat} (h:jR z W ρ ν H) (hg:(List.range hp.length).map (fun j=>H[g j]?)=hp.map fun sb=>some (sb.aT f g)):jR z W (ρ.pull f) (fun k=>ν (g k)) hp:=by
 intro k sb hk ho hd
 have hlt:=(List.getElem?_eq_some_iff.1 hk).1
 have:=congrArg (fun l=>l[k]?) hg
 simp only [List.getElem?_map,List.getElem?_range hlt,hk,Option.map_some] at this
 have:=h (g k) (sb.aT f g) (Option.some.inj this) ho (by rw [SB.iA];exact hd)
 exact this
theorem WB {z:Nat} {W:Nat→Prop} {ρ:Env} {ν:Nat→Addr} {hp:List SB} (h:jR z W ρ ν hp) {b:Nat} (hb:iN ρ ν hp b):z≤b∨W b:=by
 obtain ⟨k,sb,h1,h2,h3,rfl⟩:=hb
 exact h k sb h1 h2 h3
def qh (hp:List SB):Bool:=hp.all fun b=>b.gone || (b.own && !b.ro)
theorem zq {hp:List SB} (h:qh hp=true) {k:Nat} {sb:SB} (hk:hp[k]?=some sb) (hg:sb.gone=false):sb.own=true∧sb.ro=false:=by
 have:=List.all_eq_true.1 h sb (List.mem_of_getElem? hk)
 simpa [hg] using this
theorem aK.frame {ρ:Env} {ν:Nat→Addr} {hp:List SB} {w w':World} (ha:qh hp=true) (h:aK ρ ν hp w) (hk:∀b,iN ρ ν hp b→w'.heap[b]?=w.heap[b]?):aK ρ ν hp w':=by
 refine ⟨h.inj,fun k sb h1 hd hr=>?_,fun k sb h1 hd hr=>?_⟩
 ·obtain ⟨g1,cs,g2,g3⟩:=h.aD k sb h1 hd hr
  refine ⟨g1,cs,?_,g3⟩
  rw [hk _ ⟨k,sb,h1,(zq ha h1 (SB.dW hd)).1,hd,rfl⟩]
  exact g2
 ·have:=(zq ha h1 (SB.dW hd)).2
  rw [hr] at this;cases this
def fZ (ρ:Env) (ν:Nat→Addr) (hp:List SB) (b:Nat):Prop:=∃(k:Nat) (sb:SB),hp[k]?=some sb∧sb.dead ρ=false∧b=(ν k).block
theorem lV {ρ:Env} {ν:Nat→Addr} {hp:List SB} {b:Nat} (h:iN ρ ν hp b):fZ ρ ν hp b:=by
 obtain ⟨k,sb,h1,-,h3,rfl⟩:=h
 exact ⟨k,sb,h1,h3,rfl⟩
theorem QO {ρ:Env} {ν:Nat→Addr} {hp:List SB} (ha:qh hp=true) {b:Nat} (h:fZ ρ ν hp b):iN ρ ν hp b:=by
 obtain ⟨k,sb,h1,h3,rfl⟩:=h
 exact ⟨k,sb,h1,(zq ha h1 (SB.dW h3)).1,h3,rfl⟩
theorem pg {ρ:Env} {ν:Nat→Addr} {hp:List SB} {w:World} (h:aK ρ ν hp w) {b:Nat} (hb:fZ ρ ν hp b):b<w.heap.size:=by
 obtain ⟨k,sb,h1,h3,rfl⟩:=hb
 exact h.lt h1 h3
theorem ql {nv n:Nat} {ρ ρ':Env} {ν aI:Nat→Addr} (hA:di nv n ρ ρ' ν aI) {hp:List SB} (hs:nR nv n hp=true) (hl:hp.length≤n) {b:Nat}:fZ ρ' aI hp b↔fZ ρ ν hp b:=by
 constructor
 ·rintro ⟨k,sb,h1,h3,rfl⟩
  have:=(List.getElem?_eq_some_iff.1 h1).1
  exact ⟨k,sb,h1,by rwa [SB.jY hA (gQ hs k sb h1)] at h3,by rw [hA.bl k (by omega)]⟩
 ·rintro ⟨k,sb,h1,h3,rfl⟩
  have:=(List.getElem?_eq_some_iff.1 h1).1
  exact ⟨k,sb,h1,by rwa [SB.jY hA (gQ hs k sb h1)],by rw [hA.bl k (by omega)]⟩
theorem aK.join {a b:List SB} {N:Nat} {oK mP:Env} {sG qD:Nat→Addr} {w:World} (ha:aK oK sG a w) (hb:aK mP qD b w) (hs:nR N a.length a=true) (hd:∀x,fZ oK sG a x→fZ mP qD b x→False) :
  aK (oK.cat N mP) (uu a.length sG qD) (a ++ b.map (SB.aT (N+·) (a.length+·))) w:=by
 have hA:=di.cat N a.length oK mP sG qD
 have e1:(oK.cat N mP).pull (N+·)=mP:=Env.Ck N oK mP
 have e2:(fun k=>uu a.length sG qD (a.length+k))=qD:=funext fun k=>vo ..
 refine aK.app (ha.ext hA hs (Nat.le_refl _)) (by rw [e1,e2];exact hb) fun i j x y hi hj dx dy _ he=>?_
 rw [e1] at dy
 have hl:=(List.getElem?_eq_some_iff.1 hi).1
 rw [vw _ _ _ hl,vo] at he
 rw [SB.jY hA (gQ hs i x hi)] at dx
 exact hd _ ⟨i,x,hi,dx,rfl⟩ ⟨j,y,hj,dy,he⟩
theorem Zd {a b:List SB} {N:Nat} {oK mP:Env} {sG qD:Nat→Addr} (hs:nR N a.length a=true) {x:Nat}:fZ (oK.cat N mP) (uu a.length sG qD) (a ++ b.map (SB.aT (N+·) (a.length+·))) x↔fZ oK sG a x∨fZ mP qD b x:=by
 have hA:=di.cat N a.length oK mP sG qD
 have e1:(oK.cat N mP).pull (N+·)=mP:=Env.Ck N oK mP
 constructor
 ·rintro ⟨k,sb,h1,h3,rfl⟩
  rw [List.getElem?_append] at h1
  split at h1
  ·rename_i hk
   rw [SB.jY hA (gQ hs k sb h1)] at h3
   exact .inl ⟨k,sb,h1,h3,by rw [vw _ _ _ hk]⟩
  ·rename_i hk
   rw [List.getElem?_map,Option.map_eq_some_iff] at h1
   obtain ⟨c,hc,rfl⟩:=h1
   rw [SB.iA,e1] at h3
   refine .inr ⟨k-a.length,c,hc,h3,?_⟩
   have:=vo a.length sG qD (k-a.length)
   rw [show a.length+(k-a.length)=k by omega] at this
   rw [this]
 ·rintro (⟨k,sb,h1,h3,rfl⟩ | ⟨k,sb,h1,h3,rfl⟩)
  ·have hk:=(List.getElem?_eq_some_iff.1 h1).1
   exact ⟨k,sb,by rw [List.getElem?_append_left hk];exact h1,by rwa [SB.jY hA (gQ hs k sb h1)],by rw [vw _ _ _ hk]⟩
  ·refine ⟨a.length+k,sb.aT (N+·) (a.length+·),?_,by rw [SB.iA,e1];exact h3,by rw [vo]⟩
   rw [List.getElem?_append_right (by omega),show a.length+k-a.length=k by omega,List.getElem?_map,h1]
   rfl
theorem QP {a b:List SB} {N:Nat} {oK mP:Env} {sG qD:Nat→Addr} (hs:nR N a.length a=true) {x:Nat} (h:iN (oK.cat N mP) (uu a.length sG qD) (a ++ b.map (SB.aT (N+·) (a.length+·))) x):iN oK sG a x∨iN mP qD b x:=by
 have hA:=di.cat N a.length oK mP sG qD
 have e1:(oK.cat N mP).pull (N+·)=mP:=Env.Ck N oK mP
 obtain ⟨k,sb,h1,h2,h3,rfl⟩:=h
 rw [List.getElem?_append] at h1
 split at h1
 ·rename_i hk
  rw [SB.jY hA (gQ hs k sb h1)] at h3
  exact .inl ⟨k,sb,h1,h2,h3,by rw [vw _ _ _ hk]⟩
 ·rename_i hk
  rw [List.getElem?_map,Option.map_eq_some_iff] at h1
  obtain ⟨c,hc,rfl⟩:=h1
  rw [SB.iA,e1] at h3
  refine .inr ⟨k-a.length,c,hc,h2,h3,?_⟩
  have:=vo a.length sG qD (k-a.length)
  rw [show a.length+(k-a.length)=k by omega] at this
  rw [this]
def Ze (hp:List SB):Bool:=hp.all fun b=>!b.own
theorem Ka {ρ:Env} {ν:Nat→Addr} {hp:List SB} (h:Ze hp=true) {x:Nat} (hx:iN ρ ν hp x):False:=by
 obtain ⟨k,sb,h1,h2,-,-⟩:=hx
 have:=List.all_eq_true.1 h sb (List.mem_of_getElem? h1)
 rw [h2] at this
 cases this
theorem aK.Eg {ρ:Env} {ν:Nat→Addr} {hp:List SB} {w w':World} (ha:qh hp=true) (h:aK ρ ν hp w) (hk:∀b,fZ ρ ν hp b→w'.heap[b]?=w.heap[b]?):aK ρ ν hp w' :=
 h.frame ha fun b hb=>hk b (lV hb)
theorem jR.aD {z:Nat} {W:Nat→Prop} {ρ:Env} {ν:Nat→Addr} {hp:List SB} (ha:qh hp=true) (h:jR z W ρ ν hp) {b:Nat} (hb:fZ ρ ν hp b):z≤b∨W b:=WB h (QO ha hb)
end Go.Rex
namespace Go.Proofs.YthomdlajobnmnaaGreatDoor
open Go.Rex
def mi:List SB:=jd 36 JE 0
def kP:List SB:=PV 0 2 0
structure jf (w:World) (a:Addr) (p:PS) (B:Nat→Prop):Prop where
 ex:∃ρ ν,ν 0=a∧aK ρ ν kP w∧af ρ (ρ.iv 0) (ρ.iv 1) 2=p∧bD ρ 2∧∀b,fZ ρ ν kP b→B b
structure nu (w:World) (fA:Nat→Addr):Prop where
 hp:∃ρ,aK ρ fA mi w
 gl:jm fA (gI JE 0)
theorem Ob:qh kP=true:=by kernel_rfl
section
variable {w w':World} {a:Addr} {p:PS} {B B':Nat→Prop}
theorem jf.frame (h:jf w a p B) (hk:∀b,B b→w'.heap[b]?=w.heap[b]?):jf w' a p B:=by
 obtain ⟨ρ,ν,h1,h2,h3,h4,h5⟩:=h.ex
 exact ⟨ρ,ν,h1,h2.Eg Ob fun b hb=>hk b (h5 b hb),h3,h4,h5⟩
theorem jf.mono (h:jf w a p B) (hk:∀b,B b→b<w.heap.size→B' b):jf w a p B':=by
 obtain ⟨ρ,ν,h1,h2,h3,h4,h5⟩:=h.ex
 exact ⟨ρ,ν,h1,h2,h3,h4,fun b hb=>hk b (h5 b hb) (pg h2 hb)⟩
theorem nu.frame {fA:Nat→Addr} (h:nu w fA) (hz:w.heap.size≤w'.heap.size) (hk:∀k,k<8→w'.heap[(fA k).block]?=w.heap[(fA k).block]?):nu w' fA:=by
 obtain ⟨⟨ρ,h1⟩,h2⟩:=h
 exact ⟨⟨ρ,h1.BB hz fun k sb hk' _=>hk k (Nat.lt_of_lt_of_le (List.getElem?_eq_some_iff.1 hk').1 (by decide))⟩,h2⟩
end
structure qU (p:PS) (n m:Int):Prop where
 nb:p.nb=n
 ns:p.ns=m
 nf:p.nf=m
 steps:p.steps=0
 made:p.made=0
 dF:p.dF=true
 bd:∀i,p.bd i=Wd.zero
 gen:∀i,p.gen i=0
 used:∀i,p.used i=false
 cell:∀i k,p.cell i k=Wd.zero
 fr:∀i:Nat,(i:Int)<m→p.fr i=m-i
theorem qU.ok {p:PS} {n m:Int} (h:qU p n m) (h1:0≤m∧m≤1024) (h2:0≤n∧n≤200):p.OK:=by
 have hu:∀k,iV p.used k=0:=fun k=>by
  rw [qL (v:=fun _=>false) fun i _=>h.used i,D7]
 refine ⟨by rw [h.nb];exact h2,by rw [h.ns];exact h1,by rw [h.nf];exact h1.1,by rw [h.made,h.steps];exact ⟨Int.le_refl 0,Int.le_refl 0⟩,fun i=>by rw [h.gen,h.made];exact ⟨Int.le_refl 0,Int.le_refl 0⟩,fun i hi=>?_,fun i j hi hj=>?_,?_⟩
 ·rw [h.nf] at hi
  rw [h.fr i hi,h.ns]
  exact ⟨by omega,by omega,h.used _⟩
 ·rw [h.nf] at hj
  rw [h.fr i (by omega),h.fr j hj]
  omega
 ·rw [hu,h.nf,h.ns]
  simp
abbrev Nw (w w':World):Prop:=bU w (fun _=>False) w'
theorem H8 {ρ:Env} {ν:Nat→Addr} {w:World}:aK ρ ν [] w:=⟨fun i j a b h=>by simp at h,fun k sb h=>by simp at h,fun k sb h=>by simp at h⟩
def Vj (f:Nat→Int):Env:=⟨f,fun _=>false,fun _=>undef,fun _ _ _ _=>0,fun _ _ _ _=>false,fun _ _ _ _=>undef⟩
def fN:Nat→Nat
 | 0=>1
 | 1=>0
 | i=>i
theorem Yo:(List.range kP.length).map (fun j=>oo.hp'[j]?)=kP.map fun sb=>some (sb.aT fN fun k=>k):=by kernel_rfl
theorem Oc (m:Int) (h:0≤m∧m≤1024) (w:World) :
  Calls Tryz.prog 16 #[.int .i64 m,.int .i64 85] w fun e w'=>∃aP p B,e=.returned (.tuple #[.pointer (some aP),.nilIface])∧jf w' aP p B∧qU p 85 m∧(∀b,B b→w.heap.size≤b)∧Nw w w':=by
 have hrun:=WA.run (Vj fun i=>if i=0 then m else 85) (fun _=>⟨0,0,none⟩) w H8 ⟨fun g k _ h=>(by cases h),fun g g' k k' _ _ h=>(by cases h)⟩ ⟨h,by show (0:Int)≤85∧(85:Int)≤200;decide⟩
 refine Calls.mono hrun ?_
 rintro e w' ⟨ρ,ν,hA,rfl,gW,hwr,how,q1,q2⟩
 have e0:ρ.iv 0=m:=(hA.iv 0 (by decide)).trans rfl
 have e1:ρ.iv 1=85:=(hA.iv 1 (by decide)).trans rfl
 have hn:∀b,¬iN (Vj fun i=>if i=0 then m else 85) (fun _=>(⟨0,0,none⟩:Addr)) oo.hp b:=fun b ⟨k,sb,hk,_⟩=>by
  have hk:([]:List SB)[k]?=some sb:=hk
  simp at hk
 obtain ⟨p,h1,h2⟩:=q2
 replace h1:af ρ (ρ.iv 1) (ρ.iv 0) 2=p:=h1
 refine ⟨ν 0,p,fZ (ρ.pull fN) ν kP,rfl,⟨ρ.pull fN,ν,rfl,gW.sub Yo fun i j _ _ h=>h,h1,q1,fun _ h=>h⟩,?_,fun b hb=>?_,⟨hwr.os,hwr.tape,hwr.output,hwr.size,fun k hk _=>hwr.block k hk (hn k)⟩⟩
 ·obtain ⟨a1,a2,a3,a4,a5,a6,a7,a8,a9,a10,a11⟩:=h2
  exact ⟨a1.trans e1,a2.trans e0,a3.trans e0,a4,a5,a6,a7,a8,a9,a10,fun i hi=>(a11 i (by show (i:Int)<ρ.iv 0;rw [e0];exact hi)).trans (by show ρ.iv 0-i=m-i;rw [e0])⟩
 ·rcases (how.sub Yo).aD Ob hb with h | h
  ·exact h
  ·exact absurd h (hn b)
def oD (a:Ac):Value:=.agg #[.int .i64 a.kind,.int .i64 a.slot,.int .i64 a.gen,.int .i64 a.field,.int .i64 a.old.slot,.int .i64 a.old.gen,.int .i64 a.old.tag,.int .i64 a.old.num,.bool a.old.mark,.int .i64 a.new.slot,.int .i64 a.new.gen,.int .i64 a.new.tag,.int .i64 a.new.num,.bool a.new.mark]
def iX (x:Rp):Value:=.agg #[.int .i64 x.word.slot,.int .i64 x.word.gen,.int .i64 x.word.tag,.int .i64 x.word.num,.bool x.word.mark,.bool x.ok]
def H9 (a:Ac):Env where
 iv:=fun i=>([a.kind,a.slot,a.gen,a.field,a.old.slot,a.old.gen,a.old.tag,a.old.num,0,a.new.slot,a.new.gen,a.new.tag,a.new.num,0]:List Int).getD i 0
 bv:=fun i=>if i=8 then a.old.mark else a.new.mark
 vv:=fun _=>undef
 ic:=fun _ _ _ _=>0
 bc:=fun _ _ _ _=>false
 vc:=fun _ _ _ _=>undef
def fD:Nat→Nat
 | 0=>14
 | 1=>15
 | i=>i+31
def gD:Nat→Nat
 | 0=>8
 | 1=>9
 | 2=>10
 | k=>k+10
theorem Yp:(List.range kP.length).map (fun j=>mW.hp'[gD j]?)=kP.map fun sb=>some (sb.aT fD gD):=by kernel_rfl
theorem Yq:∀i j,i<kP.length→j<kP.length→gD i=gD j→i=j:=by
 have:∀i,i<5→∀j,j<5→gD i=gD j→i=j:=by decide
 intro i j hi hj
 exact this i hi j hj
theorem Vl {w:World} {aP:Addr} {p p':PS} {B:Nat→Prop} {fA:Nat→Addr} {a:Ac} {x:Rp} (hs:nu w fA) (hp:jf w aP p B) (hz:∀k,k<8→¬B (fA k).block) (hok:p.OK) (hst:p.steps≤1000000) (hx:p.act a=(p',some x)) :
  Calls Tryz.prog 32 #[.pointer (some aP),oD a] w fun e w'=>e=.returned (.tuple #[iX x,.nilIface])∧∃B',jf w' aP p' B'∧(∀b,B' b→w.heap.size≤b∨B b)∧bU w B w':=by
 obtain ⟨dU,gH,rfl,hph,rfl,hpo,hpb⟩:=hp.ex
 obtain ⟨⟨ρs,hsh⟩,hgl⟩:=hs
 have hsB:∀x,fZ (H9 a) fA mi x→∃k,k<8∧x=(fA k).block:=by
  rintro x ⟨k,sb,h1,_,rfl⟩
  exact ⟨k,Nat.lt_of_lt_of_le (List.getElem?_eq_some_iff.1 h1).1 (by decide),rfl⟩
 have hsh':aK (H9 a) fA mi w:=aK.ext (nv:=0) (n:=8) ⟨fun i h=>absurd h (Nat.not_lt_zero _),fun i h=>absurd h (Nat.not_lt_zero _),fun i h=>absurd h (Nat.not_lt_zero _),fun i h=>absurd h (Nat.not_lt_zero _),fun i h=>absurd h (Nat.not_lt_zero _),fun i h=>absurd h (Nat.not_lt_zero _),fun i h=>rfl⟩ (by kernel_rfl) (by decide) hsh
 have TF:=aK.join (N:=14) hsh' hph (by kernel_rfl) fun x h1 h2=>by
  obtain ⟨k,hk,rfl⟩:=hsB x h1
  exact hz k hk (hpb _ h2)
 have eL:mW.hp=mi ++ kP.map (SB.aT (14+·) (mi.length+·)):=by kernel_rfl
 rw [←eL] at TF
 have lh:∀x,iN ((H9 a).cat 14 dU) (uu mi.length fA gH) mW.hp x→B x:=by
  intro x hx
  rw [eL] at hx
  rcases QP (by kernel_rfl) hx with hb | hb
  ·exact (Ka (by kernel_rfl) hb).elim
  ·exact hpb _ (lV hb)
 obtain ⟨ρ,hρ⟩:∃ρ,ρ=(H9 a).cat 14 dU:=⟨_,rfl⟩
 obtain ⟨ν,og⟩:∃ν,ν=uu mi.length fA gH:=⟨_,rfl⟩
 have e8:ν 8=gH 0:=by rw [og];rfl
 have eP:af ρ (ρ.iv 14) (ρ.iv 15) 16=af dU (dU.iv 0) (dU.iv 1) 2:=by rw [hρ];rfl
 have eA:ay ρ 0=a:=by rw [hρ];rfl
 have hG:jm ν mW.gl:=by
  refine jm.ext (nv:=0) (n:=8) (ρ:=ρs) (ρ':=ρ) (ν:=fA) ⟨fun i h=>absurd h (Nat.not_lt_zero _),fun i h=>absurd h (Nat.not_lt_zero _),fun i h=>absurd h (Nat.not_lt_zero _),fun i h=>absurd h (Nat.not_lt_zero _),fun i h=>absurd h (Nat.not_lt_zero _),fun i h=>absurd h (Nat.not_lt_zero _),fun i h=>?_⟩ (by kernel_rfl) hgl
  rw [og,vw _ _ _ (Nat.lt_of_lt_of_le h (by decide))]
 have hOk:bD ρ 16:=by
  rw [hρ]
  exact hpo
 have hargs:(mW.args.map (·.den ρ ν)).toArray=#[.pointer (some (gH 0)),oD a]:=by
  rw [←e8,←eA]
  rfl
 rw [←hρ,←og] at TF lh
 rw [←eP] at hok hst hx
 have hrun:=Yf.run ρ ν w TF hG ⟨hOk,hok,hst⟩
 rw [hargs] at hrun
 refine Calls.mono hrun ?_
 rintro ev w' ⟨ρ',aI,hA,rfl,gW,hwr,how,q1,q2,q3⟩
 have eP':af ρ' (ρ'.iv 14) (ρ'.iv 15) 16=af ρ (ρ.iv 14) (ρ.iv 15) 16:=by
  unfold af
  simp (disch:=decide) only [hA.iv,hA.bv,hA.ic,hA.bc]
 have eA':ay ρ' 0=a:=by
  rw [←eA]
  unfold ay ak
  simp (disch:=decide) only [hA.iv,hA.bv]
 replace q2:(af ρ' (ρ'.iv 14) (ρ'.iv 15) 16).act (ay ρ' 0)=(af ρ' (ρ'.iv 14) (ρ'.iv 15) 33,if ρ'.bv 32=true then some (aH ρ' 26) else none):=q2
 rw [eP',eA',hx] at q2
 have hb:ρ'.bv 32=true:=by
  cases h:ρ'.bv 32 with
  | true=>rfl
  | false=>rw [h] at q2;cases q2
 rw [hb,if_pos rfl,Prod.mk.injEq,Option.some.injEq] at q2
 obtain ⟨rfl,rfl⟩:=q2
 refine ⟨?_,fZ (ρ'.pull fD) (fun k=>aI (gD k)) kP,⟨ρ'.pull fD,fun k=>aI (gD k),?_,gW.sub Yp Yq,rfl,q1,fun _ h=>h⟩,fun b h=>((how.sub Yp).aD Ob h).imp id (lh b),hwr.os,hwr.tape,hwr.output,hwr.size,fun k hk hn=>hwr.block k hk fun h=>hn (lh k h)⟩
 ·show Ending.returned (.tuple #[_,if ρ'.bv 32=true then _ else _])=_
  rw [hb]
  rfl
 ·show aI 8=gH 0
  rw [hA.bl 8 (by decide),e8]
def dB:List SB:=JF 0 4 0
theorem xh:qh dB=true:=by kernel_rfl
def ZQ (E M T N:Int):Env:=Vj fun i=>([E,M,T,N]:List Int).getD i 0
theorem Od (E M T N:Int) (h1:1≤E∧E≤5) (h2:0≤M∧M<T) (h3:1≤T∧T≤6) (h4:1≤N∧N≤64) (w:World) :
  Calls Tryz.prog 34 #[.int .i64 E,.int .i64 M,.int .i64 T,.int .i64 N] w fun e w'=>∃ρ ν,e=.returned (.tuple #[.pointer (some (ν 0)),.nilIface])∧(aK ρ ν dB w'∧aa ρ 0 4=RS.new E M T N∧bE ρ 4∧∀b,fZ ρ ν dB b→w.heap.size≤b)∧Nw w w':=by
 have hrun:=TB.run (ZQ E M T N) (fun _=>⟨0,0,none⟩) w H8 ⟨fun g k _ h=>(by cases h),fun g g' k k' _ _ h=>(by cases h)⟩ ⟨h1,h2,h3,h4.1,h4.2⟩
 refine Calls.mono hrun ?_
 rintro e w' ⟨ρ,ν,hA,rfl,gW,hwr,how,q1,q2⟩
 have hn:∀b,¬iN (ZQ E M T N) (fun _=>(⟨0,0,none⟩:Addr)) nG.hp b:=fun b ⟨k,sb,hk,_⟩=>by
  have hk:([]:List SB)[k]?=some sb:=hk
  simp at hk
 refine ⟨ρ,ν,rfl,⟨gW,Eq.trans q2 ?_,q1,fun b hb=>(how.aD xh hb).elim id fun h=>absurd h (hn b)⟩,hwr.os,hwr.tape,hwr.output,hwr.size,fun k hk _=>hwr.block k hk (hn k)⟩
 show RS.new (ρ.iv 0) (ρ.iv 1) (ρ.iv 2) (ρ.iv 3)=_
 rw [hA.iv 0 (by decide),hA.iv 1 (by decide),hA.iv 2 (by decide),hA.iv 3 (by decide)]
 rfl
end Go.Proofs.YthomdlajobnmnaaGreatDoor
namespace Go.Proofs.YthomdlajobnmnaaGreatDoor
open Go.RowKit Go.Rex
structure kH (w:World) (a:Addr) (r:RS) (B:Nat→Prop):Prop where
 ex:∃ρ ν,ν 0=a∧aK ρ ν dB w∧aa ρ 0 4=r∧bE ρ 4∧∀b,fZ ρ ν dB b→B b
section
variable {w w':World} {a:Addr} {r:RS} {B B':Nat→Prop}
theorem kH.frame (h:kH w a r B) (hk:∀b,B b→w'.heap[b]?=w.heap[b]?):kH w' a r B:=by
 obtain ⟨ρ,ν,h1,h2,h3,h4,h5⟩:=h.ex
 exact ⟨ρ,ν,h1,h2.Eg xh fun b hb=>hk b (h5 b hb),h3,h4,h5⟩
theorem kH.mono (h:kH w a r B) (hk:∀b,B b→b<w.heap.size→B' b):kH w a r B':=by
 obtain ⟨ρ,ν,h1,h2,h3,h4,h5⟩:=h.ex
 exact ⟨ρ,ν,h1,h2,h3,h4,fun b hb=>hk b (h5 b hb) (pg h2 hb)⟩
theorem kH.step (h:kH w a r B):∃b,a=⟨b,0,none⟩∧B b∧w.cell? ⟨b,18,none⟩=some (.int .i64 r.step):=by
 obtain ⟨ρ,ν,rfl,q1,rfl,h4,h5⟩:=h.ex
 obtain ⟨g1,cs,g2,g3⟩:=q1.aD 0 _ rfl rfl rfl
 have g2:=g2.cells rfl
 refine ⟨(ν 0).block,g1,h5 _ ⟨0,_,rfl,rfl,rfl⟩,?_⟩
 have:=g3.ex 18 _ rfl rfl
 unfold World.cell?
 rw [g2]
 exact this
end
def gR:Nat→Nat
 | 0=>0
 | k=>k+3
theorem Eh:∀i j,i<dB.length→j<dB.length→gR i=gR j→i=j:=by
 have:∀i,i<4→∀j,j<4→gR i=gR j→i=j:=by decide
 intro i j hi hj
 exact this i hi j hj
def pU (c:Ca):Value:=.agg #[.int .i64 c.kind,.int .i64 c.slot,.int .i64 c.gen,.int .i64 c.field,.int .i64 c.old.slot,.int .i64 c.old.gen,.int .i64 c.old.tag,.int .i64 c.old.num,.bool c.old.mark,.int .i64 c.new.slot,.int .i64 c.new.gen,.int .i64 c.new.tag,.int .i64 c.new.num,.bool c.new.mark,.int .i64 c.i,.int .i64 c.j,.int .i64 c.code,.int .i64 c.val]
def Cm (f:Nat→Int) (g:Nat→Bool):Env:=⟨f,g,fun _=>undef,fun _ _ _ _=>0,fun _ _ _ _=>false,fun _ _ _ _=>undef⟩
def Vm (c:Ca):Env:=Cm (fun i=>([c.kind,c.slot,c.gen,c.field,c.old.slot,c.old.gen,c.old.tag,c.old.num,0,c.new.slot,c.new.gen,c.new.tag,c.new.num,0,c.i,c.j,c.code,c.val]:List Int).getD i 0) fun i=>if i=8 then c.old.mark else c.new.mark
def Ia (x:Rp):Env:=Cm (fun i=>([x.word.slot,x.word.gen,x.word.tag,x.word.num]:List Int).getD i 0) fun i=>if i=4 then x.word.mark else x.ok
theorem QQ {w:World} {b:Nat} {s:Int} (h:w.cell? ⟨b,18,none⟩=some (.int .i64 s)):Calls Tryz.prog 36 #[.pointer (some ⟨b,0,none⟩)] w fun e w'=>e=.returned (.bool (decide (s≠0)))∧w'=w:=by
 go_enter Tryz.func36,Tryz.ntmps36
 go_wp2
 go_ret
 by_cases hs:s=0 <;> simp [hs]
structure sH (r:RS):Prop where
 st:(0≤r.me∧r.me<6)∧1≤r.threads∧r.threads≤6
 few:r.notes.length≤1000000
def Yr (w:Wd):Prop:=(-1000000000000≤w.tag∧w.tag≤1000000000000)∧-1000000000000≤w.num∧w.num≤1000000000000
structure oF (r:RS) (x:Rp):Prop where
 ok:sH r
 s13:r.step=13→r.seen.length≤99999∧(0≤r.index∧r.index≤99999)∧(r.av=4→Yr r.clock)
 s15:r.step=15→r.av=4
 w:Yr x.word
 freed:-1000000000000≤r.freed∧r.freed≤1000000000000
 s16:r.step=16→∃d l,r.bG=d :: l∧d∈r.notes
 s0:r.step≠0
 s4:r.step=4→0≤r.index∧r.index≤8
 aaL:r.step=5∨r.step=6∨r.step=7→0≤r.call.i∧r.call.i<9
theorem Yt {q:Env} {x:Rp} (H:oF (aa q 0 4) x) (e2:aH q 71=x) (ho:bE q 4):ve q:=by
 have hst:(aa q 0 4).step=q.iv 22:=rfl
 refine ⟨⟨ho,⟨H.ok.st.1.1,H.ok.st.1.2,H.ok.st.2.1,H.ok.st.2.2⟩,⟨⟨?_,fun h=>?_⟩,fun h h4=>(H.s13 h).2.2 h4,fun h=>(H.s13 h).2.1,fun h=>H.s15 h⟩,?_,H.freed,H.s16⟩,H.s0,H.s4,H.aaL⟩
 ·have h1:(aQ q 70 (q.iv 59)).length≤1000000:=H.ok.few
  rw [jI] at h1
  omega
 ·have h1:(dG q 68 (q.iv 49)).length≤99999:=(H.s13 h).1
  have h2:(dG q 68 (q.iv 49)).length=(q.iv 49).toNat:=by simp [dG]
  rw [h2] at h1
  omega
 ·have:=H.w
  rw [←e2] at this
  exact this
def Kb (i:Nat):Nat:=if i<4 then i else i+85
theorem Kc:(List.range dB.length).map (fun j=>kz.hp'[gR j]?)=dB.map fun sb=>some (sb.aT Kb gR):=by kernel_rfl
theorem TG {w:World} {a:Addr} {r:RS} {B:Nat→Prop} {c:Ca} (h:kH w a r B) (hk:sH r) (h0:r.step=0) (hc:c.OK) :
  Calls Tryz.prog 37 #[.pointer (some a),pU c] w fun ev w'=>ev=.returned .nilIface∧∃B',kH w' a (r.begin c).1 B'∧(∀x,B' x→w.heap.size≤x∨B x)∧bU w B w':=by
 obtain ⟨ρ,ν,rfl,hh0,rfl,ho,hB⟩:=h.ex
 have hA:di 71 4 ρ (ρ.cat 71 (Vm c)) ν ν:=⟨fun _ h=>if_pos h,fun _ h=>if_pos h,fun _ h=>if_pos h,fun _ h=>if_pos h,fun _ h=>if_pos h,fun _ h=>if_pos h,fun _ _=>rfl⟩
 obtain ⟨q,hq⟩:∃q,q=ρ.cat 71 (Vm c):=⟨_,rfl⟩
 rw [←hq] at hA
 have hh:aK q ν dB w:=hh0.ext hA (by kernel_rfl) (by decide)
 have e1:aa q 0 4=aa ρ 0 4:=by rw [hq];rfl
 have hoq:bE q 4:=by rw [hq];exact ho
 have e2:iW q 71=c:=by rw [hq];rfl
 have hpre':wU q:=by
  refine ⟨⟨hoq,?_,?_⟩,?_,?_⟩
  ·have:(0≤(aa q 0 4).me∧(aa q 0 4).me<6)∧1≤(aa q 0 4).threads∧(aa q 0 4).threads≤6:=by rw [e1];exact hk.st
   exact ⟨this.1.1,this.1.2,this.2.1,this.2.2⟩
  ·have h1:(aQ q 70 (q.iv 59)).length≤1000000:=by
    have:=hk.few
    rw [←e1] at this
    exact this
   rw [jI] at h1
   show q.iv 59≤1000000
   omega
  ·show (aa q 0 4).step=0
   rw [e1]
   exact h0
  ·rw [e2]
   exact hc
 have hrun:=Qr.run q ν w hh ⟨fun g k _ h=>(by cases h),fun g g' k k' _ _ h=>(by cases h)⟩ hpre'
 have hargs:(kz.args.map (·.den q ν)).toArray=#[.pointer (some (ν 0)),pU c]:=by
  rw [hq]
  rfl
 rw [hargs] at hrun
 refine Calls.mono hrun ?_
 rintro ev w' ⟨ρ',aI,hA',rfl,gW,hwr,how,q1,q2⟩
 have e0:aa ρ' 0 4=aa q 0 4:=by
  unfold aa iW ay aH ak dG aQ gF bM
  simp (disch:=decide) only [hA'.iv,hA'.bv,hA'.ic,hA'.bc]
 have e3:iW ρ' 71=iW q 71:=by
  unfold iW ak
  simp (disch:=decide) only [hA'.iv,hA'.bv]
 replace q2:aa ρ' 0 89=((aa ρ' 0 4).begin (iW ρ' 71)).1:=q2
 rw [e0,e1,e3,e2] at q2
 have lh:∀x,iN q ν dB x→B x:=fun x h=>hB x ((ql hA (by kernel_rfl) (by decide)).1 (lV h))
 refine ⟨rfl,fZ (ρ'.pull Kb) (fun k=>aI (gR k)) dB,⟨ρ'.pull Kb,fun k=>aI (gR k),?_,gW.sub Kc Eh,q2,q1,fun _ h=>h⟩,fun x hx=>((how.sub Kc).aD xh hx).imp id (lh x),hwr.os,hwr.tape,hwr.output,hwr.size,fun b hb hn=>hwr.block b hb fun h=>hn (lh b h)⟩
 show aI 0=ν 0
 exact hA'.bl 0 (by decide)
def Oe (i:Nat):Nat:=if i<4 then i else i+73
theorem Mg:(List.range dB.length).map (fun j=>mf.hp'[gR j]?)=dB.map fun sb=>some (sb.aT Oe gR):=by kernel_rfl
theorem WC {w:World} {a:Addr} {r:RS} {B:Nat→Prop} {x:Rp} (h:kH w a r B) (hk:oF r x) :
  Calls Tryz.prog 40 #[.pointer (some a),iX x] w fun ev w'=>ev=.returned .nilIface∧∃B',kH w' a (r.bL x).1 B'∧(∀x,B' x→w.heap.size≤x∨B x)∧bU w B w':=by
 obtain ⟨ρ,ν,rfl,hh0,rfl,ho,hB⟩:=h.ex
 have hA:di 71 4 ρ (ρ.cat 71 (Ia x)) ν ν:=⟨fun _ h=>if_pos h,fun _ h=>if_pos h,fun _ h=>if_pos h,fun _ h=>if_pos h,fun _ h=>if_pos h,fun _ h=>if_pos h,fun _ _=>rfl⟩
 obtain ⟨q,hq⟩:∃q,q=ρ.cat 71 (Ia x):=⟨_,rfl⟩
 rw [←hq] at hA
 have hh:aK q ν dB w:=hh0.ext hA (by kernel_rfl) (by decide)
 have e1:aa q 0 4=aa ρ 0 4:=by rw [hq];rfl
 have hoq:bE q 4:=by rw [hq];exact ho
 have e2:aH q 71=x:=by rw [hq];rfl
 have hpre':ve q:=Yt (x:=x) (by rw [e1];exact hk) e2 hoq
 have hrun:=Ty.run q ν w hh ⟨fun g k _ h=>(by cases h),fun g g' k k' _ _ h=>(by cases h)⟩ hpre'
 have hargs:(mf.args.map (·.den q ν)).toArray=#[.pointer (some (ν 0)),iX x]:=by
  rw [hq]
  rfl
 rw [hargs] at hrun
 refine Calls.mono hrun ?_
 rintro ev w' ⟨ρ',aI,hA',rfl,gW,hwr,how,q1,q2⟩
 have e0:aa ρ' 0 4=aa q 0 4:=by
  unfold aa iW ay aH ak dG aQ gF bM
  simp (disch:=decide) only [hA'.iv,hA'.bv,hA'.ic,hA'.bc]
 have e3:aH ρ' 71=aH q 71:=by
  unfold aH ak
  simp (disch:=decide) only [hA'.iv,hA'.bv]
 replace q2:aa ρ' 0 77=((aa ρ' 0 4).bL (aH ρ' 71)).1:=q2
 rw [e0,e1,e3,e2] at q2
 have lh:∀x,iN q ν dB x→B x:=fun x h=>hB x ((ql hA (by kernel_rfl) (by decide)).1 (lV h))
 refine ⟨rfl,fZ (ρ'.pull Oe) (fun k=>aI (gR k)) dB,⟨ρ'.pull Oe,fun k=>aI (gR k),?_,gW.sub Mg Eh,q2,q1,fun _ h=>h⟩,fun x hx=>((how.sub Mg).aD xh hx).imp id (lh x),hwr.os,hwr.tape,hwr.output,hwr.size,fun b hb hn=>hwr.block b hb fun h=>hn (lh b h)⟩
 show aI 0=ν 0
 exact hA'.bl 0 (by decide)
def Og (i:Nat):Nat:=if i<4 then i else i+67
theorem Mh:(List.range dB.length).map (fun j=>kG.hp'[gR j]?)=dB.map fun sb=>some (sb.aT Og gR):=by kernel_rfl
theorem WE {w:World} {a:Addr} {r:RS} {B:Nat→Prop}  (h:kH w a r B) (h0:r.step≠0) :
  Calls Tryz.prog 39 #[.pointer (some a)] w fun ev w'=>ev=.returned (.tuple #[oD r.acc,.bool true])∧∃B',kH w' a r B'∧(∀x,B' x→w.heap.size≤x∨B x)∧bU w B w':=by
 obtain ⟨ρ,ν,rfl,hh0,rfl,ho,hB⟩:=h.ex
 have hA:di 71 4 ρ (ρ.cat 71 (Cm (fun _=>0) fun _=>false)) ν ν:=⟨fun _ h=>if_pos h,fun _ h=>if_pos h,fun _ h=>if_pos h,fun _ h=>if_pos h,fun _ h=>if_pos h,fun _ h=>if_pos h,fun _ _=>rfl⟩
 obtain ⟨q,hq⟩:∃q,q=ρ.cat 71 (Cm (fun _=>0) fun _=>false):=⟨_,rfl⟩
 rw [←hq] at hA
 have hh:aK q ν dB w:=hh0.ext hA (by kernel_rfl) (by decide)
 have e1:aa q 0 4=aa ρ 0 4:=by rw [hq];rfl
 have hoq:bE q 4:=by rw [hq];exact ho
 have hpre':xe q:=⟨hoq,fun h=>h0 (by rw [←e1];exact h)⟩
 have hrun:=QN.run q ν w hh ⟨fun g k _ h=>(by cases h),fun g g' k k' _ _ h=>(by cases h)⟩ hpre'
 have hargs:(kG.args.map (·.den q ν)).toArray=#[.pointer (some (ν 0))]:=by
  rw [hq]
  rfl
 rw [hargs] at hrun
 refine Calls.mono hrun ?_
 rintro ev w' ⟨ρ',aI,hA',rfl,gW,hwr,how,q1,⟨q3,q4⟩,q2⟩
 have e0:aa ρ' 0 4=aa q 0 4:=by
  unfold aa iW ay aH ak dG aQ gF bM
  simp (disch:=decide) only [hA'.iv,hA'.bv,hA'.ic,hA'.bc]
 replace q2:aa ρ' 0 71=aa ρ' 0 4:=q2
 replace q3:ay ρ' 138=(aa ρ' 0 4).acc:=q3
 replace q4:ρ'.bv 152=true:=q4
 rw [e0,e1] at q2
 rw [e0,e1] at q3
 have lh:∀x,iN q ν dB x→B x:=fun x h=>hB x ((ql hA (by kernel_rfl) (by decide)).1 (lV h))
 refine ⟨?_,fZ (ρ'.pull Og) (fun k=>aI (gR k)) dB,⟨ρ'.pull Og,fun k=>aI (gR k),?_,gW.sub Mh Eh,q2,q1,fun _ h=>h⟩,fun x hx=>((how.sub Mh).aD xh hx).imp id (lh x),hwr.os,hwr.tape,hwr.output,hwr.size,fun b hb hn=>hwr.block b hb fun h=>hn (lh b h)⟩
 ·rw [←q3]
  show Ending.returned (.tuple #[_,.bool (ρ'.bv 152)])=_
  rw [q4]
  rfl
 ·show aI 0=ν 0
  exact hA'.bl 0 (by decide)
def Ke (i:Nat):Nat:=if i<4 then i else i+67
theorem Kg:(List.range dB.length).map (fun j=>jK.hp'[gR j]?)=dB.map fun sb=>some (sb.aT Ke gR):=by kernel_rfl
theorem TH {w:World} {a:Addr} {r:RS} {B:Nat→Prop}  (h:kH w a r B)  :
  Calls Tryz.prog 38 #[.pointer (some a)] w fun ev w'=>ev=.returned (iX r.bT)∧∃B',kH w' a r B'∧(∀x,B' x→w.heap.size≤x∨B x)∧bU w B w':=by
 obtain ⟨ρ,ν,rfl,hh0,rfl,ho,hB⟩:=h.ex
 have hA:di 71 4 ρ (ρ.cat 71 (Cm (fun _=>0) fun _=>false)) ν ν:=⟨fun _ h=>if_pos h,fun _ h=>if_pos h,fun _ h=>if_pos h,fun _ h=>if_pos h,fun _ h=>if_pos h,fun _ h=>if_pos h,fun _ _=>rfl⟩
 obtain ⟨q,hq⟩:∃q,q=ρ.cat 71 (Cm (fun _=>0) fun _=>false):=⟨_,rfl⟩
 rw [←hq] at hA
 have hh:aK q ν dB w:=hh0.ext hA (by kernel_rfl) (by decide)
 have e1:aa q 0 4=aa ρ 0 4:=by rw [hq];rfl
 have hoq:bE q 4:=by rw [hq];exact ho
 have hpre':tV q:=hoq
 have hrun:=Oa.run q ν w hh ⟨fun g k _ h=>(by cases h),fun g g' k k' _ _ h=>(by cases h)⟩ hpre'
 have hargs:(jK.args.map (·.den q ν)).toArray=#[.pointer (some (ν 0))]:=by
  rw [hq]
  rfl
 rw [hargs] at hrun
 refine Calls.mono hrun ?_
 rintro ev w' ⟨ρ',aI,hA',rfl,gW,hwr,how,q1,q3,q2⟩
 have e0:aa ρ' 0 4=aa q 0 4:=by
  unfold aa iW ay aH ak dG aQ gF bM
  simp (disch:=decide) only [hA'.iv,hA'.bv,hA'.ic,hA'.bc]
 replace q2:aa ρ' 0 71=aa ρ' 0 4:=q2
 replace q3:aH ρ' 138=(aa ρ' 0 4).bT:=q3
 rw [e0,e1] at q2
 rw [e0,e1] at q3
 have lh:∀x,iN q ν dB x→B x:=fun x h=>hB x ((ql hA (by kernel_rfl) (by decide)).1 (lV h))
 refine ⟨?_,fZ (ρ'.pull Ke) (fun k=>aI (gR k)) dB,⟨ρ'.pull Ke,fun k=>aI (gR k),?_,gW.sub Kg Eh,q2,q1,fun _ h=>h⟩,fun x hx=>((how.sub Kg).aD xh hx).imp id (lh x),hwr.os,hwr.tape,hwr.output,hwr.size,fun b hb hn=>hwr.block b hb fun h=>hn (lh b h)⟩
 ·rw [←q3]
  rfl
 ·show aI 0=ν 0
  exact hA'.bl 0 (by decide)
end Go.Proofs.YthomdlajobnmnaaGreatDoor
namespace Go.Proofs.YthomdlajobnmnaaGreatDoor
open Go.Rex
def QR (w:Wd):Int:=w.slot+2000 * w.gen
def Ca.of (kind:Int):Ca:={Ca.zero with kind:=kind}
structure Th where
 l:Lo
 t:RT
 pc:Int
 old:Wd
 node:Wd
 bad:Bool
 stop:Bool
def Th.call (h:Th) (x:Rp):Th × Ca :=
 if h.pc=0 then ({h with pc:=1},Ca.of 1)
 else if h.pc=1 then ({h with pc:=2},Ca.of 6)
 else if h.pc=2 then ({h with pc:=3,old:=x.word},if x.word.slot=0 then Ca.of 3 else {Ca.of 3 with slot:=x.word.slot,gen:=x.word.gen,field:=1})
 else if h.pc=3 then ({h with pc:=4,bad:=h.bad || (h.old.slot != 0 && x.word.num != QR h.old)},Ca.of 8)
 else if h.pc=4 then
  if x.ok=false then ({h with pc:=0},Ca.of 2)
  else ({h with pc:=5,node:=x.word},{Ca.of 4 with slot:=x.word.slot,gen:=x.word.gen,field:=1,new:=Wd.dK (QR x.word)})
 else if h.pc=5 then ({h with pc:=6},{Ca.of 5 with old:=h.old,new:=⟨h.node.slot,h.node.gen,h.old.tag+1,0,false⟩})
 else if h.pc=6 then ({h with pc:=7},if x.ok=false then {Ca.of 9 with old:=h.node} else if h.old.slot=0 then Ca.of 3 else {Ca.of 10 with old:=h.old})
 else ({h with pc:=0},Ca.of 2)
def Th.with (h:Th) (q:LR):Th:={h with l:=q.1,t:=q.2}
def Th.iG (h:Th) (x:Rp):Th:=(h.call x).1.with (RT.begin (h.call x).1.l (h.call x).2)
structure Sm (a b:Lo):Prop where
 av:b.av=a.av
 me:b.me=a.me
 threads:b.threads=a.threads
 most:b.most=a.most
theorem Sm.refl (a:Lo):Sm a a:=⟨rfl,rfl,rfl,rfl⟩
theorem fJ {c:Prop} [Decidable c] {l:Lo} {a b:LR} (h1:Sm l a.1) (h2:Sm l b.1):Sm l (if c then a else b).1:=by
 by_cases h:c
 ·rw [if_pos h];exact h1
 ·rw [if_neg h];exact h2
theorem RT.Kh (l:Lo) (k:Int):Sm l (RT.leave l k).1:=by
 refine fJ ⟨rfl,rfl,rfl,rfl⟩ (fJ ?_ (Sm.refl l))
 cases RS.first l.h k.toNat (9-k.toNat) <;> exact ⟨rfl,rfl,rfl,rfl⟩
theorem RT.Mi (l:Lo):Sm l (RT.scan l).1:=fJ (Sm.refl l) (fJ (Sm.refl l) (Sm.refl l))
theorem RT.Ki (l:Lo):Sm l (RT.dC l).1:=fJ (RT.Mi l) (Sm.refl l)
theorem RT.Mj (l:Lo) (w:Wd) (b d:Int):Sm l (RT.dC (RT.note l w b d)).1:=by
 obtain ⟨a1,a2,a3,a4⟩:=RT.Ki (RT.note l w b d)
 exact ⟨a1,a2,a3,a4⟩
theorem RT.TK (l:Lo) (c:Ca):Sm l (RT.begin l c).1 :=
 fJ (fJ (Sm.refl l) (Sm.refl l))<|fJ (RT.Kh l 0)<|fJ (Sm.refl l)<|fJ (Sm.refl l)<|fJ (Sm.refl l)<|fJ (Sm.refl l)<|fJ (fJ ⟨rfl,rfl,rfl,rfl⟩ (Sm.refl l))<|fJ (fJ (Sm.refl l) (Sm.refl l))<|fJ (Sm.refl l) <|
  fJ (fJ (RT.Mj ..)<|fJ (Sm.refl l)<|fJ (Sm.refl l) (Sm.refl l)) (RT.Mi l)
theorem RT.Fx (l:Lo) (r:List Nt):Sm l (RT.ed l r).1:=by cases r <;> exact Sm.refl l
theorem Sm.ok {a b:Lo} (h:Sm a b) (ho:a.OK):b.OK:=⟨by rw [h.av];exact ho.av,by rw [h.me,h.threads];exact ho.me,by rw [h.threads];exact ho.threads,by rw [h.most];exact ho.most⟩
theorem RT.TL {l:Lo} {c:Ca} (h:l.OK):(RT.begin l c).1.OK:=(RT.TK l c).ok h
theorem RT.Fy {t:RT} (h:t.iF=0):∃x,t=.idle x:=by
 cases t with
 | idle x=>exact ⟨x,rfl⟩
 | _=>cases h
section
variable {p:PS}
theorem Cn {s g f:Int} {o w:Wd} (hv:p.has s g f) (hl:p.live s g):p.act ⟨1,s,g,f,o,w⟩=({p with steps:=p.steps+1},some ⟨p.at s f,true⟩):=by
 unfold PS.act
 rw [if_pos (by unfold PS.valid;rw [if_pos (.inl rfl)];exact hv),if_pos (by unfold PS.right;rw [if_neg (show ¬(1:Int)=4 by decide),if_neg (show ¬(1:Int)=5 by decide)];exact hl)]
 rfl
theorem zt {s g f:Int} {o w:Wd} (hv:p.has s g f) (hl:p.live s g):p.act ⟨2,s,g,f,o,w⟩=(PS.put {p with steps:=p.steps+1} s f w,some ⟨Wd.zero,true⟩):=by
 unfold PS.act
 rw [if_pos (by unfold PS.valid;rw [if_pos (.inr (.inl rfl))];exact hv),if_pos (by unfold PS.right;rw [if_neg (show ¬(2:Int)=4 by decide),if_neg (show ¬(2:Int)=5 by decide)];exact hl)]
 rfl
theorem Kj {s g f:Int} {o w:Wd} (hv:p.has s g f) (hl:p.live s g):p.act ⟨3,s,g,f,o,w⟩=if iD (p.at s f) o then (PS.put {p with steps:=p.steps+1} s f w,some ⟨p.at s f,true⟩) else ({p with steps:=p.steps+1},some ⟨p.at s f,false⟩):=by
 unfold PS.act
 rw [if_pos (by unfold PS.valid;rw [if_pos (.inr (.inr rfl))];exact hv),if_pos (by unfold PS.right;rw [if_neg (show ¬(3:Int)=4 by decide),if_neg (show ¬(3:Int)=5 by decide)];exact hl)]
 unfold PS.makes
 rw [if_neg (show ¬(3:Int)=4 by decide),if_neg (show ¬(3:Int)=5 by decide),if_neg (show ¬(3:Int)=1 by decide),if_neg (show ¬(3:Int)=2 by decide)]
 by_cases g:iD (p.at s f) o
 ·rw [if_pos g,if_pos (show iD (PS.at {p with steps:=p.steps+1} s f) o from g)]
  rfl
 ·rw [if_neg g,if_neg (show ¬iD (PS.at {p with steps:=p.steps+1} s f) o from g)]
  rfl
theorem WG {s g f:Int} {o w:Wd}:p.act ⟨4,s,g,f,o,w⟩=((PS.alloc {p with steps:=p.steps+1} w.num).1,some (PS.alloc {p with steps:=p.steps+1} w.num).2):=by
 unfold PS.act
 rw [if_pos (by unfold PS.valid;rw [if_neg (by simp),if_pos rfl];trivial),if_pos (by unfold PS.right;rw [if_pos rfl];trivial)]
 rfl
theorem TM {s g f:Int} {o w:Wd} (hv:p.is o.slot) (hl:p.live o.slot o.gen):p.act ⟨5,s,g,f,o,w⟩=(PS.free {p with steps:=p.steps+1} o.slot,some ⟨Wd.zero,true⟩):=by
 unfold PS.act
 rw [if_pos (by unfold PS.valid;rw [if_neg (by simp),if_neg (by simp),if_pos rfl];exact hv),if_pos (by unfold PS.right;rw [if_neg (by simp),if_pos rfl];exact hl)]
 rfl
end
structure Op where
 kind:Int
 key:Int
 val:Int
 Fz:Int
 deriving DecidableEq
structure Jb where
 at':Int
 last:Ca
 op:Op
 node:Wd
 top:Wd
 val:Int
def Jb.new (o:Op):Jb:=⟨0,Ca.zero,o,Wd.zero,Wd.zero,0⟩
def Jb.ask (j:Jb) (s:Int) (c:Ca):Jb × Ca:=({j with at':=s},c)
def Jb.fin (j:Jb) (code val:Int):Jb × Ca:=({j with at':=-1,last:={Ca.of 12 with code:=code,val:=val}},{Ca.of 12 with code:=code,val:=val})
def QS (w:Wd) (f:Int):Ca:={Ca.of 3 with slot:=w.slot,gen:=w.gen,field:=f}
def Vn (w:Wd) (f:Int) (x:Wd):Ca:={Ca.of 4 with slot:=w.slot,gen:=w.gen,field:=f,new:=x}
def Vo (o:Wd) (r:Wd):Ca:={Ca.of 5 with old:=o,new:=⟨r.slot,r.gen,o.tag+1,0,false⟩}
def Jb.push (j:Jb) (x:Rp):Jb × Ca :=
 if j.at'=0 then j.ask 1 (Ca.of 8)
 else if j.at'=1 then (if x.ok=false then j.fin 4 0 else {j with node:=x.word}.ask 2 (Vn x.word 1 (Wd.dK j.op.val)))
 else if j.at'=5 then (if x.ok=true then j.fin 1 0 else j.ask 3 (Ca.of 3))
 else if j.at'=2 then j.ask 3 (Ca.of 3)
 else if j.at'=3 then {j with top:=x.word}.ask 4 (Vn j.node 2 x.word.dS)
 else if j.at'=4 then j.ask 5 (Vo j.top j.node)
 else (j,j.last)
def Jb.pop (j:Jb) (x:Rp):Jb × Ca :=
 if j.at'=3 then (if x.ok=true then j.ask 4 (QS j.top 1) else j.ask 1 (Ca.of 6))
 else if j.at'=0 then j.ask 1 (Ca.of 6)
 else if j.at'=1 then
  (if x.word.slot=0 then {j with top:=x.word}.fin 2 0
   else if j.op.kind=3 then {j with top:=x.word}.ask 4 (QS x.word 1)
   else {j with top:=x.word}.ask 2 (QS x.word 2))
 else if j.at'=2 then j.ask 3 (Vo j.top x.word)
 else if j.at'=4 then (if j.op.kind=3 then {j with val:=x.word.num}.fin 1 x.word.num else {j with val:=x.word.num}.ask 5 {Ca.of 10 with old:=j.top})
 else if j.at'=5 then j.fin 1 j.val
 else (j,j.last)
def Jb.next (j:Jb) (x:Rp):Jb × Ca:=if j.op.kind=1 then j.push x else j.pop x
def Op.dF (o:Op):Prop:=if o.kind=1 then o.key=0∧o.Fz=0∧0≤o.val∧o.val≤1073741824 else (o.kind=2∨o.kind=3)∧o.key=0∧o.val=0∧o.Fz=0
instance (o:Op):Decidable o.dF:=by unfold Op.dF;exact inferInstance
structure Wk where
 r:RS
 ops:List Op
 j:Option Jb
 bV:Bool
 said:List (Int × Int)
def Wk.go:Nat→Wk→Wk × Option Bool
 | 0,w=>(w,none)
 | k+1,w =>
  if w.r.step≠0 then (w,none)
  else match w.j with
  | none =>
   if w.bV=true then
    if (w.r.begin (Ca.of 2)).2=false then ({w with bV:=false,r:=(w.r.begin (Ca.of 2)).1},some false) else Wk.go k {w with bV:=false,r:=(w.r.begin (Ca.of 2)).1}
   else if w.said.length≥w.ops.length then (w,some false)
   else if ¬(w.ops.getD w.said.length ⟨0,0,0,0⟩).dF then Wk.go k {w with said:=w.said ++ [(0,0)]}
   else if (w.r.begin (Ca.of 1)).2=false then ({w with j:=some (Jb.new (w.ops.getD w.said.length ⟨0,0,0,0⟩)),bV:=true,r:=(w.r.begin (Ca.of 1)).1},some false)
   else Wk.go k {w with j:=some (Jb.new (w.ops.getD w.said.length ⟨0,0,0,0⟩)),bV:=true,r:=(w.r.begin (Ca.of 1)).1}
  | some j =>
   if (j.next w.r.bT).2.kind=12 then Wk.go k {w with said:=w.said ++ [((j.next w.r.bT).2.code,(j.next w.r.bT).2.val)],j:=none}
   else if (w.r.begin (j.next w.r.bT).2).2=false then ({w with j:=some (j.next w.r.bT).1,r:=(w.r.begin (j.next w.r.bT).2).1},some false)
   else Wk.go k {w with j:=some (j.next w.r.bT).1,r:=(w.r.begin (j.next w.r.bT).2).1}
def Wk.step (w:Wk) (p:PS):Wk × PS × Bool :=
 match w.go 200 with
 | (w,some b)=>(w,p,b)
 | (w,none) =>
  if w.r.step=0 then (w,p,false) else
  match p.act w.r.acc with
  | (p,none)=>(w,p,false)
  | (p,some x)=>({w with r:=(w.r.bL x).1},p,(w.r.bL x).2)
def Wk.idle (w:Wk):Prop:=w.r.step=0∧w.j=none∧w.bV=false∧w.said.length≥w.ops.length
instance (w:Wk):Decidable (w.j=none):=by
 cases h:w.j with
 | none=>exact isTrue rfl
 | some _=>exact isFalse (fun h=>by cases h)
instance (w:Wk):Decidable w.idle:=by unfold Wk.idle;exact inferInstance
def Wk.new (av me threads notes:Int) (ops:List Op):Wk:=⟨RS.new av me threads notes,ops,none,false,[]⟩
def Ei:List Op:=[⟨2,0,0,0⟩,⟨3,0,0,0⟩,⟨2,0,0,0⟩]
structure Yu (p:PS):Prop where
 ok:p.OK
 nb:p.nb=85
 dF:p.dF=true
 made:p.made=0
 root:p.bd 0=Wd.zero
 kQ:p.bd 24=Wd.dK 1
theorem uw (h:Nat→Wd):∀(k n m:Nat),RS.first h n k=some m→n≤m∧m<n+k
 | 0,n,m,e=>by cases e
 | k+1,n,m,e=>by
  unfold RS.first at e
  by_cases hz:h n≠Wd.zero
  ·rw [if_pos hz] at e
   cases e
   omega
  ·rw [if_neg hz] at e
   have:=uw h k (n+1) m e
   omega
def mT (l:Lo):RT→Nat
 | .fin _=>1
 | .ji i=>(10-i).toNat
 | .qy=>2
 | .gK _=>if RT.dE l 0 1 then 2 else 5
 | .jq _ _=>if RT.dE l 0 1 then 1 else 4
 | .iE _ _=>3
 | _=>0
def StA (l:Lo) (t:RT):Prop:=(∃x,t=.idle x)∨(∃s,t=.fin (RT.j6 l s))∨∃i:Nat,i<9∧t=.ji i
def StB (l:Lo) (t:RT):Prop:=(∃x,t=.idle x)∨t=.qy∨∃s,t=.fin (RT.j6 l s)
def StC (l:Lo) (t:RT):Prop:=(∃b,t=.idle ⟨Wd.zero,b⟩)∨t=.gK (Ca.of 6)∨(l.bJ∧t=.jq (Ca.of 6) Wd.zero)∨(RT.dE l 0 1∧∃f w,(25≤f∧f<85)∧t=.iE (Ca.of 6) (Ac.store 0 0 f w))
section
variable {l:Lo} {t:RT} {p:PS}
end
end Go.Proofs.YthomdlajobnmnaaGreatDoor
namespace Go.Proofs.YthomdlajobnmnaaGreatDoor
open Go.RowKit Go.Rex
theorem Nw.trans {a b c:World} (h1:Nw a b) (h2:Nw b c):Nw a c :=
 ⟨h2.os.trans h1.os,h2.tape.trans h1.tape,h2.output.trans h1.output,Nat.le_trans h1.size h2.size,fun k hk _=>(h2.block k (Nat.lt_of_lt_of_le hk h1.size) id).trans (h1.block k hk id)⟩
theorem QT {a b c:World} {F:Nat→Prop} (h1:Nw a b) (h2:bU b F c) (hF:∀x,F x→a.heap.size≤x):Nw a c :=
 ⟨h2.os.trans h1.os,h2.tape.trans h1.tape,h2.output.trans h1.output,Nat.le_trans h1.size h2.size,fun k hk _=>(h2.block k (Nat.lt_of_lt_of_le hk h1.size) fun h=>absurd (hF k h) (Nat.not_le.2 hk)).trans (h1.block k hk id)⟩
theorem Nw.dD {w w':World} (h:Nw w w') {a:Addr} {x:Value} (hc:w.cell? a=some x):w'.cell? a=some x:=by
 rw [←hc]
 unfold World.cell?
 rw [h.block _ (World.block_lt_of_cell? _ _ hc) id]
theorem jf.cells {w:World} {a:Addr} {p:PS} {B:Nat→Prop} (h:jf w a p B) (hg:p.dF=true):∃b,a=⟨b,0,none⟩∧w.cell? ⟨b,4,none⟩=some (.int .i64 p.made)∧w.cell? ⟨b,5,none⟩=some .nilIface:=by
 obtain ⟨ρ,ν,rfl,h1,rfl,h3,h4⟩:=h.ex
 obtain ⟨g1,cs,g2,g3⟩:=h1.aD 0 _ rfl rfl rfl
 have g2:=g2.cells rfl
 refine ⟨(ν 0).block,g1,?_,?_⟩
 ·have:=g3.ex 4 _ rfl rfl
  unfold World.cell?
  rw [g2]
  exact this
 ·have:=g3.ex 5 _ rfl rfl
  unfold World.cell?
  rw [g2]
  refine this.trans (congrArg some ?_)
  show (if ρ.bv 7=true then Value.nilIface else _)=_
  exact if_pos hg
theorem Oh {w:World} {b:Nat} (h:w.cell? ⟨b,5,none⟩=some .nilIface):Calls Tryz.prog 11 #[.pointer (some ⟨b,0,none⟩)] w fun e w'=>e=.returned .nilIface∧w'=w:=by
 go_enter Tryz.func11,Tryz.ntmps11
 go_wp2
 go_ret
 exact ⟨rfl,rfl⟩
end Go.Proofs.YthomdlajobnmnaaGreatDoor
namespace Go.Proofs.YthomdlajobnmnaaGreatDoor
open Go.Rex
def Mk (v:Nat):List SC:=[iv v,iv (v+1),iv (v+2),iv (v+3)]
def Vp (v:Nat):SB:={t:=130,cs:=[iv v] ++ zX (v+1) ++ Mk (v+19) ++ mM (v+23) ++ mM (v+28) ++ [iv (v+33)],own:=true}
def kJ:dX:={f:=30,nv:=40,args:=[.one (.ptr {aD:=0}),.agg (uT 34)],hp:=[Vp 0],jc:=92,ret:=.w (.agg (zX 74)),hp':=[Vp 40]}
def dA:dX:={f:=29,nv:=4,args:=[.agg (Mk 0)],hp:=[],jc:=38,ret:=.gZ [.one (.ptr {aD:=0}),.one .df],hp':=[Vp 4]}
noncomputable def QU:Ex:={sched:=sched,loops:=[],cons:=[],fin:=kJ}
def Co:Out :=
 .br (.aB (.var 19) (.lit 1))
 (.br (.aB (.var 0) (.lit 0))
  (.fin {lo:=40,az:=1,iv:=yo [(73,yv 33)]<|yr 71 31 4<|yr 66 26 12<|yr 53 13 4<|yr 48 8 8<|[(40,.lit 1),(91,.lit 0),(90,.lit 0),(89,.lit 0),(88,.lit 0),(86,.lit 0),(85,.lit 0),(84,.lit 0),(83,.lit 0),(81,.lit 0),(80,.lit 0),(79,.lit 0),(78,.lit 0),(77,.lit 0),(76,.lit 0),(75,.lit 0),(74,.lit 8)],bv:=[(72,yw 32),(67,yw 27),(54,yw 14),(49,yw 9),(87,.lit false),(82,.lit false)]})
  (.br (.aB (.var 0) (.lit 1))
   (.br (.not (.var 39))
    (.fin {lo:=40,az:=1,iv:=yo [(73,yv 33)]<|yr 71 31 4<|yr 66 26 8<|[(58,.lit 0),(57,.lit 4),(56,.lit 0),(55,.lit 0),(53,.lit 0),(52,.lit 0),(51,.lit 0),(50,.lit 0),(48,.lit 0),(47,.lit 0),(46,.lit 0),(45,.lit 0),(44,.lit 0),(43,.lit 0),(42,.lit 0),(41,.lit 12),(40,.lit (-1)),(91,.lit 0),(90,.lit 4),(89,.lit 0),(88,.lit 0),(86,.lit 0),(85,.lit 0),(84,.lit 0),(83,.lit 0),(81,.lit 0),(80,.lit 0),(79,.lit 0),(78,.lit 0),(77,.lit 0),(76,.lit 0),(75,.lit 0),(74,.lit 12)],bv:=[(72,yw 32),(67,yw 27),(54,.lit false),(49,.lit false),(87,.lit false),(82,.lit false)]})
    (.fin {lo:=40,az:=1,iv:=yo [(73,yv 33)]<|yr 71 31 4<|yr 66 37 4<|yr 62 22 8<|yr 53 13 4<|yr 48 8 8<|[(40,.lit 2),(91,.lit 0),(90,.lit 0),(89,.lit 0),(88,.lit 0),(86,yv 21),(85,.lit 0),(84,.lit 0),(83,.lit 0),(81,.lit 0),(80,.lit 0),(79,.lit 0),(78,.lit 0),(77,.lit 1),(76,yv 35),(75,yv 34),(74,.lit 4)],bv:=[(72,yw 32),(67,yw 38),(54,yw 14),(49,yw 9),(87,.lit false),(82,.lit false)]}))
   (.br (.aB (.var 0) (.lit 5))
    (.br (.var 39)
     (.fin {lo:=40,az:=1,iv:=yo [(73,yv 33)]<|yr 71 31 4<|yr 66 26 8<|[(58,.lit 0),(57,.lit 1),(56,.lit 0),(55,.lit 0),(53,.lit 0),(52,.lit 0),(51,.lit 0),(50,.lit 0),(48,.lit 0),(47,.lit 0),(46,.lit 0),(45,.lit 0),(44,.lit 0),(43,.lit 0),(42,.lit 0),(41,.lit 12),(40,.lit (-1)),(91,.lit 0),(90,.lit 1),(89,.lit 0),(88,.lit 0),(86,.lit 0),(85,.lit 0),(84,.lit 0),(83,.lit 0),(81,.lit 0),(80,.lit 0),(79,.lit 0),(78,.lit 0),(77,.lit 0),(76,.lit 0),(75,.lit 0),(74,.lit 12)],bv:=[(72,yw 32),(67,yw 27),(54,.lit false),(49,.lit false),(87,.lit false),(82,.lit false)]})
     (.fin {lo:=40,az:=1,iv:=yo [(73,yv 33)]<|yr 71 31 4<|yr 66 26 12<|yr 53 13 4<|yr 48 8 8<|[(40,.lit 3),(91,.lit 0),(90,.lit 0),(89,.lit 0),(88,.lit 0),(86,.lit 0),(85,.lit 0),(84,.lit 0),(83,.lit 0),(81,.lit 0),(80,.lit 0),(79,.lit 0),(78,.lit 0),(77,.lit 0),(76,.lit 0),(75,.lit 0),(74,.lit 3)],bv:=[(72,yw 32),(67,yw 27),(54,yw 14),(49,yw 9),(87,.lit false),(82,.lit false)]}))
    (.br (.aB (.var 0) (.lit 2))
     (.fin {lo:=40,az:=1,iv:=yo [(73,yv 33)]<|yr 71 31 4<|yr 66 26 12<|yr 53 13 4<|yr 48 8 8<|[(40,.lit 3),(91,.lit 0),(90,.lit 0),(89,.lit 0),(88,.lit 0),(86,.lit 0),(85,.lit 0),(84,.lit 0),(83,.lit 0),(81,.lit 0),(80,.lit 0),(79,.lit 0),(78,.lit 0),(77,.lit 0),(76,.lit 0),(75,.lit 0),(74,.lit 3)],bv:=[(72,yw 32),(67,yw 27),(54,yw 14),(49,yw 9),(87,.lit false),(82,.lit false)]})
     (.br (.aB (.var 0) (.lit 3))
      (.fin {lo:=40,az:=1,iv:=yo [(73,yv 33)]<|yr 71 37 4<|yr 66 26 12<|yr 53 13 4<|yr 48 8 8<|[(40,.lit 4),(91,.lit 0),(90,.lit 0),(89,.lit 0),(88,.lit 0),(86,.lit 0),(85,.lit 0),(84,yv 35),(83,yv 34),(81,.lit 0),(80,.lit 0),(79,.lit 0),(78,.lit 0),(77,.lit 2),(76,yv 24),(75,yv 23),(74,.lit 4)],bv:=[(72,yw 38),(67,yw 27),(54,yw 14),(49,yw 9),(87,.lit false),(82,.lit false)]})
      (.br (.aB (.var 0) (.lit 4))
       (.ob (.inr .i64 (.add (.var 30) (.lit 1))) <|
        .fin {lo:=40,az:=1,iv:=yo [(73,yv 33)]<|yr 71 31 4<|yr 66 26 12<|yr 53 13 4<|yr 48 8 8<|yo [(40,.lit 5),(91,.lit 0),(90,.lit 0),(89,.lit 0),(88,.lit 0),(86,.lit 0),(85,.add (.var 30) (.lit 1)),(84,yv 24),(83,yv 23)]<|yr 81 31 4<|[(77,.lit 0),(76,.lit 0),(75,.lit 0),(74,.lit 5)],bv:=[(72,yw 32),(67,yw 27),(54,yw 14),(49,yw 9),(87,.lit false),(82,yw 32)]})
       (.fin {lo:=40,az:=1,iv:=yo [(73,yv 33)]<|yr 71 31 4<|yr 66 26 12<|yr 53 13 4<|yr 48 8 9<|yr 91 18 4<|yr 86 13 4<|yr 81 8 8 [],bv:=[(72,yw 32),(67,yw 27),(54,yw 14),(49,yw 9),(87,yw 14),(82,yw 9)]})))))))
 (.br (.aB (.var 0) (.lit 3))
  (.br (.var 39)
   (.fin {lo:=40,az:=1,iv:=yo [(73,yv 33)]<|yr 71 31 4<|yr 66 26 12<|yr 53 13 4<|yr 48 8 8<|[(40,.lit 4),(91,.lit 0),(90,.lit 0),(89,.lit 0),(88,.lit 0),(86,.lit 0),(85,.lit 0),(84,.lit 0),(83,.lit 0),(81,.lit 0),(80,.lit 0),(79,.lit 0),(78,.lit 0),(77,.lit 1),(76,yv 29),(75,yv 28),(74,.lit 3)],bv:=[(72,yw 32),(67,yw 27),(54,yw 14),(49,yw 9),(87,.lit false),(82,.lit false)]})
   (.fin {lo:=40,az:=1,iv:=yo [(73,yv 33)]<|yr 71 31 4<|yr 66 26 12<|yr 53 13 4<|yr 48 8 8<|[(40,.lit 1),(91,.lit 0),(90,.lit 0),(89,.lit 0),(88,.lit 0),(86,.lit 0),(85,.lit 0),(84,.lit 0),(83,.lit 0),(81,.lit 0),(80,.lit 0),(79,.lit 0),(78,.lit 0),(77,.lit 0),(76,.lit 0),(75,.lit 0),(74,.lit 6)],bv:=[(72,yw 32),(67,yw 27),(54,yw 14),(49,yw 9),(87,.lit false),(82,.lit false)]}))
  (.br (.aB (.var 0) (.lit 0))
   (.fin {lo:=40,az:=1,iv:=yo [(73,yv 33)]<|yr 71 31 4<|yr 66 26 12<|yr 53 13 4<|yr 48 8 8<|[(40,.lit 1),(91,.lit 0),(90,.lit 0),(89,.lit 0),(88,.lit 0),(86,.lit 0),(85,.lit 0),(84,.lit 0),(83,.lit 0),(81,.lit 0),(80,.lit 0),(79,.lit 0),(78,.lit 0),(77,.lit 0),(76,.lit 0),(75,.lit 0),(74,.lit 6)],bv:=[(72,yw 32),(67,yw 27),(54,yw 14),(49,yw 9),(87,.lit false),(82,.lit false)]})
   (.br (.aB (.var 0) (.lit 1))
    (.br (.aB (.var 34) (.lit 0))
     (.fin {lo:=40,az:=1,iv:=yo [(73,yv 33)]<|yr 71 37 4<|yr 66 26 8<|[(58,.lit 0),(57,.lit 2),(56,.lit 0),(55,.lit 0),(53,.lit 0),(52,.lit 0),(51,.lit 0),(50,.lit 0),(48,.lit 0),(47,.lit 0),(46,.lit 0),(45,.lit 0),(44,.lit 0),(43,.lit 0),(42,.lit 0),(41,.lit 12),(40,.lit (-1)),(91,.lit 0),(90,.lit 2),(89,.lit 0),(88,.lit 0),(86,.lit 0),(85,.lit 0),(84,.lit 0),(83,.lit 0),(81,.lit 0),(80,.lit 0),(79,.lit 0),(78,.lit 0),(77,.lit 0),(76,.lit 0),(75,.lit 0),(74,.lit 12)],bv:=[(72,yw 38),(67,yw 27),(54,.lit false),(49,.lit false),(87,.lit false),(82,.lit false)]})
     (.br (.aB (.var 19) (.lit 3))
      (.fin {lo:=40,az:=1,iv:=yo [(73,yv 33)]<|yr 71 37 4<|yr 66 26 12<|yr 53 13 4<|yr 48 8 8<|[(40,.lit 4),(91,.lit 0),(90,.lit 0),(89,.lit 0),(88,.lit 0),(86,.lit 0),(85,.lit 0),(84,.lit 0),(83,.lit 0),(81,.lit 0),(80,.lit 0),(79,.lit 0),(78,.lit 0),(77,.lit 1),(76,yv 35),(75,yv 34),(74,.lit 3)],bv:=[(72,yw 38),(67,yw 27),(54,yw 14),(49,yw 9),(87,.lit false),(82,.lit false)]})
      (.fin {lo:=40,az:=1,iv:=yo [(73,yv 33)]<|yr 71 37 4<|yr 66 26 12<|yr 53 13 4<|yr 48 8 8<|[(40,.lit 2),(91,.lit 0),(90,.lit 0),(89,.lit 0),(88,.lit 0),(86,.lit 0),(85,.lit 0),(84,.lit 0),(83,.lit 0),(81,.lit 0),(80,.lit 0),(79,.lit 0),(78,.lit 0),(77,.lit 2),(76,yv 35),(75,yv 34),(74,.lit 3)],bv:=[(72,yw 38),(67,yw 27),(54,yw 14),(49,yw 9),(87,.lit false),(82,.lit false)]})))
    (.br (.aB (.var 0) (.lit 2))
     (.ob (.inr .i64 (.add (.var 30) (.lit 1))) <|
      .fin {lo:=40,az:=1,iv:=yo [(73,yv 33)]<|yr 71 31 4<|yr 66 26 12<|yr 53 13 4<|yr 48 8 8<|yo [(40,.lit 3),(91,.lit 0),(90,.lit 0),(89,.lit 0),(88,.lit 0),(86,.lit 0),(85,.add (.var 30) (.lit 1)),(84,yv 35),(83,yv 34)]<|yr 81 31 4<|[(77,.lit 0),(76,.lit 0),(75,.lit 0),(74,.lit 5)],bv:=[(72,yw 32),(67,yw 27),(54,yw 14),(49,yw 9),(87,.lit false),(82,yw 32)]})
     (.br (.aB (.var 0) (.lit 4))
      (.br (.aB (.var 19) (.lit 3))
       (.fin {lo:=40,az:=1,iv:=yo [(73,yv 37)]<|yr 71 31 4<|yr 66 26 8<|[(58,yv 37),(57,.lit 1),(56,.lit 0),(55,.lit 0),(53,.lit 0),(52,.lit 0),(51,.lit 0),(50,.lit 0),(48,.lit 0),(47,.lit 0),(46,.lit 0),(45,.lit 0),(44,.lit 0),(43,.lit 0),(42,.lit 0),(41,.lit 12),(40,.lit (-1)),(91,yv 37),(90,.lit 1),(89,.lit 0),(88,.lit 0),(86,.lit 0),(85,.lit 0),(84,.lit 0),(83,.lit 0),(81,.lit 0),(80,.lit 0),(79,.lit 0),(78,.lit 0),(77,.lit 0),(76,.lit 0),(75,.lit 0),(74,.lit 12)],bv:=[(72,yw 32),(67,yw 27),(54,.lit false),(49,.lit false),(87,.lit false),(82,.lit false)]})
       (.fin {lo:=40,az:=1,iv:=yo [(73,yv 37)]<|yr 71 31 4<|yr 66 26 12<|yr 53 13 4<|yr 48 8 8<|yo [(40,.lit 5),(91,.lit 0),(90,.lit 0),(89,.lit 0),(88,.lit 0),(86,.lit 0),(85,.lit 0),(84,.lit 0),(83,.lit 0)]<|yr 81 31 4<|[(77,.lit 0),(76,.lit 0),(75,.lit 0),(74,.lit 10)],bv:=[(72,yw 32),(67,yw 27),(54,yw 14),(49,yw 9),(87,.lit false),(82,yw 32)]}))
      (.br (.aB (.var 0) (.lit 5))
       (.fin {lo:=40,az:=1,iv:=yo [(73,yv 33)]<|yr 71 31 4<|yr 66 26 8<|[(58,yv 33),(57,.lit 1),(56,.lit 0),(55,.lit 0),(53,.lit 0),(52,.lit 0),(51,.lit 0),(50,.lit 0),(48,.lit 0),(47,.lit 0),(46,.lit 0),(45,.lit 0),(44,.lit 0),(43,.lit 0),(42,.lit 0),(41,.lit 12),(40,.lit (-1)),(91,yv 33),(90,.lit 1),(89,.lit 0),(88,.lit 0),(86,.lit 0),(85,.lit 0),(84,.lit 0),(83,.lit 0),(81,.lit 0),(80,.lit 0),(79,.lit 0),(78,.lit 0),(77,.lit 0),(76,.lit 0),(75,.lit 0),(74,.lit 12)],bv:=[(72,yw 32),(67,yw 27),(54,.lit false),(49,.lit false),(87,.lit false),(82,.lit false)]})
       (.fin {lo:=40,az:=1,iv:=yo [(73,yv 33)]<|yr 71 31 4<|yr 66 26 12<|yr 53 13 4<|yr 48 8 9<|yr 91 18 4<|yr 86 13 4<|yr 81 8 8 [],bv:=[(72,yw 32),(67,yw 27),(54,yw 14),(49,yw 9),(87,yw 14),(82,yw 9)]})))))))
theorem QV:exec tab QU 8000 [] (fB kJ.f kJ.nv [] kJ.gl kJ.hp kJ.args)=Co:=by kernel_rfl
def xk (ρ:Env) (v:Nat):Op:=⟨ρ.iv v,ρ.iv (v+1),ρ.iv (v+2),ρ.iv (v+3)⟩
def ll (ρ:Env) (v:Nat):Jb:=⟨ρ.iv v,iW ρ (v+1),xk ρ (v+19),ak ρ (v+23),ak ρ (v+28),ρ.iv (v+33)⟩
def Cq (ρ:Env):Prop:=-1000000000000≤ρ.iv 30∧ρ.iv 30≤1000000000000
def tX (ρ:Env):Prop:=ll ρ 40=((ll ρ 0).next (aH ρ 34)).1∧iW ρ 74=((ll ρ 0).next (aH ρ 34)).2
theorem QW (ρ:Env) (hpre:Cq ρ.num):Sat tX [] [] ρ Co:=by
 replace hpre:Cq ρ:=hpre
 obtain ⟨h1,h2⟩:=hpre
 unfold Co
 have fin:∀{σ:Sub} (q:Jb × Ca),(ll ρ 0).next (aH ρ 34)=q→ll (σ.ag ρ) 0=ll ρ 0→aH (σ.ag ρ) 34=aH ρ 34→ll (σ.ag ρ) 40=q.1→iW (σ.ag ρ) 74=q.2→tX (σ.ag ρ):=by
  intro σ q hq e1 e2 e3 e4
  unfold tX
  rw [e1,e2,e3,e4,hq]
  exact ⟨rfl,rfl⟩
 refine Sat.br (fun k1=>?_) (fun k1=>?_)
 all_goals simp only [Da] at k1
 ·replace k1:ρ.iv 19=1:=k1
  refine Sat.br (fun a0=>?_) (fun a0=>?_)
  all_goals simp only [Da] at a0
  ·exact Sat.fin (fin _ ((if_pos k1).trans (if_pos a0)) rfl rfl rfl rfl)
  refine Sat.br (fun a1=>?_) (fun a1=>?_)
  all_goals simp only [Da] at a1
  ·refine Sat.br (fun b=>?_) (fun b=>?_)
   all_goals simp only [Da] at b
   ·exact Sat.fin (fin _ ((if_pos k1).trans ((if_neg a0).trans ((if_pos a1).trans (if_pos b)))) rfl rfl rfl rfl)
   ·exact Sat.fin (fin _ ((if_pos k1).trans ((if_neg a0).trans ((if_pos a1).trans (if_neg (fun h:ρ.bv 39=_=>by rw [b] at h;cases h))))) rfl rfl rfl rfl)
  refine Sat.br (fun a5=>?_) (fun a5=>?_)
  all_goals simp only [Da] at a5
  ·refine Sat.br (fun b=>?_) (fun b=>?_)
   all_goals simp only [Da] at b
   ·exact Sat.fin (fin _ ((if_pos k1).trans ((if_neg a0).trans ((if_neg a1).trans ((if_pos a5).trans (if_pos b))))) rfl rfl rfl rfl)
   ·exact Sat.fin (fin _ ((if_pos k1).trans ((if_neg a0).trans ((if_neg a1).trans ((if_pos a5).trans (if_neg (fun h:ρ.bv 39=_=>by rw [b] at h;cases h)))))) rfl rfl rfl rfl)
  refine Sat.br (fun a2=>?_) (fun a2=>?_)
  all_goals simp only [Da] at a2
  ·exact Sat.fin (fin _ ((if_pos k1).trans ((if_neg a0).trans ((if_neg a1).trans ((if_neg a5).trans (if_pos a2))))) rfl rfl rfl rfl)
  refine Sat.br (fun a3=>?_) (fun a3=>?_)
  all_goals simp only [Da] at a3
  ·exact Sat.fin (fin _ ((if_pos k1).trans ((if_neg a0).trans ((if_neg a1).trans ((if_neg a5).trans ((if_neg a2).trans (if_pos a3)))))) rfl rfl rfl rfl)
  refine Sat.br (fun a4=>?_) (fun a4=>?_)
  all_goals simp only [Da] at a4
  ·refine Sat.ob (by simp only [Da];omega) ?_
   exact Sat.fin (fin _ ((if_pos k1).trans ((if_neg a0).trans ((if_neg a1).trans ((if_neg a5).trans ((if_neg a2).trans ((if_neg a3).trans (if_pos a4))))))) rfl rfl rfl rfl)
  exact Sat.fin (fin _ ((if_pos k1).trans ((if_neg a0).trans ((if_neg a1).trans ((if_neg a5).trans ((if_neg a2).trans ((if_neg a3).trans (if_neg a4))))))) rfl rfl rfl rfl)
 refine Sat.br (fun a3=>?_) (fun a3=>?_)
 all_goals simp only [Da] at a3
 ·refine Sat.br (fun b=>?_) (fun b=>?_)
  all_goals simp only [Da] at b
  ·exact Sat.fin (fin _ ((if_neg k1).trans ((if_pos a3).trans (if_pos b))) rfl rfl rfl rfl)
  ·exact Sat.fin (fin _ ((if_neg k1).trans ((if_pos a3).trans (if_neg (fun h:ρ.bv 39=_=>by rw [b] at h;cases h)))) rfl rfl rfl rfl)
 refine Sat.br (fun a0=>?_) (fun a0=>?_)
 all_goals simp only [Da] at a0
 ·exact Sat.fin (fin _ ((if_neg k1).trans ((if_neg a3).trans (if_pos a0))) rfl rfl rfl rfl)
 refine Sat.br (fun a1=>?_) (fun a1=>?_)
 all_goals simp only [Da] at a1
 ·refine Sat.br (fun b=>?_) (fun b=>?_)
  all_goals simp only [Da] at b
  ·exact Sat.fin (fin _ ((if_neg k1).trans ((if_neg a3).trans ((if_neg a0).trans ((if_pos a1).trans (if_pos b))))) rfl rfl rfl rfl)
  refine Sat.br (fun c=>?_) (fun c=>?_)
  all_goals simp only [Da] at c
  ·exact Sat.fin (fin _ ((if_neg k1).trans ((if_neg a3).trans ((if_neg a0).trans ((if_pos a1).trans ((if_neg b).trans (if_pos c)))))) rfl rfl rfl rfl)
  ·exact Sat.fin (fin _ ((if_neg k1).trans ((if_neg a3).trans ((if_neg a0).trans ((if_pos a1).trans ((if_neg b).trans (if_neg c)))))) rfl rfl rfl rfl)
 refine Sat.br (fun a2=>?_) (fun a2=>?_)
 all_goals simp only [Da] at a2
 ·refine Sat.ob (by simp only [Da];omega) ?_
  exact Sat.fin (fin _ ((if_neg k1).trans ((if_neg a3).trans ((if_neg a0).trans ((if_neg a1).trans (if_pos a2))))) rfl rfl rfl rfl)
 refine Sat.br (fun a4=>?_) (fun a4=>?_)
 all_goals simp only [Da] at a4
 ·refine Sat.br (fun c=>?_) (fun c=>?_)
  all_goals simp only [Da] at c
  ·exact Sat.fin (fin _ ((if_neg k1).trans ((if_neg a3).trans ((if_neg a0).trans ((if_neg a1).trans ((if_neg a2).trans ((if_pos a4).trans (if_pos c))))))) rfl rfl rfl rfl)
  ·exact Sat.fin (fin _ ((if_neg k1).trans ((if_neg a3).trans ((if_neg a0).trans ((if_neg a1).trans ((if_neg a2).trans ((if_pos a4).trans (if_neg c))))))) rfl rfl rfl rfl)
 refine Sat.br (fun a5=>?_) (fun a5=>?_)
 all_goals simp only [Da] at a5
 ·exact Sat.fin (fin _ ((if_neg k1).trans ((if_neg a3).trans ((if_neg a0).trans ((if_neg a1).trans ((if_neg a2).trans ((if_neg a4).trans (if_pos a5))))))) rfl rfl rfl rfl)
 exact Sat.fin (fin _ ((if_neg k1).trans ((if_neg a3).trans ((if_neg a0).trans ((if_neg a1).trans ((if_neg a2).trans ((if_neg a4).trans (if_neg a5))))))) rfl rfl rfl rfl)
theorem QX:bf Tryz.prog kJ Cq tX :=
 dw dY (E:=QU) (cs:=[]) rfl (fun k pre post h=>by cases h) bZ rfl QV (by kernel_rfl) (fun ρ _ p hp=>by cases hp) QW
def GN (ρ:Env):Prop:=(xk ρ 0).dF
def kK (ρ:Env):Prop:=ll ρ 4=Jb.new (xk ρ 0)
noncomputable def rD:Ex:={sched:=sched,loops:=[],cons:=[],fin:=dA}
def Yv:Kn:=[(.aB (.var 0) (.lit 1),true),(.aB (.var 1) (.lit 0),true),(.aB (.var 3) (.lit 0),true),(.aA (.lit 0) (.var 2),true),(.aA (.var 2) (.lit 1073741824),true)]
def Oi:Out :=
 .fin {lo:=4,az:=0,iv:=yo [(37,.lit 0),(35,.lit 0),(34,.lit 0),(33,.lit 0),(32,.lit 0),(30,.lit 0),(29,.lit 0),(28,.lit 0),(27,.lit 0)]<|yr 26 3 4<|[(22,.lit 0),(21,.lit 0),(20,.lit 0),(19,.lit 0),(17,.lit 0),(16,.lit 0),(15,.lit 0),(14,.lit 0),(12,.lit 0),(11,.lit 0),(10,.lit 0),(9,.lit 0),(8,.lit 0),(7,.lit 0),(6,.lit 0),(5,.lit 0),(4,.lit 0)],bv:=[(36,.lit false),(31,.lit false),(18,.lit false),(13,.lit false)],bk:=[(0,yb 1)]}
theorem KZ:exec tab rD 8000 [] (fB dA.f dA.nv Yv dA.gl dA.hp dA.args)=Oi:=by kernel_rfl
def Oj (ρ:Env):Prop:=ρ.iv 0=1∧ρ.iv 1=0∧ρ.iv 3=0∧0≤ρ.iv 2∧ρ.iv 2≤1073741824
theorem K3:bf Tryz.prog dA Oj kK :=
 dw dY (E:=rD) (cs:=[]) rfl (fun k pre post h=>by cases h) bZ rfl KZ (by kernel_rfl) (fun ρ h p hp=>by
   obtain ⟨f0,f1,f2,f3,f4⟩:=h
   simp only [Yv,List.mem_cons,List.not_mem_nil,or_false] at hp
   rcases hp with rfl | rfl | rfl | rfl | rfl
   · exact beq_iff_eq.2 f0
   · exact beq_iff_eq.2 f1
   · exact beq_iff_eq.2 f2
   · exact decide_eq_true f3
   · exact decide_eq_true f4
   ) fun ρ h=>Sat.fin (show kK _ from rfl)
def Yw:Kn:=[(.aB (.var 0) (.lit 1),false),(.aB (.var 0) (.lit 2),true),(.aB (.var 1) (.lit 0),true),(.aB (.var 2) (.lit 0),true),(.aB (.var 3) (.lit 0),true)]
def Ol:Out :=
 .fin {lo:=4,az:=0,iv:=yo [(37,.lit 0),(35,.lit 0),(34,.lit 0),(33,.lit 0),(32,.lit 0),(30,.lit 0),(29,.lit 0),(28,.lit 0),(27,.lit 0)]<|yr 26 3 4<|[(22,.lit 0),(21,.lit 0),(20,.lit 0),(19,.lit 0),(17,.lit 0),(16,.lit 0),(15,.lit 0),(14,.lit 0),(12,.lit 0),(11,.lit 0),(10,.lit 0),(9,.lit 0),(8,.lit 0),(7,.lit 0),(6,.lit 0),(5,.lit 0),(4,.lit 0)],bv:=[(36,.lit false),(31,.lit false),(18,.lit false),(13,.lit false)],bk:=[(0,yb 1)]}
theorem K4:exec tab rD 8000 [] (fB dA.f dA.nv Yw dA.gl dA.hp dA.args)=Ol:=by kernel_rfl
def Om (ρ:Env):Prop:=¬ρ.iv 0=1∧ρ.iv 0=2∧ρ.iv 1=0∧ρ.iv 2=0∧ρ.iv 3=0
theorem K5:bf Tryz.prog dA Om kK :=
 dw dY (E:=rD) (cs:=[]) rfl (fun k pre post h=>by cases h) bZ rfl K4 (by kernel_rfl) (fun ρ h p hp=>by
   obtain ⟨f0,f1,f2,f3,f4⟩:=h
   simp only [Yw,List.mem_cons,List.not_mem_nil,or_false] at hp
   rcases hp with rfl | rfl | rfl | rfl | rfl
   · exact beq_eq_false_iff_ne.2 f0
   · exact beq_iff_eq.2 f1
   · exact beq_iff_eq.2 f2
   · exact beq_iff_eq.2 f3
   · exact beq_iff_eq.2 f4
   ) fun ρ h=>Sat.fin (show kK _ from rfl)
def Yx:Kn:=[(.aB (.var 0) (.lit 1),false),(.aB (.var 0) (.lit 2),false),(.aB (.var 0) (.lit 3),true),(.aB (.var 1) (.lit 0),true),(.aB (.var 2) (.lit 0),true),(.aB (.var 3) (.lit 0),true)]
def Oo:Out :=
 .fin {lo:=4,az:=0,iv:=yo [(37,.lit 0),(35,.lit 0),(34,.lit 0),(33,.lit 0),(32,.lit 0),(30,.lit 0),(29,.lit 0),(28,.lit 0),(27,.lit 0)]<|yr 26 3 4<|[(22,.lit 0),(21,.lit 0),(20,.lit 0),(19,.lit 0),(17,.lit 0),(16,.lit 0),(15,.lit 0),(14,.lit 0),(12,.lit 0),(11,.lit 0),(10,.lit 0),(9,.lit 0),(8,.lit 0),(7,.lit 0),(6,.lit 0),(5,.lit 0),(4,.lit 0)],bv:=[(36,.lit false),(31,.lit false),(18,.lit false),(13,.lit false)],bk:=[(0,yb 1)]}
theorem K6:exec tab rD 8000 [] (fB dA.f dA.nv Yx dA.gl dA.hp dA.args)=Oo:=by kernel_rfl
def Oq (ρ:Env):Prop:=¬ρ.iv 0=1∧¬ρ.iv 0=2∧ρ.iv 0=3∧ρ.iv 1=0∧ρ.iv 2=0∧ρ.iv 3=0
theorem K7:bf Tryz.prog dA Oq kK :=
 dw dY (E:=rD) (cs:=[]) rfl (fun k pre post h=>by cases h) bZ rfl K6 (by kernel_rfl) (fun ρ h p hp=>by
   obtain ⟨f0,f1,f2,f3,f4,f5⟩:=h
   simp only [Yx,List.mem_cons,List.not_mem_nil,or_false] at hp
   rcases hp with rfl | rfl | rfl | rfl | rfl | rfl
   · exact beq_eq_false_iff_ne.2 f0
   · exact beq_eq_false_iff_ne.2 f1
   · exact beq_iff_eq.2 f2
   · exact beq_iff_eq.2 f3
   · exact beq_iff_eq.2 f4
   · exact beq_iff_eq.2 f5
   ) fun ρ h=>Sat.fin (show kK _ from rfl)
theorem WH {P:Program} {k:dX} {pre JZ J2 Yy post:Env→Prop} (h1:bf P k JZ post) (h2:bf P k J2 post) (h3:bf P k Yy post) (hp:∀ρ,pre ρ→JZ ρ∨J2 ρ∨Yy ρ):bf P k pre post :=
 ⟨h1.fn,fun ρ ν w a b c=>(hp _ c).elim (h1.run ρ ν w a b) fun c=>c.elim (h2.run ρ ν w a b) (h3.run ρ ν w a b)⟩
theorem Ot:bf Tryz.prog dA GN kK :=
 WH K3 K5 K7 fun ρ h=>by
  unfold GN Op.dF at h
  by_cases h1:ρ.iv 0=1
  ·rw [if_pos (show (xk ρ 0).kind=1 from h1)] at h
   obtain ⟨a,b,c,d⟩:=h
   exact .inl ⟨h1,a,b,c,d⟩
  ·rw [if_neg (show ¬(xk ρ 0).kind=1 from h1)] at h
   obtain ⟨a,b,c,d⟩:=h
   rcases a with a | a
   ·exact .inr (.inl ⟨h1,a,b,c,d⟩)
   ·have a':ρ.iv 0=3:=a
    exact .inr (.inr ⟨h1,by omega,a,b,c,d⟩)
end Go.Proofs.YthomdlajobnmnaaGreatDoor
