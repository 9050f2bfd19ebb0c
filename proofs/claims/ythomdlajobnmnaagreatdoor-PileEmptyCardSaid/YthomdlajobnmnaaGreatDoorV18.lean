/- part 18 of the proof -/
import Derived.Test.YthomdlajobnmnaaGreatDoorV10
import Derived.Test.YthomdlajobnmnaaGreatDoorV11
import Derived.Test.YthomdlajobnmnaaGreatDoorV12
import Derived.Test.YthomdlajobnmnaaGreatDoorV13
import Derived.Test.YthomdlajobnmnaaGreatDoorV15
import Derived.Test.YthomdlajobnmnaaGreatDoorV17
set_option linter.unusedSimpArgs false
set_option linter.unusedVariables false
namespace Go.Proofs.YthomdlajobnmnaaGreatDoor
open Go.Rex
def Qo:SC→Bool
 | .int _ (.lit 0)=>true
 | .bool (.lit false)=>true
 | .bg=>true
 | .hole=>true
 | _=>false
theorem XH {ρ:Env} {c:SC} (h:Qo c=true):c.I ρ=0∧c.B ρ=false:=by
 unfold Qo at h
 split at h
 ·exact ⟨rfl,rfl⟩
 ·exact ⟨rfl,rfl⟩
 ·exact ⟨rfl,rfl⟩
 ·exact ⟨rfl,rfl⟩
 ·cases h
theorem Gp {ρ:Env}:∀{cs:List SC},cs.all Qo=true→∀p,Qo (cs.getD p .hole)=true
 | [],_,p=>rfl
 | c :: r,h,p=>by
  simp only [List.all_cons,Bool.and_eq_true] at h
  cases p with
  | zero=>exact h.1
  | succ p=>exact Gp (ρ:=ρ) h.2 p
theorem uY {ρ:Env} {cs:List SC} {lo p:Nat} (h:(cs.drop lo).all Qo=true) (hp:lo≤p):(cs.getD p .hole).I ρ=0∧(cs.getD p .hole).B ρ=false:=by
 have:=Gp (ρ:=ρ) h (p-lo)
 rw [show (cs.drop lo).getD (p-lo) .hole=cs.getD p .hole by simp [List.getD_eq_getElem?_getD,List.getElem?_drop,show lo+(p-lo)=p by omega]] at this
 exact XH this
def Y7:Kn:=[(.bR (.var 0) (.lit 1),false),(.bR (.lit 5) (.var 0),false),(.bR (.var 2) (.lit 1),false),(.bR (.lit 6) (.var 2),false),(.bR (.var 1) (.lit 0),false),(.aA (.var 2) (.var 1),false),(.bR (.var 3) (.lit 1),false),(.bR (.lit 64) (.var 3),false)]
noncomputable def UB:Ex:={sched:=sched,loops:=[],fin:=nI}
def Fa:Out :=
 .fin {lo:=4,az:=0,iv:=[(65,.lit 0),(64,.lit 0),(63,.lit 0),(62,.lit 0),(61,.lit 0),(60,.lit 0),(59,.lit 0),(57,.lit 0),(56,.lit 0),(53,.lit 0),(52,.lit 0),(50,.lit 0),(49,.lit 0),(47,.lit 0),(45,.lit 0),(44,.lit 0),(43,.lit 0),(42,.lit 0),(40,.lit 0),(39,.lit 0),(38,.lit 0),(37,.lit 0),(35,.lit 0),(34,.lit 0),(33,.lit 0),(32,.lit 0),(30,.lit 0),(29,.lit 0),(28,.lit 0),(27,.lit 0),(26,.lit 0),(25,.lit 0),(24,.lit 0),(23,.lit 0),(22,.lit 0),(21,.lit 0),(20,.lit 0),(19,.lit 0),(18,.lit 0),(16,.lit 0),(15,.lit 0),(14,.lit 0),(13,.lit 0),(11,.lit 0),(10,.lit 0),(9,.lit 0),(8,.lit 0),(7,.lit 0),(6,.lit 0),(5,.lit 0),(4,.lit 0)],bv:=[(67,.lit false),(66,.lit false),(58,.lit true),(55,.lit false),(51,.lit true),(48,.lit true),(46,.lit false),(41,.lit false),(36,.lit false),(31,.lit false),(17,.lit false),(12,.lit false)],ct:=[(54,.ex [.int .i64 (.lit 0),.int .i64 (.lit 0),.int .i64 (.lit 0),.int .i64 (.lit 0),.int .i64 (.lit 0),.int .i64 (.lit 0),.int .i64 (.lit 0),.int .i64 (.lit 0),.bool (.lit false),.int .i64 (.lit 0),.int .i64 (.lit 0),.int .i64 (.lit 0),.int .i64 (.lit 0),.bool (.lit false),.int .i64 (.lit 0),.int .i64 (.lit 0),.int .i64 (.lit 0),.int .i64 (.lit 0),.int .i64 (.lit 0),.int .i64 (.lit 0),.int .i64 (.lit 0),.int .i64 (.lit 0),.int .i64 (.lit 0),.int .i64 (.lit 0),.int .i64 (.lit 0),.int .i64 (.lit 0),.int .i64 (.lit 0),.bool (.lit false),.int .i64 (.lit 0),.int .i64 (.lit 0),.int .i64 (.lit 0),.int .i64 (.lit 0),.bool (.lit false),.int .i64 (.lit 0),.int .i64 (.lit 0),.int .i64 (.lit 0),.int .i64 (.lit 0),.bool (.lit false),.int .i64 (.lit 0),.int .i64 (.lit 0),.int .i64 (.lit 0),.int .i64 (.lit 0),.bool (.lit false),.int .i64 (.lit 0),.bg,.bg,.int .i64 (.var 0),.int .i64 (.var 1),.int .i64 (.var 2),.int .i64 (.var 3),.int .i64 (.lit 0),.int .i64 (.lit 0),.int .i64 (.lit 0),.int .i64 (.lit 0),.bool (.lit false),.int .i64 (.lit 0),.int .i64 (.lit 0),.int .i64 (.lit 0),.int .i64 (.lit 0),.bool (.lit false),.int .i64 (.lit 0),.int .i64 (.lit 0),.int .i64 (.lit 0),.int .i64 (.lit 0),.bool (.lit false),.int .i64 (.lit 0),.int .i64 (.lit 0),.int .i64 (.lit 0),.int .i64 (.lit 0),.bool (.lit false),.int .i64 (.lit 0),.int .i64 (.lit 0),.int .i64 (.lit 0),.int .i64 (.lit 0),.bool (.lit false),.int .i64 (.lit 0),.int .i64 (.lit 0),.int .i64 (.lit 0),.int .i64 (.lit 0),.bool (.lit false),.int .i64 (.lit 0),.int .i64 (.lit 0),.int .i64 (.lit 0),.int .i64 (.lit 0),.bool (.lit false),.int .i64 (.lit 0),.int .i64 (.lit 0),.int .i64 (.lit 0),.int .i64 (.lit 0),.bool (.lit false),.int .i64 (.lit 0),.int .i64 (.lit 0),.int .i64 (.lit 0),.int .i64 (.lit 0),.bool (.lit false),.bool (.lit false),.int .i64 (.lit 0),.int .i64 (.lit 0),.bg,.int .i64 (.lit 0),.int .i64 (.lit 0),.int .i64 (.lit 0),.int .i64 (.lit 0),.int .i64 (.lit 0),.bool (.lit false),.bool (.lit false)] 5 0 50)],bk:=[(0,yb 0)],nb:=[3,2,1,3,2,1]}
theorem SX:exec tab UB 8000 [] (eG nI.f nI.nv Y7 nI.gl nI.hp nI.args)=Fa:=by kernel_rfl
def Lx (ρ:Env):Prop:=(1≤ρ.iv 0∧ρ.iv 0≤5)∧(0≤ρ.iv 1∧ρ.iv 1<ρ.iv 2)∧(1≤ρ.iv 2∧ρ.iv 2≤6)∧1≤ρ.iv 3∧ρ.iv 3≤64
def JJ (ρ:Env):Prop:=bH ρ 4∧aa ρ 0 4=RS.new (ρ.iv 0) (ρ.iv 1) (ρ.iv 2) (ρ.iv 3)
theorem SY (ρ:Env) (hpre:Lx ρ.num):Sat JJ [] [] ρ Fa:=by
 unfold Fa
 have o1:=True.intro
 refine Sat.fin ⟨⟨aj rfl rfl,⟨aj rfl rfl,Int.le_refl 0,.inl rfl⟩,aj rfl rfl⟩,RS.ext' rfl rfl rfl rfl rfl rfl (Gc rfl) (nJ rfl) rfl rfl rfl rfl (fun i=>?_) rfl (Gd rfl) rfl rfl⟩
 refine oo.2 ⟨?_,?_,?_,?_,?_⟩
 ·show ((_:List SC).getD (i * 5+0 * 0+50+0) .hole).I ρ=0
  exact (uY (lo:=50) (by rfl) (by omega)).1
 ·show ((_:List SC).getD (i * 5+0 * 0+50+1) .hole).I ρ=0
  exact (uY (lo:=50) (by rfl) (by omega)).1
 ·show ((_:List SC).getD (i * 5+0 * 0+50+2) .hole).I ρ=0
  exact (uY (lo:=50) (by rfl) (by omega)).1
 ·show ((_:List SC).getD (i * 5+0 * 0+50+3) .hole).I ρ=0
  exact (uY (lo:=50) (by rfl) (by omega)).1
 ·show ((_:List SC).getD (i * 5+0 * 0+50+4) .hole).B ρ=false
  exact (uY (lo:=50) (by rfl) (by omega)).2
theorem S9:aY Tryz.prog nI Lx JJ :=
 cZ dD (E:=UB) (cs:=[]) rfl (fun k pre post h=>by cases h) bS rfl SX (by kernel_rfl) (fun ρ h p hp=>by
   obtain ⟨⟨a1,a2⟩,⟨b1,b2⟩,⟨c1,c2⟩,d1,d2⟩:=h
   simp only [Y7,List.mem_cons,List.not_mem_nil,or_false] at hp
   rcases hp with rfl | rfl | rfl | rfl | rfl | rfl | rfl | rfl
   · exact decide_eq_false (show ¬ρ.num.iv 0<1 by omega)
   · exact decide_eq_false (show ¬5<ρ.num.iv 0 by omega)
   · exact decide_eq_false (show ¬ρ.num.iv 2<1 by omega)
   · exact decide_eq_false (show ¬6<ρ.num.iv 2 by omega)
   · exact decide_eq_false (show ¬ρ.num.iv 1<0 by omega)
   · exact decide_eq_false (show ¬ρ.num.iv 2≤ρ.num.iv 1 by omega)
   · exact decide_eq_false (show ¬ρ.num.iv 3<1 by omega)
   · exact decide_eq_false (show ¬64<ρ.num.iv 3 by omega)) SY
end Go.Proofs.YthomdlajobnmnaaGreatDoor
namespace Go.Proofs.YthomdlajobnmnaaGreatDoor
open Go.Rex
def ky:dJ:={mh 39 0 [] (.gK [.agg (EJ 138),.one (.bool (.var 152))]) with iD:=153}
def jF:dJ:={mh 38 0 [] (.w (.agg (uQ 138))) with iD:=144}
end Go.Proofs.YthomdlajobnmnaaGreatDoor
namespace Go.Proofs.YthomdlajobnmnaaGreatDoor
open Go.Rex
def Y8:Kn:=[(.aB (.var 22) (.lit 0),false)]
noncomputable def Qp:Ex:={sched:=sched,loops:=[],fin:=ky}
def BV:Out :=
 .fin {lo:=71,az:=4,iv:=yo [(137,yv 70)]<|yr 132 65 7<|yo [(124,yv 57),(123,yv 56),(120,yv 53),(119,yv 52),(136,yv 69),(117,yv 50),(116,yv 49),(114,yv 47)]<|yr 112 45 4<|yr 107 40 4<|yr 102 35 4<|yr 97 30 13<|yr 83 16 4<|yr 78 11 8<|yr 150 35 4<|yr 145 30 8 [],bv:=[(134,yw 67),(133,yw 66),(125,yw 58),(122,yw 55),(118,yw 51),(115,yw 48),(113,yw 46),(108,yw 41),(103,yw 36),(98,yw 31),(84,yw 17),(79,yw 12),(152,.lit true),(151,yw 36),(146,yw 31)],ct:=[(137,yu 70 59 7 yN 0),(136,yu 69 70 7 yN 0),(135,yu 68 49 5 yW 0),(121,yl 54 9 5 50 yW 0)],bk:=[(6,yc 3 7),(5,yc 2 7),(4,yc 1 5)]}
theorem Qq:exec tab Qp 8000 [] (eG ky.f ky.nv Y8 ky.gl ky.hp ky.args)=BV:=by kernel_rfl
def wX (ρ:Env):Prop:=bH ρ 4∧¬ρ.iv 22=0
def Gq (ρ:Env):Prop:=bH ρ 71∧(ay ρ 138=(aa ρ 0 4).acc∧ρ.bv 152=true)∧aa ρ 0 71=aa ρ 0 4
theorem Qr (ρ:Env) (hpre:wX ρ.num):Sat Gq [] [] ρ BV:=by
 replace hpre:wX ρ:=hpre
 obtain ⟨⟨o1,o2,o3⟩,hf⟩:=hpre
 unfold BV
 exact Sat.fin ⟨⟨(by first | exact o1 | exact o2 | exact o3 | exact aj rfl rfl | assumption),(by first | exact o2 | exact ⟨aj rfl rfl,Int.le_refl 0,.inl rfl⟩ | assumption),(by first | exact o1 | exact o2 | exact o3 | exact aj rfl rfl | assumption)⟩,⟨rfl,rfl⟩,Eq.trans (b:=(aa ρ 0 4)) (RS.ext' rfl rfl rfl rfl rfl rfl bu bC rfl rfl rfl rfl bB rfl bz rfl rfl) (Eq.symm (rfl))⟩
theorem Qs:aY Tryz.prog ky wX Gq :=
 cZ dD (E:=Qp) (cs:=[]) rfl (fun k pre post h=>by cases h) bS rfl Qq (by kernel_rfl) (fun ρ h p hp=>by
   obtain ⟨-,h⟩:=h
   simp only [Y8,List.mem_cons,List.not_mem_nil,or_false] at hp
   subst hp
   exact beq_eq_false_iff_ne.2 h) Qr
noncomputable def LA:Ex:={sched:=sched,loops:=[],fin:=jF}
def zn:Out :=
 .fin {lo:=71,az:=4,iv:=yo [(137,yv 70)]<|yr 132 65 7<|yo [(124,yv 57),(123,yv 56),(120,yv 53),(119,yv 52),(136,yv 69),(117,yv 50),(116,yv 49),(114,yv 47)]<|yr 112 45 4<|yr 107 40 4<|yr 102 35 4<|yr 97 30 13<|yr 83 16 4<|yr 78 11 8<|yr 141 65 4 [],bv:=[(134,yw 67),(133,yw 66),(125,yw 58),(122,yw 55),(118,yw 51),(115,yw 48),(113,yw 46),(108,yw 41),(103,yw 36),(98,yw 31),(84,yw 17),(79,yw 12),(143,yw 67),(142,yw 66)],ct:=[(137,yu 70 59 7 yN 0),(136,yu 69 70 7 yN 0),(135,yu 68 49 5 yW 0),(121,yl 54 9 5 50 yW 0)],bk:=[(6,yc 3 7),(5,yc 2 7),(4,yc 1 5)]}
theorem NF:exec tab LA 8000 [] (eG jF.f jF.nv [] jF.gl jF.hp jF.args)=zn:=by kernel_rfl
def tJ (ρ:Env):Prop:=bH ρ 4
def DU (ρ:Env):Prop:=bH ρ 71∧aH ρ 138=(aa ρ 0 4).bK∧aa ρ 0 71=aa ρ 0 4
theorem NG (ρ:Env) (hpre:tJ ρ.num):Sat DU [] [] ρ zn:=by
 replace hpre:tJ ρ:=hpre
 obtain ⟨o1,o2,o3⟩:=hpre
 unfold zn
 exact Sat.fin ⟨⟨(by first | exact o1 | exact o2 | exact o3 | exact aj rfl rfl | assumption),(by first | exact o2 | exact ⟨aj rfl rfl,Int.le_refl 0,.inl rfl⟩ | assumption),(by first | exact o1 | exact o2 | exact o3 | exact aj rfl rfl | assumption)⟩,rfl,Eq.trans (b:=(aa ρ 0 4)) (RS.ext' rfl rfl rfl rfl rfl rfl bu bC rfl rfl rfl rfl bB rfl bz rfl rfl) (Eq.symm (rfl))⟩
theorem NH:aY Tryz.prog jF tJ DU :=
 cZ dD (E:=LA) (cs:=[]) rfl (fun k pre post h=>by cases h) bS rfl NF (by kernel_rfl) (fun ρ _ p hp=>by cases hp) NG
end Go.Proofs.YthomdlajobnmnaaGreatDoor
namespace Go.Proofs.YthomdlajobnmnaaGreatDoor
open Go.Rex
def UC:Kn:=[(.bR (.var 0) (.lit 0),false),(.bR (.lit 1024) (.var 0),false),(.bR (.var 1) (.lit 0),false),(.bR (.lit 200) (.var 1),false)]
noncomputable def XI:Ex:={sched:=sched,loops:=[L13],fin:=oh}
def JK:Out :=
 .alt
 (.ob (.aA (.lit 0) (.var 1)) <|
  .ob (.aA (.mul (.var 1) (.lit 40)) (.lit 281474976710656)) <|
  .ob (.aA (.var 1) (.lit 9223372036854775807)) <|
  .ob (.aA (.lit 0) (.var 0)) <|
  .ob (.aA (.mul (.var 0) (.lit 416)) (.lit 281474976710656)) <|
  .ob (.aA (.var 0) (.lit 9223372036854775807)) <|
  .loop 2 {lo:=2,az:=3,iv:=[(11,.lit 0),(10,.lit 0),(8,.lit 0),(7,.lit 0),(2,yv 0)],bv:=[(12,.lit true),(6,.lit true)],ct:=[(5,.up {r:=0,n1:=.var 0,s1:=52,n2:=10,s2:=5,lo:=2,ks:=yW,z:=true} 1 [] (.lit 0)),(4,.up {r:=0,n1:=.var 0,s1:=52,ks:=yB,z:=true} 0 [] (.lit 0)),(3,.up {r:=0,n1:=.var 1,s1:=5,ks:=yW,z:=true} 0 [] (.lit 0))],nb:=[4,3,4,3]} <|
  .br (.aA (.lit 1) (.var 2))
  (.ob (.aA (.mul (.add (.var 7) (.lit 1)) (.lit 8)) (.lit 140737488355328)) <|
   .ob (.aA (.lit 0) (.var 7)) <|
   .ob (.aA (.var 7) (.var 8)) <|
   .ob (.aA (.var 8) (.lit 9223372036854775807)) <|
   .ob (.or (.not (.var 6)) (.aB (.var 7) (.lit 0))) <|
   .new 13 [.be (.and (.aA (.add (.var 7) (.lit 1)) (.var 13)) (.aA (.var 13) (.lit 9223372036854775807)))] <|
   .ob (.inr .i64 (.sub (.var 2) (.lit 1))) <|
   .back 0 {lo:=2,az:=3,iv:=[(11,yv 11),(10,yv 10),(8,yv 13),(7,.add (.var 7) (.lit 1)),(2,.sub (.var 2) (.lit 1))],bv:=[(12,yw 12),(6,.lit false)],ct:=[(9,.up {r:=9,n1:=.add (.var 7) (.lit 1),s1:=1,ks:=yI} 0 [⟨0,(.var 7),(.lit 0),0,.int .i64 (.var 2)⟩] (.lit 0)),(5,.up {r:=5,n1:=.var 0,s1:=52,n2:=10,s2:=5,lo:=2,ks:=yW} 1 [] (.lit 0)),(4,yu 4 0 52 yB 0),(3,yu 3 1 5 yW 0)],bk:=[(4,yb 4),(3,yc 6 1)]})
  (.fin {lo:=2,az:=0,iv:=[(6,yv 11),(5,yv 10),(4,yv 8),(3,yv 7)],bv:=[(7,yw 12),(2,yw 6)],ct:=[(11,yu 9 7 1 yI 0),(10,.up {r:=5,n1:=.var 0,s1:=52,n2:=10,s2:=5,lo:=2,ks:=yW} 1 [] (.lit 0)),(9,yu 4 0 52 yB 0),(8,yu 3 1 5 yW 0)],bk:=[(4,yb 4),(3,yc 3 1),(2,yc 1 52),(1,yc 0 5),(0,yb 2)]}))
 (.ob (.aA (.lit 0) (.var 0)) <|
  .ob (.aA (.mul (.var 0) (.lit 416)) (.lit 281474976710656)) <|
  .ob (.aA (.var 0) (.lit 9223372036854775807)) <|
  .ob (.aA (.lit 0) (.var 1)) <|
  .ob (.aA (.mul (.var 1) (.lit 40)) (.lit 281474976710656)) <|
  .ob (.aA (.var 1) (.lit 9223372036854775807)) <|
  .loop 2 {lo:=2,az:=3,iv:=[(11,.lit 0),(10,.lit 0),(8,.lit 0),(7,.lit 0),(2,yv 0)],bv:=[(12,.lit true),(6,.lit true)],ct:=[(3,.up {r:=0,n1:=.var 1,s1:=5,ks:=yW,z:=true} 0 [] (.lit 0)),(5,.up {r:=0,n1:=.var 0,s1:=52,n2:=10,s2:=5,lo:=2,ks:=yW,z:=true} 1 [] (.lit 0)),(4,.up {r:=0,n1:=.var 0,s1:=52,ks:=yB,z:=true} 0 [] (.lit 0))],nb:=[4,3,4,3]} <|
  .br (.aA (.lit 1) (.var 2))
  (.ob (.aA (.mul (.add (.var 7) (.lit 1)) (.lit 8)) (.lit 140737488355328)) <|
   .ob (.aA (.lit 0) (.var 7)) <|
   .ob (.aA (.var 7) (.var 8)) <|
   .ob (.aA (.var 8) (.lit 9223372036854775807)) <|
   .ob (.or (.not (.var 6)) (.aB (.var 7) (.lit 0))) <|
   .new 13 [.be (.and (.aA (.add (.var 7) (.lit 1)) (.var 13)) (.aA (.var 13) (.lit 9223372036854775807)))] <|
   .ob (.inr .i64 (.sub (.var 2) (.lit 1))) <|
   .back 0 {lo:=2,az:=3,iv:=[(11,yv 11),(10,yv 10),(8,yv 13),(7,.add (.var 7) (.lit 1)),(2,.sub (.var 2) (.lit 1))],bv:=[(12,yw 12),(6,.lit false)],ct:=[(9,.up {r:=9,n1:=.add (.var 7) (.lit 1),s1:=1,ks:=yI} 0 [⟨0,(.var 7),(.lit 0),0,.int .i64 (.var 2)⟩] (.lit 0)),(3,yu 3 1 5 yW 0),(5,.up {r:=5,n1:=.var 0,s1:=52,n2:=10,s2:=5,lo:=2,ks:=yW} 1 [] (.lit 0)),(4,yu 4 0 52 yB 0)],bk:=[(4,yb 4),(3,yc 6 1)]})
  (.fin {lo:=2,az:=0,iv:=[(6,yv 11),(5,yv 10),(4,yv 8),(3,yv 7)],bv:=[(7,yw 12),(2,yw 6)],ct:=[(11,yu 9 7 1 yI 0),(10,.up {r:=5,n1:=.var 0,s1:=52,n2:=10,s2:=5,lo:=2,ks:=yW} 1 [] (.lit 0)),(9,yu 4 0 52 yB 0),(8,yu 3 1 5 yW 0)],bk:=[(4,yb 4),(3,yc 3 1),(2,yc 0 52),(1,yc 1 5),(0,yb 2)]}))
theorem VE:exec tab XI 8000 [] (eG oh.f oh.nv UC oh.gl oh.hp oh.args)=JK:=by kernel_rfl
def p8 (ρ:Env):Prop:=(0≤ρ.iv 0∧ρ.iv 0≤1024)∧0≤ρ.iv 1∧ρ.iv 1≤200
def Aa (ρ:Env):Prop:=bF ρ 2∧∃p:PS,af ρ (ρ.iv 1) (ρ.iv 0) 2=p∧p.nb=ρ.iv 1∧p.ns=ρ.iv 0∧p.nf=ρ.iv 0∧p.steps=0∧p.made=0∧p.gL=true∧(∀i,p.bd i=Wd.zero)∧(∀i,p.gen i=0)∧(∀i,p.used i=false)∧(∀i k,p.cell i k=Wd.zero)∧∀i:Nat,(i:Int)<ρ.iv 0→p.fr i=ρ.iv 0-i
def uZ (ρ:Env):Prop:=(0≤ρ.iv 2∧ρ.iv 2≤ρ.iv 0)∧bF ρ 6∧ρ.iv 7=ρ.iv 0-ρ.iv 2∧ρ.iv 10=0∧ρ.iv 11=0∧ρ.bv 12=true∧(∀i,aF (ρ.ic 3 i 0) (ρ.bc 3 i 0)=Wd.zero)∧(∀i,ρ.ic 4 i 0 0=0∧ρ.bc 4 i 0 1=false)∧(∀i k,aF (ρ.ic 5 i k) (ρ.bc 5 i k)=Wd.zero)∧∀i:Nat,(i:Int)<ρ.iv 7→ρ.ic 9 i 0 0=ρ.iv 0-i
theorem Ta {q:Env} (hp:p8 q) {σ:Sub} {k:Out} (h0:uZ (σ.ag q)) (hk:∀r,p8 r→uZ r→∀Γ,Γ=(fun ρ':Env=>uZ ρ'∧ρ'.iv 2+1≤r.iv 2∧0≤ρ'.iv 2)→Sat Aa [] [fun ρ'=>uZ ρ'∧(ρ'.iv 2).toNat<(r.num.iv 2).toNat] r k):Sat Aa [] [] q (.loop 2 σ k) :=
 Sat.wH uZ (fun r=>(r.iv 2).toNat) p8 h0 (fun _=>hp) fun r hp hI=>hk r hp hI _ rfl
set_option maxHeartbeats 1000000 in
theorem VF (q:Env) (hpre:p8 q.num):Sat Aa [] [] q JK:=by
 replace hpre:p8 q:=hpre
 obtain ⟨⟨a1,a2⟩,a3,a4⟩:=id hpre
 unfold JK
 refine Sat.alt ?_ ?_
 all_goals
  refine Sat.ob (by simp only [Da];omega) (Sat.ob (by simp only [Da];omega) (Sat.ob (by simp only [Da];omega) (Sat.ob (by simp only [Da];omega) (Sat.ob (by simp only [Da];omega) (Sat.ob (by simp only [Da];omega) (Ta hpre ?_ fun r hp hI _ _=>?_))))))
  ·refine ⟨⟨a1,Int.le_refl _⟩,⟨fun _=>rfl,Int.le_refl 0,Int.le_refl 0,by show (0:Int)≤_;decide⟩,?_,rfl,rfl,rfl,fun i=>?_,fun i=>?_,fun i k=>?_,fun i hi=>?_⟩
   ·show (0:Int)=q.iv 0-q.iv 0
    omega
   ·simp [aF,Wd.zero,-Int.pred_toNat,Sub.ag,assoc,CV.I,CV.B,ah,ai,ae.I,ae.B,SC.I,SC.B,IE.den,BE.den]
   ·simp [-Int.pred_toNat,Sub.ag,assoc,CV.I,CV.B,ah,ai,ae.I,ae.B,SC.I,SC.B,IE.den,BE.den]
   ·simp [aF,Wd.zero,-Int.pred_toNat,Sub.ag,assoc,CV.I,CV.B,ah,ai,ae.I,ae.B,SC.I,SC.B,IE.den,BE.den]
   ·have:(i:Int)<0:=hi
    omega
  ·obtain ⟨⟨a1,a2⟩,a3,a4⟩:=hp
   obtain ⟨⟨i1,i2⟩,ho,i3,i4,i5,i6,i7,i8,i9,i10⟩:=hI
   refine Sat.br (fun hlt=>?_) (fun hge=>?_)
   ·simp only [Da] at hlt
    refine Sat.ob (by simp only [Da];omega) (Sat.ob (decide_eq_true ho.2.1) (Sat.ob (decide_eq_true ho.2.2.1) (Sat.ob (decide_eq_true ho.2.2.2) (Sat.ob (aL ho) (Sat.yY (fun u=>p8 u∧uZ u∧1≤u.iv 2∧(u.iv 2-1).toNat<(r.num.iv 2).toNat) (fun _=>⟨⟨⟨a1,a2⟩,a3,a4⟩,⟨⟨i1,i2⟩,ho,i3,i4,i5,i6,i7,i8,i9,i10⟩,hlt,by show (r.iv 2-1).toNat<(r.iv 2).toNat;omega⟩) fun u hu hf=>?_)))))
    obtain ⟨⟨⟨a1,a2⟩,a3,a4⟩,⟨⟨i1,i2⟩,ho,i3,i4,i5,i6,i7,i8,i9,i10⟩,hlt,hm⟩:=hu
    simp only [Da] at hf
    have h7:0≤u.iv 7:=ho.2.1
    refine Sat.ob (by simp only [Da];omega) (Sat.back rfl ⟨⟨⟨by show 0≤u.iv 2-1;omega,by show u.iv 2-1≤u.iv 0;omega⟩,⟨fun h=>(by cases h),by show 0≤u.iv 7+1;omega,hf.1,hf.2⟩,by show u.iv 7+1=u.iv 0-(u.iv 2-1);omega,i4,i5,i6,fun i=>?_,fun i=>?_,fun i k=>?_,fun i hi=>?_⟩,hm⟩)
    ·rw [←i7 i]
     simp [aF,-Int.pred_toNat,Sub.ag,assoc,CV.I,CV.B,ah,ai,ae.I,ae.B,SC.I,SC.B,IE.den,BE.den]
    ·obtain ⟨x,y⟩:=i8 i
     refine ⟨?_,?_⟩
     ·simp [-Int.pred_toNat,Sub.ag,assoc,CV.I,CV.B,ah,ai,ae.I,ae.B,SC.I,SC.B,IE.den,BE.den,x]
     ·simp [-Int.pred_toNat,Sub.ag,assoc,CV.I,CV.B,ah,ai,ae.I,ae.B,SC.I,SC.B,IE.den,BE.den,y]
    ·rw [←i9 i k]
     simp [aF,-Int.pred_toNat,Sub.ag,assoc,CV.I,CV.B,ah,ai,ae.I,ae.B,SC.I,SC.B,IE.den,BE.den]
    ·replace hi:(i:Int)<u.iv 7+1:=hi
     by_cases h:i=(u.iv 7).toNat
     ·subst h
      have:(((u.iv 7).toNat:Nat):Int)=u.iv 7:=by omega
      simp [-Int.pred_toNat,Sub.ag,assoc,CV.I,CV.B,ah,ai,ae.I,ae.B,SC.I,SC.B,IE.den,BE.den]
      omega
     ·have hr:=i10 i (by omega)
      have hr2:u.iv 0-(i:Int)=(u.iv 0-(i:Int)):=rfl
      simp [-Int.pred_toNat,Sub.ag,assoc,CV.I,CV.B,ah,ai,ae.I,ae.B,SC.I,SC.B,IE.den,BE.den,Ne.symm h,hr]
   ·simp only [Da] at hge
    have h2:r.iv 2=0:=by omega
    refine Sat.fin ⟨ho,_,rfl,rfl,rfl,?_,i4,i5,i6,fun i=>?_,fun i=>?_,fun i=>?_,fun i k=>?_,fun i hi=>?_⟩
    ·show r.iv 7=r.iv 0
     omega
    ·rw [←i7 i]
     simp [af,aF,-Int.pred_toNat,Sub.ag,assoc,CV.I,CV.B,ah,ai,ae.I,ae.B,SC.I,SC.B,IE.den,BE.den]
    ·simp [af,-Int.pred_toNat,Sub.ag,assoc,CV.I,CV.B,ah,ai,ae.I,ae.B,SC.I,SC.B,IE.den,BE.den,(i8 i).1]
    ·simp [af,-Int.pred_toNat,Sub.ag,assoc,CV.I,CV.B,ah,ai,ae.I,ae.B,SC.I,SC.B,IE.den,BE.den,(i8 i).2]
    ·rw [←i9 i k]
     simp [af,aF,-Int.pred_toNat,Sub.ag,assoc,CV.I,CV.B,ah,ai,ae.I,ae.B,SC.I,SC.B,IE.den,BE.den]
    ·replace hi:(i:Int)<r.iv 0:=hi
     show _=r.iv 0-(i:Int)
     rw [←i10 i (by omega)]
     simp [af,-Int.pred_toNat,Sub.ag,assoc,CV.I,CV.B,ah,ai,ae.I,ae.B,SC.I,SC.B,IE.den,BE.den]
theorem VG:aY Tryz.prog oh p8 Aa :=
 cZ dD (E:=XI) (cs:=[]) rfl (fun k pre post h=>by cases h) bS rfl VE (by kernel_rfl) (fun ρ h p hp=>by
   obtain ⟨⟨a1,a2⟩,a3,a4⟩:p8 ρ.num:=h
   simp only [UC,List.mem_cons,List.not_mem_nil,or_false] at hp
   rcases hp with rfl | rfl | rfl | rfl <;> simp only [Da] <;> omega) VF
end Go.Proofs.YthomdlajobnmnaaGreatDoor
namespace Go.Rex
def Env.pull (f:Nat→Nat) (ρ:Env):Env:=⟨fun i=>ρ.iv (f i),fun i=>ρ.bv (f i),fun i=>ρ.vv (f i),fun i=>ρ.ic (f i),fun i=>ρ.bc (f i),fun i=>ρ.vc (f i)⟩
def Env.cat (N:Nat) (ρ e:Env):Env where
 iv:=fun i=>if i<N then ρ.iv i else e.iv (i-N)
 bv:=fun i=>if i<N then ρ.bv i else e.bv (i-N)
 vv:=fun i=>if i<N then ρ.vv i else e.vv (i-N)
 ic:=fun i=>if i<N then ρ.ic i else e.ic (i-N)
 bc:=fun i=>if i<N then ρ.bc i else e.bc (i-N)
 vc:=fun i=>if i<N then ρ.vc i else e.vc (i-N)
def uk (n:Nat) (ν μ:Nat→Addr):Nat→Addr:=fun k=>if k<n then ν k else μ (k-n)
theorem Env.JL (N:Nat) (ρ e:Env):(ρ.cat N e).pull (N+·)=e:=by
 have h:∀i,¬N+i<N:=fun i=>by omega
 have h2:∀i,N+i-N=i:=fun i=>by omega
 cases e
 simp only [Env.pull,Env.cat,if_neg (h _),h2]
theorem Ab (n:Nat) (ν μ:Nat→Addr) (k:Nat):uk n ν μ (n+k)=μ k:=by
 unfold uk
 rw [if_neg (by omega),show n+k-n=k by omega]
theorem ve (n:Nat) (ν μ:Nat→Addr) {k:Nat} (h:k<n):uk n ν μ k=ν k:=if_pos h
theorem dn.cat (N n:Nat) (ρ e:Env) (ν μ:Nat→Addr):dn N n ρ (ρ.cat N e) ν (uk n ν μ) :=
 ⟨fun _ h=>if_pos h,fun _ h=>if_pos h,fun _ h=>if_pos h,fun _ h=>if_pos h,fun _ h=>if_pos h,fun _ h=>if_pos h,fun _ h=>if_pos h⟩
section
variable (f g:Nat→Nat)
def IE.aU:IE→IE
 | .lit n=>.lit n
 | .var i=>.var (f i)
 | .add a b=>.add a.aU b.aU
 | .sub a b=>.sub a.aU b.aU
 | .mul a b=>.mul a.aU b.aU
 | .div a b=>.div a.aU b.aU
 | .mod a b=>.mod a.aU b.aU
 | .wrap k a=>.wrap k a.aU
 | .oG a b=>.oG a.aU b.aU
 | .imax a b=>.imax a.aU b.aU
 | .cell r a b j=>.cell (f r) a.aU b.aU j
def BE.aU:BE→BE
 | .lit b=>.lit b
 | .var i=>.var (f i)
 | .not a=>.not a.aU
 | .and a b=>.and a.aU b.aU
 | .or a b=>.or a.aU b.aU
 | .ite a b c=>.ite a.aU b.aU c.aU
 | .aB a b=>.aB (a.aU f) (b.aU f)
 | .aA a b=>.aA (a.aU f) (b.aU f)
 | .bR a b=>.bR (a.aU f) (b.aU f)
 | .beq a b=>.beq a.aU b.aU
 | .inr k a=>.inr k (a.aU f)
 | .cell r a b j=>.cell (f r) (a.aU f) (b.aU f) j
def SA.aU (a:SA):SA:={aD:=g a.aD,i1:=a.i1.aU f,s1:=a.s1,i2:=a.i2.aU f,s2:=a.s2,j:=a.j}
def SC.aU:SC→SC
 | .int k e=>.int k (e.aU f)
 | .bool b=>.bool (b.aU f)
 | .str l=>.str l
 | .val i=>.val (f i)
 | .jd r a b j=>.jd (f r) (a.aU f) (b.aU f) j
 | .ptr a=>.ptr (a.aU f g)
 | .aQ=>.aQ
 | .sl a l c=>.sl (a.aU f g) (l.aU f) (c.aU f)
 | .bg=>.bg
 | .eF k a l c=>.eF (k.aU f) (a.aU f g) (l.aU f) (c.aU f)
 | .fn h jf=>.fn h (jf.map g)
 | .aG=>.aG
 | .iface t c=>.iface t c.aU
 | .dh=>.dh
 | .iw c x=>.iw (c.aU f) x.aU
 | .mp b=>.mp (g b)
 | .o8=>.o8
 | .rt t b o=>.rt t b o
 | .hole=>.hole
def ae.aU (s:ae):ae:={s with r:=f s.r,n1:=s.n1.aU f}
def Up.aU (u:Up):Up:={g:=u.g,i1:=u.i1.aU f,i2:=u.i2.aU f,j:=u.j,c:=u.c.aU f g}
def SB.aU (b:SB):SB:={b with cs:=b.cs.map (SC.aU f g),aV:=b.aV.map (ae.aU f),ups:=b.ups.map (Up.aU f g),cap:=b.cap.map fun x=>(x.1.aU f,x.2),nl:=b.nl.aU f}
variable {f g} {ρ:Env} {ν:Nat→Addr}
theorem IE.fH (e:IE):(e.aU f).den ρ=e.den (ρ.pull f):=by
 induction e <;> simp_all [IE.aU,IE.den,Env.pull]
theorem BE.fH (e:BE):(e.aU f).den ρ=e.den (ρ.pull f):=by
 induction e <;> simp_all [BE.aU,BE.den,IE.fH]
 all_goals rfl
theorem SA.fH (a:SA):(a.aU f g).den ρ ν=a.den (ρ.pull f) (fun k=>ν (g k)):=by
 simp only [SA.aU,SA.den,SA.off,IE.fH]
theorem SC.fH (c:SC):(c.aU f g).den ρ ν=c.den (ρ.pull f) (fun k=>ν (g k)):=by
 induction c with
 | fn h jf=>simp only [SC.aU,SC.den,List.map_map];rfl
 | val i=>rfl
 | jd r a b j=>simp only [SC.aU,SC.den,IE.fH];rfl
 | _=>simp_all [SC.aU,SC.den,IE.fH,BE.fH,SA.fH]
theorem SC.JM (c:SC):(c.aU f g).isHole=c.isHole:=by
 induction c <;> simp_all [SC.aU,SC.isHole]
theorem ae.JN (s:ae) (i1 i2 j:Nat):(s.aU f).base ρ i1 i2 j=s.base (ρ.pull f) i1 i2 j:=rfl
theorem wY (gi i1 i2 j:Nat) (b:Value):∀us:List Up,cu ρ ν (us.map (Up.aU f g)) gi i1 i2 j b=cu (ρ.pull f) (fun k=>ν (g k)) us gi i1 i2 j b
 | []=>rfl
 | u :: r=>by
  simp only [List.map_cons,cu,wY gi i1 i2 j b r]
  simp only [Up.aU,IE.fH,SC.fH]
theorem SB.jc (b:SB):(b.aU f g).dead ρ=b.dead (ρ.pull f):=by
 simp only [SB.dead,SB.aU,BE.fH]
theorem SB.Ad (b:SB) {arr:Array Value}:(b.aU f g).has ρ ν arr↔b.has (ρ.pull f) (fun k=>ν (g k)) arr:=by
 constructor
 ·intro h
  refine ⟨fun u hu=>?_,fun h1 h2=>?_,fun e n he=>?_,fun p c hp hh=>?_,fun gi s hs i1 i2 j h1 h2 h3=>?_⟩
  ·have:=h.un (u.aU f g) (List.mem_map.2 ⟨u,hu,rfl⟩)
   simpa only [Up.aU,IE.fH] using this
  ·have:=h.size (by simp [SB.aU,h1]) h2
   simpa [SB.aU] using this
  ·have:=h.cap (e.aU f) n (by simp [SB.aU,he])
   simpa only [IE.fH] using this
  ·have:=h.ex p (c.aU f g) (by simp [SB.aU,hp]) (by rw [SC.JM];exact hh)
   rwa [SC.fH] at this
  ·have:=h.sg gi (s.aU f) (by simp [SB.aU,hs]) i1 i2 j (by simpa only [ae.aU,IE.fH] using h1) h2 h3
   rw [ae.JN] at this
   simpa only [SB.aU,wY,ae.aU] using this
 ·intro h
  refine ⟨fun u hu=>?_,fun h1 h2=>?_,fun e n he=>?_,fun p c hp hh=>?_,fun gi s hs i1 i2 j h1 h2 h3=>?_⟩
  ·simp only [SB.aU,List.mem_map] at hu
   obtain ⟨u',hu',rfl⟩:=hu
   have:=h.un u' hu'
   simpa only [Up.aU,IE.fH] using this
  ·have:=h.size (by simpa [SB.aU] using h1) h2
   simpa [SB.aU] using this
  ·simp only [SB.aU,Option.map_eq_some_iff] at he
   obtain ⟨⟨e',n'⟩,he,h2⟩:=he
   simp only [Prod.mk.injEq] at h2
   obtain ⟨rfl,rfl⟩:=h2
   have:=h.cap e' n' he
   simpa only [IE.fH] using this
  ·simp only [SB.aU,List.getElem?_map,Option.map_eq_some_iff] at hp
   obtain ⟨c',hp,rfl⟩:=hp
   rw [SC.JM] at hh
   rw [SC.fH]
   exact h.ex p c' hp hh
  ·simp only [SB.aU,List.getElem?_map,Option.map_eq_some_iff] at hs
   obtain ⟨s',hs,rfl⟩:=hs
   have:=h.sg gi s' hs i1 i2 j (by simpa only [ae.aU,IE.fH] using h1) h2 h3
   rw [ae.JN]
   simpa only [SB.aU,wY,ae.aU] using this
theorem SB.JO (b:SB) {w:World} {k:Nat}:vD (b.aU f g) w k↔vD b w k:=by
 unfold vD
 simp [SB.aU]
end
theorem aI.sub {ρ:Env} {ν:Nat→Addr} {w:World} {H hp:List SB} {f g:Nat→Nat} (h:aI ρ ν H w) (hg:(List.range hp.length).map (fun j=>H[g j]?)=hp.map fun sb=>some (sb.aU f g))
  (hi:∀i j,i<hp.length→j<hp.length→g i=g j→i=j):aI (ρ.pull f) (fun k=>ν (g k)) hp w:=by
 have at_:∀(k:Nat) (sb:SB),hp[k]?=some sb→H[g k]?=some (sb.aU f g):=fun k sb hk=>by
  have hlt:=(List.getElem?_eq_some_iff.1 hk).1
  have:=congrArg (fun l=>l[k]?) hg
  simp only [List.getElem?_map,List.getElem?_range hlt,hk,Option.map_some] at this
  exact Option.some.inj this
 refine ⟨fun i j a b h1 h2 d1 d2 ra he=>?_,fun k sb hk hd hr=>?_,fun k sb hk hd hr=>?_⟩
 ·refine hi i j (List.getElem?_eq_some_iff.1 h1).1 (List.getElem?_eq_some_iff.1 h2).1 ?_
  exact h.inj (g i) (g j) _ _ (at_ i a h1) (at_ j b h2) (by rw [SB.jc];exact d1) (by rw [SB.jc];exact d2) ra he
 ·obtain ⟨h1,cs,h2,h3⟩:=h.aD (g k) _ (at_ k sb hk) (by rw [SB.jc];exact hd) hr
  exact ⟨h1,cs,h2,SB.Ad sb |>.1 h3⟩
 ·obtain ⟨h1,cs,h2,h3⟩:=h.rd (g k) _ (at_ k sb hk) (by rw [SB.jc];exact hd) hr
  exact ⟨SB.JO sb |>.1 h1,cs,SB.Ad sb |>.1 h2,h3⟩
theorem aI.app {ρ:Env} {ν:Nat→Addr} {w:World} {hp hq:List SB} {f:Nat→Nat} (h1:aI ρ ν hp w) (h2:aI (ρ.pull f) (fun k=>ν (hp.length+k)) hq w)
  (hd:∀(i j:Nat) (a b:SB),hp[i]?=some a→hq[j]?=some b→a.dead ρ=false→b.dead (ρ.pull f)=false→a.ro=false∨b.ro=false→(ν i).block≠(ν (hp.length+j)).block):aI ρ ν (hp ++ hq.map (SB.aU f (hp.length+·))) w:=by
 have at_:∀(k:Nat) (sb:SB),(hp ++ hq.map (SB.aU f (hp.length+·)))[k]?=some sb→hp[k]?=some sb∨∃j b,k=hp.length+j∧hq[j]?=some b∧sb=b.aU f (hp.length+·):=fun k sb hk=>by
  rw [List.getElem?_append] at hk
  split at hk
  ·exact .inl hk
  ·rw [List.getElem?_map,Option.map_eq_some_iff] at hk
   obtain ⟨b,hb,rfl⟩:=hk
   exact .inr ⟨k-hp.length,b,by omega,hb,rfl⟩
 refine ⟨fun i j a b hi hj d1 d2 ra he=>?_,fun k sb hk hdd hr=>?_,fun k sb hk hdd hr=>?_⟩
 ·rcases at_ i a hi with qi | ⟨i',a',rfl,qi,rfl⟩
  ·rcases at_ j b hj with qj | ⟨j',b',rfl,qj,rfl⟩
   ·exact h1.inj i j a b qi qj d1 d2 ra he
   ·rw [SB.jc] at d2
    exact absurd he (hd i j' a b' qi qj d1 d2 (.inl ra))
  ·rw [SB.jc] at d1
   rcases at_ j b hj with qj | ⟨j',b',rfl,qj,rfl⟩
   ·exact absurd he.symm (hd j i' b a' qj qi d2 d1 (.inr ra))
   ·rw [SB.jc] at d2
    have:=h2.inj i' j' a' b' qi qj d1 d2 ra he
    omega
 ·rcases at_ k sb hk with qk | ⟨j,b,rfl,qk,rfl⟩
  ·exact h1.aD k sb qk hdd hr
  ·rw [SB.jc] at hdd
   obtain ⟨g1,cs,g2,g3⟩:=h2.aD j b qk hdd hr
   exact ⟨g1,cs,g2,SB.Ad b |>.2 g3⟩
 ·rcases at_ k sb hk with qk | ⟨j,b,rfl,qk,rfl⟩
  ·exact h1.rd k sb qk hdd hr
  ·rw [SB.jc] at hdd
   obtain ⟨g1,cs,g2,g3⟩:=h2.rd j b qk hdd hr
   exact ⟨SB.JO b |>.2 g1,cs,SB.Ad b |>.2 g2,g3⟩
theorem jN.sub {z:Nat} {W:Nat→Prop} {ρ:Env} {ν:Nat→Addr} {H hp:List SB} {f g:Nat→Nat} (h:jN z W ρ ν H) (hg:(List.range hp.length).map (fun j=>H[g j]?)=hp.map fun sb=>some (sb.aU f g)):jN z W (ρ.pull f) (fun k=>ν (g k)) hp:=by
 intro k sb hk ho hd
 have hlt:=(List.getElem?_eq_some_iff.1 hk).1
 have:=congrArg (fun l=>l[k]?) hg
 simp only [List.getElem?_map,List.getElem?_range hlt,hk,Option.map_some] at this
 have:=h (g k) (sb.aU f g) (Option.some.inj this) ho (by rw [SB.jc];exact hd)
 exact this
theorem VH {z:Nat} {W:Nat→Prop} {ρ:Env} {ν:Nat→Addr} {hp:List SB} (h:jN z W ρ ν hp) {b:Nat} (hb:iI ρ ν hp b):z≤b∨W b:=by
 obtain ⟨k,sb,h1,h2,h3,rfl⟩:=hb
 exact h k sb h1 h2 h3
def ow (hp:List SB):Bool:=hp.all fun b=>b.gone || (b.own && !b.ro)
theorem tK {hp:List SB} (h:ow hp=true) {k:Nat} {sb:SB} (hk:hp[k]?=some sb) (hg:sb.gone=false):sb.own=true∧sb.ro=false:=by
 have:=List.all_eq_true.1 h sb (List.mem_of_getElem? hk)
 simpa [hg] using this
theorem aI.frame {ρ:Env} {ν:Nat→Addr} {hp:List SB} {w w':World} (ha:ow hp=true) (h:aI ρ ν hp w) (hk:∀b,iI ρ ν hp b→w'.heap[b]?=w.heap[b]?):aI ρ ν hp w':=by
 refine ⟨h.inj,fun k sb h1 hd hr=>?_,fun k sb h1 hd hr=>?_⟩
 ·obtain ⟨g1,cs,g2,g3⟩:=h.aD k sb h1 hd hr
  refine ⟨g1,cs,?_,g3⟩
  rw [hk _ ⟨k,sb,h1,(tK ha h1 (SB.dI hd)).1,hd,rfl⟩]
  exact g2
 ·have:=(tK ha h1 (SB.dI hd)).2
  rw [hr] at this;cases this
end Go.Rex
namespace Go.Rex
def gH (ρ:Env) (ν:Nat→Addr) (hp:List SB) (b:Nat):Prop:=∃(k:Nat) (sb:SB),hp[k]?=some sb∧sb.dead ρ=false∧b=(ν k).block
theorem lQ {ρ:Env} {ν:Nat→Addr} {hp:List SB} {b:Nat} (h:iI ρ ν hp b):gH ρ ν hp b:=by
 obtain ⟨k,sb,h1,-,h3,rfl⟩:=h
 exact ⟨k,sb,h1,h3,rfl⟩
theorem Qt {ρ:Env} {ν:Nat→Addr} {hp:List SB} (ha:ow hp=true) {b:Nat} (h:gH ρ ν hp b):iI ρ ν hp b:=by
 obtain ⟨k,sb,h1,h3,rfl⟩:=h
 exact ⟨k,sb,h1,(tK ha h1 (SB.dI h3)).1,h3,rfl⟩
theorem o6 {ρ:Env} {ν:Nat→Addr} {hp:List SB} {w:World} (h:aI ρ ν hp w) {b:Nat} (hb:gH ρ ν hp b):b<w.heap.size:=by
 obtain ⟨k,sb,h1,h3,rfl⟩:=hb
 exact h.lt h1 h3
theorem p9 {nv n:Nat} {ρ ρ':Env} {ν aK:Nat→Addr} (hA:dn nv n ρ ρ' ν aK) {hp:List SB} (hs:oL nv n hp=true) (hl:hp.length≤n) {b:Nat}:gH ρ' aK hp b↔gH ρ ν hp b:=by
 constructor
 ·rintro ⟨k,sb,h1,h3,rfl⟩
  have:=(List.getElem?_eq_some_iff.1 h1).1
  exact ⟨k,sb,h1,by rwa [SB.lV hA (iE hs k sb h1)] at h3,by rw [hA.bl k (by omega)]⟩
 ·rintro ⟨k,sb,h1,h3,rfl⟩
  have:=(List.getElem?_eq_some_iff.1 h1).1
  exact ⟨k,sb,h1,by rwa [SB.lV hA (iE hs k sb h1)],by rw [hA.bl k (by omega)]⟩
theorem aI.join {a b:List SB} {N:Nat} {xE tL:Env} {Aw zo:Nat→Addr} {w:World} (ha:aI xE Aw a w) (hb:aI tL zo b w) (hs:oL N a.length a=true) (hd:∀x,gH xE Aw a x→gH tL zo b x→False) :
  aI (xE.cat N tL) (uk a.length Aw zo) (a ++ b.map (SB.aU (N+·) (a.length+·))) w:=by
 have hA:=dn.cat N a.length xE tL Aw zo
 have e1:(xE.cat N tL).pull (N+·)=tL:=Env.JL N xE tL
 have e2:(fun k=>uk a.length Aw zo (a.length+k))=zo:=funext fun k=>Ab ..
 refine aI.app (ha.ext hA hs (Nat.le_refl _)) (by rw [e1,e2];exact hb) fun i j x y hi hj dx dy _ he=>?_
 rw [e1] at dy
 have hl:=(List.getElem?_eq_some_iff.1 hi).1
 rw [ve _ _ _ hl,Ab] at he
 rw [SB.lV hA (iE hs i x hi)] at dx
 exact hd _ ⟨i,x,hi,dx,rfl⟩ ⟨j,y,hj,dy,he⟩
theorem Qu {a b:List SB} {N:Nat} {xE tL:Env} {Aw zo:Nat→Addr} (hs:oL N a.length a=true) {x:Nat} (h:iI (xE.cat N tL) (uk a.length Aw zo) (a ++ b.map (SB.aU (N+·) (a.length+·))) x):iI xE Aw a x∨iI tL zo b x:=by
 have hA:=dn.cat N a.length xE tL Aw zo
 have e1:(xE.cat N tL).pull (N+·)=tL:=Env.JL N xE tL
 obtain ⟨k,sb,h1,h2,h3,rfl⟩:=h
 rw [List.getElem?_append] at h1
 split at h1
 ·rename_i hk
  rw [SB.lV hA (iE hs k sb h1)] at h3
  exact .inl ⟨k,sb,h1,h2,h3,by rw [ve _ _ _ hk]⟩
 ·rename_i hk
  rw [List.getElem?_map,Option.map_eq_some_iff] at h1
  obtain ⟨c,hc,rfl⟩:=h1
  rw [SB.jc,e1] at h3
  refine .inr ⟨k-a.length,c,hc,h2,h3,?_⟩
  have:=Ab a.length Aw zo (k-a.length)
  rw [show a.length+(k-a.length)=k by omega] at this
  rw [this]
def Yx (hp:List SB):Bool:=hp.all fun b=>!b.own
theorem rX {ρ:Env} {ν:Nat→Addr} {hp:List SB} (h:Yx hp=true) {x:Nat} (hx:iI ρ ν hp x):False:=by
 obtain ⟨k,sb,h1,h2,-,-⟩:=hx
 have:=List.all_eq_true.1 h sb (List.mem_of_getElem? h1)
 rw [h2] at this
 cases this
theorem aI.DV {ρ:Env} {ν:Nat→Addr} {hp:List SB} {w w':World} (ha:ow hp=true) (h:aI ρ ν hp w) (hk:∀b,gH ρ ν hp b→w'.heap[b]?=w.heap[b]?):aI ρ ν hp w' :=
 h.frame ha fun b hb=>hk b (lQ hb)
theorem jN.aD {z:Nat} {W:Nat→Prop} {ρ:Env} {ν:Nat→Addr} {hp:List SB} (ha:ow hp=true) (h:jN z W ρ ν hp) {b:Nat} (hb:gH ρ ν hp b):z≤b∨W b:=VH h (Qt ha hb)
end Go.Rex
namespace Go.Proofs.YthomdlajobnmnaaGreatDoor
open Go.Rex
def gX:List SB:=iC 36 yV 0
def jG:List SB:=Jl 0 2 0
structure iK (w:World) (a:Addr) (p:PS) (B:Nat→Prop):Prop where
 ex:∃ρ ν,ν 0=a∧aI ρ ν jG w∧af ρ (ρ.iv 0) (ρ.iv 1) 2=p∧bF ρ 2∧∀b,gH ρ ν jG b→B b
structure kU (w:World) (dV:Nat→Addr):Prop where
 hp:∃ρ,aI ρ dV gX w
 gl:iB dV (dS yV 0)
theorem Hd:ow jG=true:=by kernel_rfl
section
variable {w w':World} {a:Addr} {p:PS} {B B':Nat→Prop}
theorem iK.frame (h:iK w a p B) (hk:∀b,B b→w'.heap[b]?=w.heap[b]?):iK w' a p B:=by
 obtain ⟨ρ,ν,h1,h2,h3,h4,h5⟩:=h.ex
 exact ⟨ρ,ν,h1,h2.DV Hd fun b hb=>hk b (h5 b hb),h3,h4,h5⟩
theorem iK.mono (h:iK w a p B) (hk:∀b,B b→b<w.heap.size→B' b):iK w a p B':=by
 obtain ⟨ρ,ν,h1,h2,h3,h4,h5⟩:=h.ex
 exact ⟨ρ,ν,h1,h2,h3,h4,fun b hb=>hk b (h5 b hb) (o6 h2 hb)⟩
theorem kU.frame {dV:Nat→Addr} (h:kU w dV) (hz:w.heap.size≤w'.heap.size) (hk:∀k,k<8→w'.heap[(dV k).block]?=w.heap[(dV k).block]?):kU w' dV:=by
 obtain ⟨⟨ρ,h1⟩,h2⟩:=h
 exact ⟨⟨ρ,h1.yG hz fun k sb hk' _=>hk k (Nat.lt_of_lt_of_le (List.getElem?_eq_some_iff.1 hk').1 (by decide))⟩,h2⟩
end
structure tN (p:PS) (n m:Int):Prop where
 nb:p.nb=n
 ns:p.ns=m
 nf:p.nf=m
 steps:p.steps=0
 made:p.made=0
 gL:p.gL=true
 bd:∀i,p.bd i=Wd.zero
 gen:∀i,p.gen i=0
 used:∀i,p.used i=false
 cell:∀i k,p.cell i k=Wd.zero
 fr:∀i:Nat,(i:Int)<m→p.fr i=m-i
theorem tN.ok {p:PS} {n m:Int} (h:tN p n m) (h1:0≤m∧m≤1024) (h2:0≤n∧n≤200):p.OK:=by
 have hu:∀k,jB p.used k=0:=fun k=>by
  rw [qD (v:=fun _=>false) fun i _=>h.used i,wE]
 refine ⟨by rw [h.nb];exact h2,by rw [h.ns];exact h1,by rw [h.nf];exact h1.1,by rw [h.made,h.steps];exact ⟨Int.le_refl 0,Int.le_refl 0⟩,fun i=>by rw [h.gen,h.made];exact ⟨Int.le_refl 0,Int.le_refl 0⟩,fun i hi=>?_,fun i j hi hj=>?_,?_⟩
 ·rw [h.nf] at hi
  rw [h.fr i hi,h.ns]
  exact ⟨by omega,by omega,h.used _⟩
 ·rw [h.nf] at hj
  rw [h.fr i (by omega),h.fr j hj]
  omega
 ·rw [hu,h.nf,h.ns]
  simp
abbrev Nw (w w':World):Prop:=bX w (fun _=>False) w'
theorem DW {ρ:Env} {ν:Nat→Addr} {w:World}:aI ρ ν [] w:=⟨fun i j a b h=>by simp at h,fun k sb h=>by simp at h,fun k sb h=>by simp at h⟩
def Qv (f:Nat→Int):Env:=⟨f,fun _=>false,fun _=>undef,fun _ _ _ _=>0,fun _ _ _ _=>false,fun _ _ _ _=>undef⟩
def fN:Nat→Nat
 | 0=>1
 | 1=>0
 | i=>i
theorem XJ:(List.range jG.length).map (fun j=>oh.hp'[j]?)=jG.map fun sb=>some (sb.aU fN fun k=>k):=by kernel_rfl
theorem NI (m:Int) (h:0≤m∧m≤1024) (w:World) :
  Calls Tryz.prog 16 #[.int .i64 m,.int .i64 85] w fun e w'=>∃aP p B,e=.returned (.tuple #[.pointer (some aP),.nilIface])∧iK w' aP p B∧tN p 85 m∧(∀b,B b→w.heap.size≤b)∧Nw w w':=by
 have hrun:=VG.run (Qv fun i=>if i=0 then m else 85) (fun _=>⟨0,0,none⟩) w DW ⟨fun g k _ h=>(by cases h),fun g g' k k' _ _ h=>(by cases h)⟩ ⟨h,by show (0:Int)≤85∧(85:Int)≤200;decide⟩
 refine Calls.mono hrun ?_
 rintro e w' ⟨ρ,ν,hA,rfl,gB,hwr,how,q1,q2⟩
 have e0:ρ.iv 0=m:=(hA.iv 0 (by decide)).trans rfl
 have e1:ρ.iv 1=85:=(hA.iv 1 (by decide)).trans rfl
 have hn:∀b,¬iI (Qv fun i=>if i=0 then m else 85) (fun _=>(⟨0,0,none⟩:Addr)) oh.hp b:=fun b ⟨k,sb,hk,_⟩=>by
  have hk:([]:List SB)[k]?=some sb:=hk
  simp at hk
 obtain ⟨p,h1,h2⟩:=q2
 replace h1:af ρ (ρ.iv 1) (ρ.iv 0) 2=p:=h1
 refine ⟨ν 0,p,gH (ρ.pull fN) ν jG,rfl,⟨ρ.pull fN,ν,rfl,gB.sub XJ fun i j _ _ h=>h,h1,q1,fun _ h=>h⟩,?_,fun b hb=>?_,⟨hwr.os,hwr.tape,hwr.output,hwr.size,fun k hk _=>hwr.block k hk (hn k)⟩⟩
 ·obtain ⟨a1,a2,a3,a4,a5,a6,a7,a8,a9,a10,a11⟩:=h2
  exact ⟨a1.trans e1,a2.trans e0,a3.trans e0,a4,a5,a6,a7,a8,a9,a10,fun i hi=>(a11 i (by show (i:Int)<ρ.iv 0;rw [e0];exact hi)).trans (by show ρ.iv 0-i=m-i;rw [e0])⟩
 ·rcases (how.sub XJ).aD Hd hb with h | h
  ·exact h
  ·exact absurd h (hn b)
def oz (a:Ac):Value:=.agg #[.int .i64 a.kind,.int .i64 a.slot,.int .i64 a.gen,.int .i64 a.field,.int .i64 a.old.slot,.int .i64 a.old.gen,.int .i64 a.old.tag,.int .i64 a.old.num,.bool a.old.mark,.int .i64 a.new.slot,.int .i64 a.new.gen,.int .i64 a.new.tag,.int .i64 a.new.num,.bool a.new.mark]
def NJ (w:Wd):Value:=.agg #[.int .i64 w.slot,.int .i64 w.gen,.int .i64 w.tag,.int .i64 w.num,.bool w.mark]
def iA (x:Rp):Value:=.agg #[.int .i64 x.word.slot,.int .i64 x.word.gen,.int .i64 x.word.tag,.int .i64 x.word.num,.bool x.word.mark,.bool x.ok]
def He (a:Ac):Env where
 iv:=fun i=>([a.kind,a.slot,a.gen,a.field,a.old.slot,a.old.gen,a.old.tag,a.old.num,0,a.new.slot,a.new.gen,a.new.tag,a.new.num,0]:List Int).getD i 0
 bv:=fun i=>if i=8 then a.old.mark else a.new.mark
 vv:=fun _=>undef
 ic:=fun _ _ _ _=>0
 bc:=fun _ _ _ _=>false
 vc:=fun _ _ _ _=>undef
def fD:Nat→Nat
 | 0=>14
 | 1=>15
 | i=>i+31
def gD:Nat→Nat
 | 0=>8
 | 1=>9
 | 2=>10
 | k=>k+10
theorem XK:(List.range jG.length).map (fun j=>mP.hp'[gD j]?)=jG.map fun sb=>some (sb.aU fD gD):=by kernel_rfl
theorem XL:∀i j,i<jG.length→j<jG.length→gD i=gD j→i=j:=by
 have:∀i,i<5→∀j,j<5→gD i=gD j→i=j:=by decide
 intro i j hi hj
 exact this i hi j hj
theorem UD {w:World} {aP:Addr} {p p':PS} {B:Nat→Prop} {dV:Nat→Addr} {a:Ac} {x:Rp} (hs:kU w dV) (hp:iK w aP p B) (hz:∀k,k<8→¬B (dV k).block) (hok:p.OK) (hst:p.steps≤1000000) (hx:p.act a=(p',some x)) :
  Calls Tryz.prog 32 #[.pointer (some aP),oz a] w fun e w'=>e=.returned (.tuple #[iA x,.nilIface])∧∃B',iK w' aP p' B'∧(∀b,B' b→w.heap.size≤b∨B b)∧bX w B w':=by
 obtain ⟨dA,fA,rfl,XM,rfl,hpo,hpb⟩:=hp.ex
 obtain ⟨⟨XN,hsh⟩,hgl⟩:=hs
 have hsB:∀x,gH (He a) dV gX x→∃k,k<8∧x=(dV k).block:=by
  rintro x ⟨k,sb,h1,_,rfl⟩
  exact ⟨k,Nat.lt_of_lt_of_le (List.getElem?_eq_some_iff.1 h1).1 (by decide),rfl⟩
 have hsh':aI (He a) dV gX w:=aI.ext (nv:=0) (n:=8) ⟨fun i h=>absurd h (Nat.not_lt_zero _),fun i h=>absurd h (Nat.not_lt_zero _),fun i h=>absurd h (Nat.not_lt_zero _),fun i h=>absurd h (Nat.not_lt_zero _),fun i h=>absurd h (Nat.not_lt_zero _),fun i h=>absurd h (Nat.not_lt_zero _),fun i h=>rfl⟩ (by kernel_rfl) (by decide) hsh
 have Tc:=aI.join (N:=14) hsh' XM (by kernel_rfl) fun x h1 h2=>by
  obtain ⟨k,hk,rfl⟩:=hsB x h1
  exact hz k hk (hpb _ h2)
 have eL:mP.hp=gX ++ jG.map (SB.aU (14+·) (gX.length+·)):=by kernel_rfl
 rw [←eL] at Tc
 have kV:∀x,iI ((He a).cat 14 dA) (uk gX.length dV fA) mP.hp x→B x:=by
  intro x hx
  rw [eL] at hx
  rcases Qu (by kernel_rfl) hx with hb | hb
  ·exact (rX (by kernel_rfl) hb).elim
  ·exact hpb _ (lQ hb)
 obtain ⟨ρ,hρ⟩:∃ρ,ρ=(He a).cat 14 dA:=⟨_,rfl⟩
 obtain ⟨ν,lF⟩:∃ν,ν=uk gX.length dV fA:=⟨_,rfl⟩
 have e8:ν 8=fA 0:=by rw [lF];rfl
 have eP:af ρ (ρ.iv 14) (ρ.iv 15) 16=af dA (dA.iv 0) (dA.iv 1) 2:=by rw [hρ];rfl
 have eA:ay ρ 0=a:=by rw [hρ];rfl
 have hG:iB ν mP.gl:=by
  refine iB.ext (nv:=0) (n:=8) (ρ:=XN) (ρ':=ρ) (ν:=dV) ⟨fun i h=>absurd h (Nat.not_lt_zero _),fun i h=>absurd h (Nat.not_lt_zero _),fun i h=>absurd h (Nat.not_lt_zero _),fun i h=>absurd h (Nat.not_lt_zero _),fun i h=>absurd h (Nat.not_lt_zero _),fun i h=>absurd h (Nat.not_lt_zero _),fun i h=>?_⟩ (by kernel_rfl) hgl
  rw [lF,ve _ _ _ (Nat.lt_of_lt_of_le h (by decide))]
 have hOk:bF ρ 16:=by
  rw [hρ]
  exact hpo
 have hargs:(mP.args.map (·.den ρ ν)).toArray=#[.pointer (some (fA 0)),oz a]:=by
  rw [←e8,←eA]
  rfl
 rw [←hρ,←lF] at Tc kV
 rw [←eP] at hok hst hx
 have hrun:=XA.run ρ ν w Tc hG ⟨hOk,hok,hst⟩
 rw [hargs] at hrun
 refine Calls.mono hrun ?_
 rintro ev w' ⟨ρ',aK,hA,rfl,gB,hwr,how,q1,q2,q3⟩
 have eP':af ρ' (ρ'.iv 14) (ρ'.iv 15) 16=af ρ (ρ.iv 14) (ρ.iv 15) 16:=by
  unfold af
  simp (disch:=decide) only [hA.iv,hA.bv,hA.ic,hA.bc]
 have eA':ay ρ' 0=a:=by
  rw [←eA]
  unfold ay av
  simp (disch:=decide) only [hA.iv,hA.bv]
 replace q2:(af ρ' (ρ'.iv 14) (ρ'.iv 15) 16).act (ay ρ' 0)=(af ρ' (ρ'.iv 14) (ρ'.iv 15) 33,if ρ'.bv 32=true then some (aH ρ' 26) else none):=q2
 rw [eP',eA',hx] at q2
 have hb:ρ'.bv 32=true:=by
  cases h:ρ'.bv 32 with
  | true=>rfl
  | false=>rw [h] at q2;cases q2
 rw [hb,if_pos rfl,Prod.mk.injEq,Option.some.injEq] at q2
 obtain ⟨rfl,rfl⟩:=q2
 refine ⟨?_,gH (ρ'.pull fD) (fun k=>aK (gD k)) jG,⟨ρ'.pull fD,fun k=>aK (gD k),?_,gB.sub XK XL,rfl,q1,fun _ h=>h⟩,fun b h=>((how.sub XK).aD Hd h).imp id (kV b),hwr.os,hwr.tape,hwr.output,hwr.size,fun k hk hn=>hwr.block k hk fun h=>hn (kV k h)⟩
 ·show Ending.returned (.tuple #[_,if ρ'.bv 32=true then _ else _])=_
  rw [hb]
  rfl
 ·show aK 8=fA 0
  rw [hA.bl 8 (by decide),e8]
def dB:List SB:=Jm 0 4 0
theorem wZ:ow dB=true:=by kernel_rfl
def Y9 (E M T N:Int):Env:=Qv fun i=>([E,M,T,N]:List Int).getD i 0
theorem NK (E M T N:Int) (h1:1≤E∧E≤5) (h2:0≤M∧M<T) (h3:1≤T∧T≤6) (h4:1≤N∧N≤64) (w:World) :
  Calls Tryz.prog 34 #[.int .i64 E,.int .i64 M,.int .i64 T,.int .i64 N] w fun e w'=>∃ρ ν,e=.returned (.tuple #[.pointer (some (ν 0)),.nilIface])∧(aI ρ ν dB w'∧aa ρ 0 4=RS.new E M T N∧bH ρ 4∧∀b,gH ρ ν dB b→w.heap.size≤b)∧Nw w w':=by
 have hrun:=S9.run (Y9 E M T N) (fun _=>⟨0,0,none⟩) w DW ⟨fun g k _ h=>(by cases h),fun g g' k k' _ _ h=>(by cases h)⟩ ⟨h1,h2,h3,h4.1,h4.2⟩
 refine Calls.mono hrun ?_
 rintro e w' ⟨ρ,ν,hA,rfl,gB,hwr,how,q1,q2⟩
 have hn:∀b,¬iI (Y9 E M T N) (fun _=>(⟨0,0,none⟩:Addr)) nI.hp b:=fun b ⟨k,sb,hk,_⟩=>by
  have hk:([]:List SB)[k]?=some sb:=hk
  simp at hk
 refine ⟨ρ,ν,rfl,⟨gB,Eq.trans q2 ?_,q1,fun b hb=>(how.aD wZ hb).elim id fun h=>absurd h (hn b)⟩,hwr.os,hwr.tape,hwr.output,hwr.size,fun k hk _=>hwr.block k hk (hn k)⟩
 show RS.new (ρ.iv 0) (ρ.iv 1) (ρ.iv 2) (ρ.iv 3)=_
 rw [hA.iv 0 (by decide),hA.iv 1 (by decide),hA.iv 2 (by decide),hA.iv 3 (by decide)]
 rfl
theorem sQ {ρ:Env} {ν:Nat→Addr} {sb:SB} (h1:sb.aV=[]) (h2:sb.ups=[]) (h3:sb.cap=none):sb.has ρ ν (sb.cs.map (·.den ρ ν)).toArray:=by
 refine ⟨fun u hu=>?_,fun _ _=>by simp,fun e n h=>?_,fun p c hp hh=>?_,fun gi g hg=>?_⟩
 ·rw [h2] at hu;cases hu
 ·rw [h3] at h;cases h
 ·simp [hp]
 ·rw [h1] at hg;simp at hg
end Go.Proofs.YthomdlajobnmnaaGreatDoor
namespace Go.Proofs.YthomdlajobnmnaaGreatDoor
open Go.RowKit Go.Rex
structure kz (w:World) (a:Addr) (r:RS) (B:Nat→Prop):Prop where
 ex:∃ρ ν,ν 0=a∧aI ρ ν dB w∧aa ρ 0 4=r∧bH ρ 4∧∀b,gH ρ ν dB b→B b
section
variable {w w':World} {a:Addr} {r:RS} {B B':Nat→Prop}
theorem kz.frame (h:kz w a r B) (hk:∀b,B b→w'.heap[b]?=w.heap[b]?):kz w' a r B:=by
 obtain ⟨ρ,ν,h1,h2,h3,h4,h5⟩:=h.ex
 exact ⟨ρ,ν,h1,h2.DV wZ fun b hb=>hk b (h5 b hb),h3,h4,h5⟩
theorem kz.mono (h:kz w a r B) (hk:∀b,B b→b<w.heap.size→B' b):kz w a r B':=by
 obtain ⟨ρ,ν,h1,h2,h3,h4,h5⟩:=h.ex
 exact ⟨ρ,ν,h1,h2,h3,h4,fun b hb=>hk b (h5 b hb) (o6 h2 hb)⟩
theorem kz.step (h:kz w a r B):∃b,a=⟨b,0,none⟩∧B b∧w.cell? ⟨b,18,none⟩=some (.int .i64 r.step):=by
 obtain ⟨ρ,ν,rfl,q1,rfl,h4,h5⟩:=h.ex
 obtain ⟨g1,cs,g2,g3⟩:=q1.aD 0 _ rfl rfl rfl
 have g2:=g2.cells rfl
 refine ⟨(ν 0).block,g1,h5 _ ⟨0,_,rfl,rfl,rfl⟩,?_⟩
 have:=g3.ex 18 _ rfl rfl
 unfold World.cell?
 rw [g2]
 exact this
end
def gR:Nat→Nat
 | 0=>0
 | k=>k+3
theorem DX:∀i j,i<dB.length→j<dB.length→gR i=gR j→i=j:=by
 have:∀i,i<4→∀j,j<4→gR i=gR j→i=j:=by decide
 intro i j hi hj
 exact this i hi j hj
def mQ (c:Ca):Value:=.agg #[.int .i64 c.kind,.int .i64 c.slot,.int .i64 c.gen,.int .i64 c.field,.int .i64 c.old.slot,.int .i64 c.old.gen,.int .i64 c.old.tag,.int .i64 c.old.num,.bool c.old.mark,.int .i64 c.new.slot,.int .i64 c.new.gen,.int .i64 c.new.tag,.int .i64 c.new.num,.bool c.new.mark,.int .i64 c.i,.int .i64 c.j,.int .i64 c.code,.int .i64 c.val]
def BX (f:Nat→Int) (g:Nat→Bool):Env:=⟨f,g,fun _=>undef,fun _ _ _ _=>0,fun _ _ _ _=>false,fun _ _ _ _=>undef⟩
def UE (c:Ca):Env:=BX (fun i=>([c.kind,c.slot,c.gen,c.field,c.old.slot,c.old.gen,c.old.tag,c.old.num,0,c.new.slot,c.new.gen,c.new.tag,c.new.num,0,c.i,c.j,c.code,c.val]:List Int).getD i 0) fun i=>if i=8 then c.old.mark else c.new.mark
def Hf (x:Rp):Env:=BX (fun i=>([x.word.slot,x.word.gen,x.word.tag,x.word.num]:List Int).getD i 0) fun i=>if i=4 then x.word.mark else x.ok
theorem Gr {w:World} {b:Nat} {s:Int} (h:w.cell? ⟨b,18,none⟩=some (.int .i64 s)):Calls Tryz.prog 36 #[.pointer (some ⟨b,0,none⟩)] w fun e w'=>e=.returned (.bool (decide (s≠0)))∧w'=w:=by
 go_enter Tryz.func36,Tryz.ntmps36
 go_wp2
 go_ret
 by_cases hs:s=0 <;> simp [hs]
structure qm (r:RS):Prop where
 st:(0≤r.me∧r.me<6)∧1≤r.threads∧r.threads≤6
 few:r.notes.length≤1000000
def XO (w:Wd):Prop:=(-1000000000000≤w.tag∧w.tag≤1000000000000)∧-1000000000000≤w.num∧w.num≤1000000000000
structure mq (r:RS) (x:Rp):Prop where
 ok:qm r
 s13:r.step=13→r.seen.length≤99999∧(0≤r.index∧r.index≤99999)∧(r.ak=4→XO r.clock)
 s15:r.step=15→r.ak=4
 w:XO x.word
 freed:-1000000000000≤r.freed∧r.freed≤1000000000000
 s16:r.step=16→∃d l,r.bI=d :: l∧d∈r.notes
 s0:r.step≠0
 s4:r.step=4→0≤r.index∧r.index≤8
 ZX:r.step=5∨r.step=6∨r.step=7→0≤r.call.i∧r.call.i<9
theorem XP {q:Env} {x:Rp} (H:mq (aa q 0 4) x) (e2:aH q 71=x) (ho:bH q 4):uX q:=by
 have hst:(aa q 0 4).step=q.iv 22:=rfl
 refine ⟨⟨ho,⟨H.ok.st.1.1,H.ok.st.1.2,H.ok.st.2.1,H.ok.st.2.2⟩,⟨⟨?_,fun h=>?_⟩,fun h h4=>(H.s13 h).2.2 h4,fun h=>(H.s13 h).2.1,fun h=>H.s15 h⟩,?_,H.freed,H.s16⟩,H.s0,H.s4,H.ZX⟩
 ·have h1:(aT q 70 (q.iv 59)).length≤1000000:=H.ok.few
  rw [jC] at h1
  omega
 ·have h1:(dE q 68 (q.iv 49)).length≤99999:=(H.s13 h).1
  have h2:(dE q 68 (q.iv 49)).length=(q.iv 49).toNat:=by simp [dE]
  rw [h2] at h1
  omega
 ·have:=H.w
  rw [←e2] at this
  exact this
def JP (i:Nat):Nat:=if i<4 then i else i+85
theorem JQ:(List.range dB.length).map (fun j=>j6.hp'[gR j]?)=dB.map fun sb=>some (sb.aU JP gR):=by kernel_rfl
theorem JR {w:World} {a:Addr} {r:RS} {B:Nat→Prop} {c:Ca} (h:kz w a r B) (hk:qm r) (h0:r.step=0) (hc:c.OK) :
  Calls Tryz.prog 37 #[.pointer (some a),mQ c] w fun ev w'=>ev=.returned .nilIface∧∃B',kz w' a (r.begin c).1 B'∧(∀x,B' x→w.heap.size≤x∨B x)∧bX w B w':=by
 obtain ⟨ρ,ν,rfl,hh0,rfl,ho,hB⟩:=h.ex
 have hA:dn 71 4 ρ (ρ.cat 71 (UE c)) ν ν:=⟨fun _ h=>if_pos h,fun _ h=>if_pos h,fun _ h=>if_pos h,fun _ h=>if_pos h,fun _ h=>if_pos h,fun _ h=>if_pos h,fun _ _=>rfl⟩
 obtain ⟨q,hq⟩:∃q,q=ρ.cat 71 (UE c):=⟨_,rfl⟩
 rw [←hq] at hA
 have hh:aI q ν dB w:=hh0.ext hA (by kernel_rfl) (by decide)
 have e1:aa q 0 4=aa ρ 0 4:=by rw [hq];rfl
 have hoq:bH q 4:=by rw [hq];exact ho
 have e2:iP q 71=c:=by rw [hq];rfl
 have hpre':wR q:=by
  refine ⟨⟨hoq,?_,?_⟩,?_,?_⟩
  ·have:(0≤(aa q 0 4).me∧(aa q 0 4).me<6)∧1≤(aa q 0 4).threads∧(aa q 0 4).threads≤6:=by rw [e1];exact hk.st
   exact ⟨this.1.1,this.1.2,this.2.1,this.2.2⟩
  ·have h1:(aT q 70 (q.iv 59)).length≤1000000:=by
    have:=hk.few
    rw [←e1] at this
    exact this
   rw [jC] at h1
   show q.iv 59≤1000000
   omega
  ·show (aa q 0 4).step=0
   rw [e1]
   exact h0
  ·rw [e2]
   exact hc
 have hrun:=P7.run q ν w hh ⟨fun g k _ h=>(by cases h),fun g g' k k' _ _ h=>(by cases h)⟩ hpre'
 have hargs:(j6.args.map (·.den q ν)).toArray=#[.pointer (some (ν 0)),mQ c]:=by
  rw [hq]
  rfl
 rw [hargs] at hrun
 refine Calls.mono hrun ?_
 rintro ev w' ⟨ρ',aK,hA',rfl,gB,hwr,how,q1,q2⟩
 have e0:aa ρ' 0 4=aa q 0 4:=by
  unfold aa iP ay aH av dE aT fV bN
  simp (disch:=decide) only [hA'.iv,hA'.bv,hA'.ic,hA'.bc]
 have e3:iP ρ' 71=iP q 71:=by
  unfold iP av
  simp (disch:=decide) only [hA'.iv,hA'.bv]
 replace q2:aa ρ' 0 89=((aa ρ' 0 4).begin (iP ρ' 71)).1:=q2
 rw [e0,e1,e3,e2] at q2
 have kV:∀x,iI q ν dB x→B x:=fun x h=>hB x ((p9 hA (by kernel_rfl) (by decide)).1 (lQ h))
 refine ⟨rfl,gH (ρ'.pull JP) (fun k=>aK (gR k)) dB,⟨ρ'.pull JP,fun k=>aK (gR k),?_,gB.sub JQ DX,q2,q1,fun _ h=>h⟩,fun x hx=>((how.sub JQ).aD wZ hx).imp id (kV x),hwr.os,hwr.tape,hwr.output,hwr.size,fun b hb hn=>hwr.block b hb fun h=>hn (kV b h)⟩
 show aK 0=ν 0
 exact hA'.bl 0 (by decide)
def NL (i:Nat):Nat:=if i<4 then i else i+73
theorem LB:(List.range dB.length).map (fun j=>l7.hp'[gR j]?)=dB.map fun sb=>some (sb.aU NL gR):=by kernel_rfl
theorem VI {w:World} {a:Addr} {r:RS} {B:Nat→Prop} {x:Rp} (h:kz w a r B) (hk:mq r x) :
  Calls Tryz.prog 40 #[.pointer (some a),iA x] w fun ev w'=>ev=.returned .nilIface∧∃B',kz w' a (r.bG x).1 B'∧(∀x,B' x→w.heap.size≤x∨B x)∧bX w B w':=by
 obtain ⟨ρ,ν,rfl,hh0,rfl,ho,hB⟩:=h.ex
 have hA:dn 71 4 ρ (ρ.cat 71 (Hf x)) ν ν:=⟨fun _ h=>if_pos h,fun _ h=>if_pos h,fun _ h=>if_pos h,fun _ h=>if_pos h,fun _ h=>if_pos h,fun _ h=>if_pos h,fun _ _=>rfl⟩
 obtain ⟨q,hq⟩:∃q,q=ρ.cat 71 (Hf x):=⟨_,rfl⟩
 rw [←hq] at hA
 have hh:aI q ν dB w:=hh0.ext hA (by kernel_rfl) (by decide)
 have e1:aa q 0 4=aa ρ 0 4:=by rw [hq];rfl
 have hoq:bH q 4:=by rw [hq];exact ho
 have e2:aH q 71=x:=by rw [hq];rfl
 have hpre':uX q:=XP (x:=x) (by rw [e1];exact hk) e2 hoq
 have hrun:=SS.run q ν w hh ⟨fun g k _ h=>(by cases h),fun g g' k k' _ _ h=>(by cases h)⟩ hpre'
 have hargs:(l7.args.map (·.den q ν)).toArray=#[.pointer (some (ν 0)),iA x]:=by
  rw [hq]
  rfl
 rw [hargs] at hrun
 refine Calls.mono hrun ?_
 rintro ev w' ⟨ρ',aK,hA',rfl,gB,hwr,how,q1,q2⟩
 have e0:aa ρ' 0 4=aa q 0 4:=by
  unfold aa iP ay aH av dE aT fV bN
  simp (disch:=decide) only [hA'.iv,hA'.bv,hA'.ic,hA'.bc]
 have e3:aH ρ' 71=aH q 71:=by
  unfold aH av
  simp (disch:=decide) only [hA'.iv,hA'.bv]
 replace q2:aa ρ' 0 77=((aa ρ' 0 4).bG (aH ρ' 71)).1:=q2
 rw [e0,e1,e3,e2] at q2
 have kV:∀x,iI q ν dB x→B x:=fun x h=>hB x ((p9 hA (by kernel_rfl) (by decide)).1 (lQ h))
 refine ⟨rfl,gH (ρ'.pull NL) (fun k=>aK (gR k)) dB,⟨ρ'.pull NL,fun k=>aK (gR k),?_,gB.sub LB DX,q2,q1,fun _ h=>h⟩,fun x hx=>((how.sub LB).aD wZ hx).imp id (kV x),hwr.os,hwr.tape,hwr.output,hwr.size,fun b hb hn=>hwr.block b hb fun h=>hn (kV b h)⟩
 show aK 0=ν 0
 exact hA'.bl 0 (by decide)
def NM (i:Nat):Nat:=if i<4 then i else i+67
theorem LC:(List.range dB.length).map (fun j=>ky.hp'[gR j]?)=dB.map fun sb=>some (sb.aU NM gR):=by kernel_rfl
theorem VJ {w:World} {a:Addr} {r:RS} {B:Nat→Prop}  (h:kz w a r B) (h0:r.step≠0) :
  Calls Tryz.prog 39 #[.pointer (some a)] w fun ev w'=>ev=.returned (.tuple #[oz r.acc,.bool true])∧∃B',kz w' a r B'∧(∀x,B' x→w.heap.size≤x∨B x)∧bX w B w':=by
 obtain ⟨ρ,ν,rfl,hh0,rfl,ho,hB⟩:=h.ex
 have hA:dn 71 4 ρ (ρ.cat 71 (BX (fun _=>0) fun _=>false)) ν ν:=⟨fun _ h=>if_pos h,fun _ h=>if_pos h,fun _ h=>if_pos h,fun _ h=>if_pos h,fun _ h=>if_pos h,fun _ h=>if_pos h,fun _ _=>rfl⟩
 obtain ⟨q,hq⟩:∃q,q=ρ.cat 71 (BX (fun _=>0) fun _=>false):=⟨_,rfl⟩
 rw [←hq] at hA
 have hh:aI q ν dB w:=hh0.ext hA (by kernel_rfl) (by decide)
 have e1:aa q 0 4=aa ρ 0 4:=by rw [hq];rfl
 have hoq:bH q 4:=by rw [hq];exact ho
 have hpre':wX q:=⟨hoq,fun h=>h0 (by rw [←e1];exact h)⟩
 have hrun:=Qs.run q ν w hh ⟨fun g k _ h=>(by cases h),fun g g' k k' _ _ h=>(by cases h)⟩ hpre'
 have hargs:(ky.args.map (·.den q ν)).toArray=#[.pointer (some (ν 0))]:=by
  rw [hq]
  rfl
 rw [hargs] at hrun
 refine Calls.mono hrun ?_
 rintro ev w' ⟨ρ',aK,hA',rfl,gB,hwr,how,q1,⟨q3,q4⟩,q2⟩
 have e0:aa ρ' 0 4=aa q 0 4:=by
  unfold aa iP ay aH av dE aT fV bN
  simp (disch:=decide) only [hA'.iv,hA'.bv,hA'.ic,hA'.bc]
 replace q2:aa ρ' 0 71=aa ρ' 0 4:=q2
 replace q3:ay ρ' 138=(aa ρ' 0 4).acc:=q3
 replace q4:ρ'.bv 152=true:=q4
 rw [e0,e1] at q2
 rw [e0,e1] at q3
 have kV:∀x,iI q ν dB x→B x:=fun x h=>hB x ((p9 hA (by kernel_rfl) (by decide)).1 (lQ h))
 refine ⟨?_,gH (ρ'.pull NM) (fun k=>aK (gR k)) dB,⟨ρ'.pull NM,fun k=>aK (gR k),?_,gB.sub LC DX,q2,q1,fun _ h=>h⟩,fun x hx=>((how.sub LC).aD wZ hx).imp id (kV x),hwr.os,hwr.tape,hwr.output,hwr.size,fun b hb hn=>hwr.block b hb fun h=>hn (kV b h)⟩
 ·rw [←q3]
  show Ending.returned (.tuple #[_,.bool (ρ'.bv 152)])=_
  rw [q4]
  rfl
 ·show aK 0=ν 0
  exact hA'.bl 0 (by decide)
def JS (i:Nat):Nat:=if i<4 then i else i+67
theorem JU:(List.range dB.length).map (fun j=>jF.hp'[gR j]?)=dB.map fun sb=>some (sb.aU JS gR):=by kernel_rfl
theorem Td {w:World} {a:Addr} {r:RS} {B:Nat→Prop}  (h:kz w a r B)  :
  Calls Tryz.prog 38 #[.pointer (some a)] w fun ev w'=>ev=.returned (iA r.bK)∧∃B',kz w' a r B'∧(∀x,B' x→w.heap.size≤x∨B x)∧bX w B w':=by
 obtain ⟨ρ,ν,rfl,hh0,rfl,ho,hB⟩:=h.ex
 have hA:dn 71 4 ρ (ρ.cat 71 (BX (fun _=>0) fun _=>false)) ν ν:=⟨fun _ h=>if_pos h,fun _ h=>if_pos h,fun _ h=>if_pos h,fun _ h=>if_pos h,fun _ h=>if_pos h,fun _ h=>if_pos h,fun _ _=>rfl⟩
 obtain ⟨q,hq⟩:∃q,q=ρ.cat 71 (BX (fun _=>0) fun _=>false):=⟨_,rfl⟩
 rw [←hq] at hA
 have hh:aI q ν dB w:=hh0.ext hA (by kernel_rfl) (by decide)
 have e1:aa q 0 4=aa ρ 0 4:=by rw [hq];rfl
 have hoq:bH q 4:=by rw [hq];exact ho
 have hpre':tJ q:=hoq
 have hrun:=NH.run q ν w hh ⟨fun g k _ h=>(by cases h),fun g g' k k' _ _ h=>(by cases h)⟩ hpre'
 have hargs:(jF.args.map (·.den q ν)).toArray=#[.pointer (some (ν 0))]:=by
  rw [hq]
  rfl
 rw [hargs] at hrun
 refine Calls.mono hrun ?_
 rintro ev w' ⟨ρ',aK,hA',rfl,gB,hwr,how,q1,q3,q2⟩
 have e0:aa ρ' 0 4=aa q 0 4:=by
  unfold aa iP ay aH av dE aT fV bN
  simp (disch:=decide) only [hA'.iv,hA'.bv,hA'.ic,hA'.bc]
 replace q2:aa ρ' 0 71=aa ρ' 0 4:=q2
 replace q3:aH ρ' 138=(aa ρ' 0 4).bK:=q3
 rw [e0,e1] at q2
 rw [e0,e1] at q3
 have kV:∀x,iI q ν dB x→B x:=fun x h=>hB x ((p9 hA (by kernel_rfl) (by decide)).1 (lQ h))
 refine ⟨?_,gH (ρ'.pull JS) (fun k=>aK (gR k)) dB,⟨ρ'.pull JS,fun k=>aK (gR k),?_,gB.sub JU DX,q2,q1,fun _ h=>h⟩,fun x hx=>((how.sub JU).aD wZ hx).imp id (kV x),hwr.os,hwr.tape,hwr.output,hwr.size,fun b hb hn=>hwr.block b hb fun h=>hn (kV b h)⟩
 ·rw [←q3]
  rfl
 ·show aK 0=ν 0
  exact hA'.bl 0 (by decide)
end Go.Proofs.YthomdlajobnmnaaGreatDoor
namespace Go.Proofs.YthomdlajobnmnaaGreatDoor
open Go.RowKit Go.Rex
def JV (b:SB):SB:={b with own:=false,ro:=true}
def JW:List SB:=jG.map JV
def kP:dJ:={f:=41,nv:=13,gl:=dS yV 0,args:=[.one (.ptr {aD:=8}),.agg [.int .i64 (.lit 0),.int .i64 (.lit 0),iv 12]],hp:=gX ++ (Jl 0 2 8).map JV,iD:=18,ret:=.gK [.agg (lH 13),.one (.bool (.lit true))],hp':=List.replicate 13 dK}
theorem Yy {ρ:Env} {ν:Nat→Addr} {hp:List SB} {w:World} (ho:ow hp=true) (hm:(hp.all fun b=>!b.gV)=true) (h:aI ρ ν hp w):aI ρ ν (hp.map JV) w:=by
 have at_:∀(k:Nat) (sb:SB),(hp.map JV)[k]?=some sb→∃b,hp[k]?=some b∧sb=JV b:=fun k sb hk=>by
  rw [List.getElem?_map,Option.map_eq_some_iff] at hk
  obtain ⟨b,hb,rfl⟩:=hk
  exact ⟨b,hb,rfl⟩
 refine ⟨fun i j a b hi hj _ _ ra _=>?_,fun k sb hk _ hr=>?_,fun k sb hk hd _=>?_⟩
 ·obtain ⟨a',_,rfl⟩:=at_ i a hi
  cases ra
 ·obtain ⟨b',_,rfl⟩:=at_ k sb hk
  cases hr
 ·obtain ⟨b,hb,rfl⟩:=at_ k sb hk
  have hd':b.dead ρ=false:=hd
  obtain ⟨g1,cs,g2,g3⟩:=h.aD k b hb hd' (tK ho hb (SB.dI hd')).2
  have hmb:b.gV=false:=by
   have:=List.all_eq_true.1 hm b (List.mem_of_getElem? hb)
   simpa using this
  have hc:=g2.cells hmb
  refine ⟨⟨(Array.getElem?_eq_some_iff.1 hc).1,fun _ _=>⟨cs,b.t,hc⟩⟩,cs,⟨g3.un,g3.size,g3.cap,g3.ex,g3.sg⟩,fun p v hp'=>?_⟩
  rw [g1]
  have e:(⟨(ν k).block,0,none⟩:Addr).add p=⟨(ν k).block,p,none⟩:=by
   unfold Addr.add
   split
   ·rename_i h;subst h;rfl
   ·simp
  rw [e]
  unfold World.cell?
  rw [hc]
  exact hp'
noncomputable def UF:Ex:={sched:=sched,loops:=[],cons:=[],fin:=kP}
def LD:Out :=
 .ob (.aA (.lit 0) (.var 0)) <|
 .fin {lo:=13,az:=13,iv:=[(16,.cell 8 (.var 12) (.lit 0) 3),(15,.cell 8 (.var 12) (.lit 0) 2),(14,.cell 8 (.var 12) (.lit 0) 1),(13,.cell 8 (.var 12) (.lit 0) 0)],bv:=[(17,.cell 8 (.var 12) (.lit 0) 4)]}
def Za:Kn:=[(.aA (.lit 0) (.var 12),true),(.bR (.var 12) (.var 0),true)]
theorem Te:exec tab UF 8000 [] (eG kP.f kP.nv Za kP.gl kP.hp kP.args)=LD:=by kernel_rfl
def VK (ρ:Env):Prop:=0≤ρ.iv 12∧ρ.iv 12<ρ.iv 0
def Tf (ρ:Env):Prop:=av ρ 13=aF (ρ.ic 8 (ρ.iv 12).toNat 0) (ρ.bc 8 (ρ.iv 12).toNat 0)
theorem Tg:aY Tryz.prog kP VK Tf :=
 cZ dD (E:=UF) (cs:=[]) rfl (fun k pre post h=>by cases h) bS rfl Te (by kernel_rfl) (fun ρ h p hp=>by
   replace h:0≤ρ.iv 12∧ρ.iv 12<ρ.iv 0:=h
   simp only [Za,List.mem_cons,List.not_mem_nil,or_false] at hp
   rcases hp with rfl | rfl
   · exact decide_eq_true h.1
   · exact decide_eq_true h.2) fun ρ h=>by
  replace h:0≤ρ.iv 12∧ρ.iv 12<ρ.iv 0:=h
  unfold LD
  refine Sat.ob (decide_eq_true (show 0≤ρ.iv 0 by omega)) (Sat.fin ?_)
  rfl
theorem XQ {w:World} {ρ:Env} {ν:Nat→Addr} (h:aI ρ ν jG w):aI ρ ν JW w:=Yy Hd (by kernel_rfl) h
theorem VL {w:World} {aP:Addr} {p:PS} {B:Nat→Prop} {dV:Nat→Addr} {f:Int} (hs:kU w dV) (hp:iK w aP p B) (h0:0≤f) (h1:f<p.nb) :
  Calls Tryz.prog 41 #[.pointer (some aP),.agg #[.int .i64 0,.int .i64 0,.int .i64 f]] w fun ev w'=>ev=.returned (.tuple #[NJ (p.bd f.toNat),.bool true])∧Nw w w':=by
 obtain ⟨dA,fA,rfl,XM,rfl,hpo,hpb⟩:=hp.ex
 obtain ⟨⟨XN,hsh⟩,hgl⟩:=hs
 obtain ⟨q,hq⟩:∃q:Env,q={dA with iv:=fun i=>if i=12 then f else dA.iv i}:=⟨_,rfl⟩
 obtain ⟨ν,lF⟩:∃ν,ν=uk gX.length dV fA:=⟨_,rfl⟩
 have hro:aI q fA JW w:=aI.ext (nv:=12) (n:=5) ⟨fun i hi=>by rw [hq];exact if_neg (by omega),fun _ _=>by rw [hq],fun _ _=>by rw [hq],fun _ _=>by rw [hq],fun _ _=>by rw [hq],fun _ _=>by rw [hq],fun _ _=>rfl⟩ (by kernel_rfl) (by decide) (XQ XM)
 have hsh':aI q ν gX w:=aI.ext (nv:=0) (n:=8) ⟨fun i h=>absurd h (Nat.not_lt_zero _),fun i h=>absurd h (Nat.not_lt_zero _),fun i h=>absurd h (Nat.not_lt_zero _),fun i h=>absurd h (Nat.not_lt_zero _),fun i h=>absurd h (Nat.not_lt_zero _),fun i h=>absurd h (Nat.not_lt_zero _),fun i h=>by rw [lF,ve _ _ _ (Nat.lt_of_lt_of_le h (by decide))]⟩ (by kernel_rfl) (by decide) hsh
 have e1:(fun k=>ν (gX.length+k))=fA:=by rw [lF];exact funext fun k=>Ab ..
 have hall:=hsh'.app (f:=id) (hq:=JW) (by rw [e1];exact hro) fun i j a b hi hj _ _ hr _=>by
  have ha:a.ro=true:=by
   have:(gX.all fun b=>b.ro)=true:=by kernel_rfl
   exact List.all_eq_true.1 this a (List.mem_of_getElem? hi)
  have hb:b.ro=true:=by
   have:(JW.all fun b=>b.ro)=true:=by kernel_rfl
   exact List.all_eq_true.1 this b (List.mem_of_getElem? hj)
  rw [ha,hb] at hr
  rcases hr with h | h <;> cases h
 have eL:kP.hp=gX ++ JW.map (SB.aU id (gX.length+·)):=by kernel_rfl
 rw [←eL] at hall
 have hG:iB ν kP.gl:=by
  refine iB.ext (nv:=0) (n:=8) (ρ:=XN) (ρ':=q) (ν:=dV) ⟨fun i h=>absurd h (Nat.not_lt_zero _),fun i h=>absurd h (Nat.not_lt_zero _),fun i h=>absurd h (Nat.not_lt_zero _),fun i h=>absurd h (Nat.not_lt_zero _),fun i h=>absurd h (Nat.not_lt_zero _),fun i h=>absurd h (Nat.not_lt_zero _),fun i h=>?_⟩ (by kernel_rfl) hgl
  rw [lF,ve _ _ _ (Nat.lt_of_lt_of_le h (by decide))]
 have e12:q.iv 12=f:=by rw [hq];rfl
 have e0:q.iv 0=dA.iv 0:=by rw [hq];rfl
 have hrun:=Tg.run q ν w hall hG ⟨by show 0≤q.iv 12;rw [e12];exact h0,by show q.iv 12<q.iv 0;rw [e12,e0];exact h1⟩
 have hargs:(kP.args.map (·.den q ν)).toArray=#[.pointer (some (fA 0)),.agg #[.int .i64 0,.int .i64 0,.int .i64 f]]:=by
  rw [←e12,show fA 0=ν 8 by rw [←e1];rfl]
  rfl
 rw [hargs] at hrun
 refine Calls.mono hrun ?_
 rintro ev w' ⟨ρ',aK,hA,rfl,gB,hwr,how,q1⟩
 replace q1:av ρ' 13=aF (ρ'.ic 8 (ρ'.iv 12).toNat 0) (ρ'.bc 8 (ρ'.iv 12).toNat 0):=q1
 refine ⟨?_,hwr.os,hwr.tape,hwr.output,hwr.size,fun k hk _=>hwr.block k hk fun h=>rX (by kernel_rfl) h⟩
 have e2:(af dA (dA.iv 0) (dA.iv 1) 2).bd f.toNat=av ρ' 13:=by
  rw [q1,hA.iv 12 (by decide),hA.ic 8 (by decide),hA.bc 8 (by decide),e12,hq]
  rfl
 rw [e2]
 rfl
theorem Ti (d:Wd) (w:World):Calls Tryz.prog 43 #[NJ d] w fun ev w'=>ev=.returned (.bool (decide (d.slot=0)))∧Nw w w':=by
 unfold NJ
 go_enter Tryz.func43,Tryz.ntmps43
 go_wp2
 go_ret
 exact ⟨by by_cases hs:d.slot=0 <;> simp [hs],(bX.refl w _).alloc _⟩
end Go.Proofs.YthomdlajobnmnaaGreatDoor
namespace Go.Proofs.YthomdlajobnmnaaGreatDoor
open Go.Rex
def nu:dJ:={f:=42,nv:=1,args:=[],hp:=[],iD:=1,ret:=.w (.agg [.int .i64 (.lit 0),.int .i64 (.lit 0),.int .i64 (.lit 0)]),hp':=[]}
end Go.Proofs.YthomdlajobnmnaaGreatDoor
namespace Go.Proofs.YthomdlajobnmnaaGreatDoor
open Go.Rex
structure Mn where
 r:RS
 pc:Int
 old:Wd
 node:Wd
 bad:Bool
 stop:Bool
def DY (w:Wd):Int:=w.slot+2000 * w.gen
def Ca.of (kind:Int):Ca:={Ca.zero with kind:=kind}
def Mn.next (m:Mn):Mn × Ca :=
 let x:=m.r.bK
 if m.pc=0 then ({m with pc:=1},Ca.of 1)
 else if m.pc=1 then ({m with pc:=2},Ca.of 6)
 else if m.pc=2 then ({m with pc:=3,old:=x.word},if x.word.slot=0 then Ca.of 3 else {Ca.of 3 with slot:=x.word.slot,gen:=x.word.gen,field:=1})
 else if m.pc=3 then ({m with pc:=4,bad:=m.bad || (m.old.slot != 0 && x.word.num != DY m.old)},Ca.of 8)
 else if m.pc=4 then
  if x.ok=false then ({m with pc:=0},Ca.of 2)
  else ({m with pc:=5,node:=x.word},{Ca.of 4 with slot:=x.word.slot,gen:=x.word.gen,field:=1,new:=Wd.eQ (DY x.word)})
 else if m.pc=5 then ({m with pc:=6},{Ca.of 5 with old:=m.old,new:=⟨m.node.slot,m.node.gen,m.old.tag+1,0,false⟩})
 else if m.pc=6 then ({m with pc:=7},if x.ok=false then {Ca.of 9 with old:=m.node} else if m.old.slot=0 then Ca.of 3 else {Ca.of 10 with old:=m.old})
 else ({m with pc:=0},Ca.of 2)
def Mn.go:Nat→Mn→Mn × Option Bool
 | 0,m=>(m,none)
 | k+1,m =>
  if m.r.step≠0 then (m,none)
  else if m.stop=true∧m.pc=0 then (m,some true)
  else
   let q:=m.next
   let b:=q.1.r.begin q.2
   if b.2=false then ({q.1 with r:=b.1},some false) else Mn.go k {q.1 with r:=b.1}
def Mn.step (m:Mn) (p:PS):Mn × PS × Bool :=
 match m.go 12 with
 | (m,some b)=>(m,p,b)
 | (m,none) =>
  if m.r.step=0 then (m,p,false) else
  match p.act m.r.acc with
  | (p,none)=>(m,p,false)
  | (p,some x)=>({m with r:=(m.r.bG x).1},p,(m.r.bG x).2)
def Mn.new (ak me threads notes:Int):Mn:=⟨RS.new ak me threads notes,0,Wd.zero,Wd.zero,false,false⟩
end Go.Proofs.YthomdlajobnmnaaGreatDoor
namespace Go.Proofs.YthomdlajobnmnaaGreatDoor
open Go.Rex
structure Th where
 l:Lo
 t:RT
 pc:Int
 old:Wd
 node:Wd
 bad:Bool
 stop:Bool
def Th.call (h:Th) (x:Rp):Th × Ca :=
 if h.pc=0 then ({h with pc:=1},Ca.of 1)
 else if h.pc=1 then ({h with pc:=2},Ca.of 6)
 else if h.pc=2 then ({h with pc:=3,old:=x.word},if x.word.slot=0 then Ca.of 3 else {Ca.of 3 with slot:=x.word.slot,gen:=x.word.gen,field:=1})
 else if h.pc=3 then ({h with pc:=4,bad:=h.bad || (h.old.slot != 0 && x.word.num != DY h.old)},Ca.of 8)
 else if h.pc=4 then
  if x.ok=false then ({h with pc:=0},Ca.of 2)
  else ({h with pc:=5,node:=x.word},{Ca.of 4 with slot:=x.word.slot,gen:=x.word.gen,field:=1,new:=Wd.eQ (DY x.word)})
 else if h.pc=5 then ({h with pc:=6},{Ca.of 5 with old:=h.old,new:=⟨h.node.slot,h.node.gen,h.old.tag+1,0,false⟩})
 else if h.pc=6 then ({h with pc:=7},if x.ok=false then {Ca.of 9 with old:=h.node} else if h.old.slot=0 then Ca.of 3 else {Ca.of 10 with old:=h.old})
 else ({h with pc:=0},Ca.of 2)
def Th.with (h:Th) (q:LR):Th:={h with l:=q.1,t:=q.2}
def Th.Zb (h:Th) (x:Rp):Th:=(h.call x).1.with (RT.begin (h.call x).1.l (h.call x).2)
def Th.go:Nat→Th→Th × Option Bool
 | 0,h=>(h,none)
 | k+1,h =>
  match h.t with
  | .idle x=>if h.stop=true∧h.pc=0 then (h,some true) else Th.go k (h.Zb x)
  | _=>(h,none)
def Th.bG (h:Th) (x:Rp):Th:=h.with (RT.bG h.l h.t x)
def Th.step (h:Th) (p:PS):Th × PS × Bool :=
 match h.go 12 with
 | (h,some b)=>(h,p,b)
 | (h,none) =>
  if h.t.eH=0 then (h,p,false) else
  match p.act (h.t.acc h.l) with
  | (p,none)=>(h,p,false)
  | (p,some x)=>(h.bG x,p,true)
theorem Th.EE (h:Th) (x:Rp):(h.call x).2.OK:=by
 unfold Th.call Ca.OK
 repeat' first
  | (split)
  | (simp [Ca.of,Ca.zero];done)
theorem Th.XR (h:Th) (x:Rp):(h.call x).1.l=h.l∧(h.call x).1.t=h.t∧(h.call x).1.stop=h.stop:=by
 unfold Th.call
 repeat' first
  | (split)
  | (exact ⟨rfl,rfl,rfl⟩)
structure MT (m:Mn) (h:Th):Prop where
 rep:gZ h.l h.t m.r
 pc:m.pc=h.pc
 old:m.old=h.old
 node:m.node=h.node
 bad:m.bad=h.bad
 stop:m.stop=h.stop
theorem MT.next {m:Mn} {h:Th} (H:MT m h) {x:Rp} (hx:m.r.bK=x):m.next.2=(h.call x).2∧m.next.1.r=m.r∧m.next.1.pc=(h.call x).1.pc∧m.next.1.old=(h.call x).1.old∧m.next.1.node=(h.call x).1.node∧m.next.1.bad=(h.call x).1.bad∧m.next.1.stop=(h.call x).1.stop:=by
 obtain ⟨H1,h2,h3,h4,h5,h6⟩:=H
 obtain ⟨r,pc,old,node,bad,stop⟩:=m
 obtain ⟨l,t,pc',old',aa6,bad',aa7⟩:=h
 simp only at h2 h3 h4 h5 h6 hx
 subst h2 h3 h4 h5 h6 hx
 unfold Mn.next Th.call
 simp only
 repeat' first
  | (exact ⟨rfl,rfl,rfl,rfl,rfl,rfl,rfl⟩)
  | (split)
  | (rename_i h;exact absurd h (by assumption))
structure Sm (a b:Lo):Prop where
 ak:b.ak=a.ak
 me:b.me=a.me
 threads:b.threads=a.threads
 most:b.most=a.most
theorem Sm.refl (a:Lo):Sm a a:=⟨rfl,rfl,rfl,rfl⟩
theorem fC {c:Prop} [Decidable c] {l:Lo} {a b:LR} (h1:Sm l a.1) (h2:Sm l b.1):Sm l (if c then a else b).1:=by
 by_cases h:c
 ·rw [if_pos h];exact h1
 ·rw [if_neg h];exact h2
theorem RT.rY (l:Lo) (k:Int):Sm l (RT.leave l k).1:=by
 refine fC ⟨rfl,rfl,rfl,rfl⟩ (fC ?_ (Sm.refl l))
 cases RS.first l.h k.toNat (9-k.toNat) <;> exact ⟨rfl,rfl,rfl,rfl⟩
theorem RT.LF (l:Lo):Sm l (RT.scan l).1:=fC (Sm.refl l) (fC (Sm.refl l) (Sm.refl l))
theorem RT.JX (l:Lo):Sm l (RT.dH l).1:=fC (RT.LF l) (Sm.refl l)
theorem RT.LG (l:Lo) (w:Wd) (b d:Int):Sm l (RT.dH (RT.note l w b d)).1:=by
 obtain ⟨a1,a2,a3,a4⟩:=RT.JX (RT.note l w b d)
 exact ⟨a1,a2,a3,a4⟩
theorem RT.Tj (l:Lo) (c:Ca):Sm l (RT.begin l c).1 :=
 fC (fC (Sm.refl l) (Sm.refl l))<|fC (RT.rY l 0)<|fC (Sm.refl l)<|fC (Sm.refl l)<|fC (Sm.refl l)<|fC (Sm.refl l)<|fC (fC ⟨rfl,rfl,rfl,rfl⟩ (Sm.refl l))<|fC (fC (Sm.refl l) (Sm.refl l))<|fC (Sm.refl l) <|
  fC (fC (RT.LG ..)<|fC (Sm.refl l)<|fC (Sm.refl l) (Sm.refl l)) (RT.LF l)
theorem RT.Fb (l:Lo) (r:List Nt):Sm l (RT.ed l r).1:=by cases r <;> exact Sm.refl l
theorem Sm.ok {a b:Lo} (h:Sm a b) (ho:a.OK):b.OK:=⟨by rw [h.ak];exact ho.ak,by rw [h.me,h.threads];exact ho.me,by rw [h.threads];exact ho.threads,by rw [h.most];exact ho.most⟩
theorem RT.JY {l:Lo} {c:Ca} (h:l.OK):(RT.begin l c).1.OK:=(RT.Tj l c).ok h
theorem RT.vg {t:RT} (h:t.eH=0):∃x,t=.idle x:=by
 cases t with
 | idle x=>exact ⟨x,rfl⟩
 | _=>cases h
theorem Th.Fe {h:Th} (hb:h.t.eH≠0):∀k,h.go k=(h,none)
 | 0=>rfl
 | k+1=>by
  unfold Th.go
  cases ht:h.t with
  | idle x=>rw [ht] at hb;exact absurd rfl hb
  | _=>rfl
theorem Th.VM {h:Th} {x:Rp} (hx:h.t=.idle x) (k:Nat):h.go (k+1)=if h.stop=true∧h.pc=0 then (h,some true) else Th.go k (h.Zb x):=by
 rw [Th.go,hx]
theorem MT.go {k:Nat}:∀{m:Mn} {h:Th},MT m h→h.l.OK→MT (m.go k).1 (h.go k).1∧(m.go k).2=(h.go k).2∧(h.go k).1.l.OK:=by
 induction k with
 | zero=>intro m h H ho;exact ⟨H,rfl,ho⟩
 | succ k ih =>
  intro m h H ho
  have hs:=H.rep.step
  by_cases h0:h.t.eH=0
  ·obtain ⟨x,hx⟩:=RT.vg h0
   rw [Th.VM hx]
   unfold Mn.go
   rw [if_neg (by rw [hs];exact fun c=>c h0),H.stop,H.pc]
   have hrep:gZ h.l (.idle x) m.r:=by
    have:=H.rep
    rw [hx] at this
    exact this
   have hr:m.r.bK=x:=hrep.more
   by_cases hst:h.stop=true∧h.pc=0
   ·rw [if_pos hst,if_pos hst]
    exact ⟨H,rfl,ho⟩
   ·rw [if_neg hst,if_neg hst]
    obtain ⟨n1,n2,n3,n4,n5,n6,n7⟩:=H.next hr
    have hb:=hrep.begin ho (c:=(h.call x).2) (h.EE x)
    simp only
    rw [n1,n2,if_neg (by rw [hb.2];decide)]
    have hl:=h.XR x
    refine ih ⟨?_,n3,n4,n5,n6,n7⟩ ?_
    ·show gZ (RT.begin (h.call x).1.l (h.call x).2).1 (RT.begin (h.call x).1.l (h.call x).2).2 _
     rw [hl.1]
     exact hb.1
    ·show (RT.begin (h.call x).1.l (h.call x).2).1.OK
     rw [hl.1]
     exact RT.JY ho
  ·rw [Th.Fe h0]
   unfold Mn.go
   rw [if_pos (by rw [hs];exact h0)]
   exact ⟨H,rfl,ho⟩
theorem MT.step {m:Mn} {h:Th} {p:PS} (H:MT m h) (ho:h.l.OK) (hf:(h.go 12).1.t.fits (h.go 12).1.l) :
  MT (m.step p).1 (h.step p).1∧(m.step p).2.1=(h.step p).2.1∧(m.step p).2.2=(h.step p).2.2:=by
 obtain ⟨g1,g2,g3⟩:=H.go (k:=12) ho
 unfold Mn.step Th.step
 generalize hm:m.go 12=mg at g1 g2
 generalize hh:h.go 12=hg at g1 g2 g3 hf
 obtain ⟨m1,mo⟩:=mg
 obtain ⟨h1,H5⟩:=hg
 simp only at g1 g2 g3 hf
 subst g2
 cases mo with
 | some b=>exact ⟨g1,rfl,rfl⟩
 | none =>
  simp only
  have hs:=g1.rep.step
  by_cases h0:h1.t.eH=0
  ·rw [if_pos h0,if_pos (hs.trans h0)]
   exact ⟨g1,rfl,rfl⟩
  ·rw [if_neg h0,if_neg (by rw [hs];exact h0),g1.rep.acc h0]
   cases ha:p.act (h1.t.acc h1.l) with
   | mk p' xo =>
    cases xo with
    | none=>exact ⟨g1,rfl,rfl⟩
    | some x =>
     have ht:=g1.rep.bG g3 hf h0 x
     exact ⟨⟨ht.1,g1.pc,g1.old,g1.node,g1.bad,g1.stop⟩,rfl,ht.2⟩
end Go.Proofs.YthomdlajobnmnaaGreatDoor
namespace Go.Proofs.YthomdlajobnmnaaGreatDoor
open Go.Rex
section
variable {p:PS}
theorem Tk {s g f:Int} {o w:Wd} (hv:p.has s g f) (hl:p.live s g):p.act ⟨1,s,g,f,o,w⟩=({p with steps:=p.steps+1},some ⟨p.at s f,true⟩):=by
 unfold PS.act
 rw [if_pos (by unfold PS.valid;rw [if_pos (.inl rfl)];exact hv),if_pos (by unfold PS.right;rw [if_neg (show ¬(1:Int)=4 by decide),if_neg (show ¬(1:Int)=5 by decide)];exact hl)]
 rfl
theorem Gs {s g f:Int} {o w:Wd} (hv:p.has s g f) (hl:p.live s g):p.act ⟨2,s,g,f,o,w⟩=(PS.put {p with steps:=p.steps+1} s f w,some ⟨Wd.zero,true⟩):=by
 unfold PS.act
 rw [if_pos (by unfold PS.valid;rw [if_pos (.inr (.inl rfl))];exact hv),if_pos (by unfold PS.right;rw [if_neg (show ¬(2:Int)=4 by decide),if_neg (show ¬(2:Int)=5 by decide)];exact hl)]
 rfl
end
end Go.Proofs.YthomdlajobnmnaaGreatDoor
namespace Go.Proofs.YthomdlajobnmnaaGreatDoor
open Go.Rex
structure Op where
 kind:Int
 key:Int
 val:Int
 JZ:Int
 deriving DecidableEq
structure Jb where
 at':Int
 last:Ca
 op:Op
 node:Wd
 top:Wd
 val:Int
def Jb.new (o:Op):Jb:=⟨0,Ca.zero,o,Wd.zero,Wd.zero,0⟩
def Jb.ask (j:Jb) (s:Int) (c:Ca):Jb × Ca:=({j with at':=s},c)
def Jb.fin (j:Jb) (code val:Int):Jb × Ca:=({j with at':=-1,last:={Ca.of 12 with code:=code,val:=val}},{Ca.of 12 with code:=code,val:=val})
def XT (w:Wd) (f:Int):Ca:={Ca.of 3 with slot:=w.slot,gen:=w.gen,field:=f}
def Zc (w:Wd) (f:Int) (x:Wd):Ca:={Ca.of 4 with slot:=w.slot,gen:=w.gen,field:=f,new:=x}
def Zd (o:Wd) (r:Wd):Ca:={Ca.of 5 with old:=o,new:=⟨r.slot,r.gen,o.tag+1,0,false⟩}
def Jb.push (j:Jb) (x:Rp):Jb × Ca :=
 if j.at'=0 then j.ask 1 (Ca.of 8)
 else if j.at'=1 then (if x.ok=false then j.fin 4 0 else {j with node:=x.word}.ask 2 (Zc x.word 1 (Wd.eQ j.op.val)))
 else if j.at'=5 then (if x.ok=true then j.fin 1 0 else j.ask 3 (Ca.of 3))
 else if j.at'=2 then j.ask 3 (Ca.of 3)
 else if j.at'=3 then {j with top:=x.word}.ask 4 (Zc j.node 2 x.word.gI)
 else if j.at'=4 then j.ask 5 (Zd j.top j.node)
 else (j,j.last)
def Jb.pop (j:Jb) (x:Rp):Jb × Ca :=
 if j.at'=3 then (if x.ok=true then j.ask 4 (XT j.top 1) else j.ask 1 (Ca.of 6))
 else if j.at'=0 then j.ask 1 (Ca.of 6)
 else if j.at'=1 then
  (if x.word.slot=0 then {j with top:=x.word}.fin 2 0
   else if j.op.kind=3 then {j with top:=x.word}.ask 4 (XT x.word 1)
   else {j with top:=x.word}.ask 2 (XT x.word 2))
 else if j.at'=2 then j.ask 3 (Zd j.top x.word)
 else if j.at'=4 then (if j.op.kind=3 then {j with val:=x.word.num}.fin 1 x.word.num else {j with val:=x.word.num}.ask 5 {Ca.of 10 with old:=j.top})
 else if j.at'=5 then j.fin 1 j.val
 else (j,j.last)
def Jb.next (j:Jb) (x:Rp):Jb × Ca:=if j.op.kind=1 then j.push x else j.pop x
def Op.gL (o:Op):Prop:=if o.kind=1 then o.key=0∧o.JZ=0∧0≤o.val∧o.val≤1073741824 else (o.kind=2∨o.kind=3)∧o.key=0∧o.val=0∧o.JZ=0
instance (o:Op):Decidable o.gL:=by unfold Op.gL;exact inferInstance
structure Wk where
 r:RS
 ops:List Op
 j:Option Jb
 fK:Bool
 said:List (Int × Int)
def Wk.go:Nat→Wk→Wk × Option Bool
 | 0,w=>(w,none)
 | k+1,w =>
  if w.r.step≠0 then (w,none)
  else match w.j with
  | none =>
   if w.fK=true then
    if (w.r.begin (Ca.of 2)).2=false then ({w with fK:=false,r:=(w.r.begin (Ca.of 2)).1},some false) else Wk.go k {w with fK:=false,r:=(w.r.begin (Ca.of 2)).1}
   else if w.said.length≥w.ops.length then (w,some false)
   else if ¬(w.ops.getD w.said.length ⟨0,0,0,0⟩).gL then Wk.go k {w with said:=w.said ++ [(0,0)]}
   else if (w.r.begin (Ca.of 1)).2=false then ({w with j:=some (Jb.new (w.ops.getD w.said.length ⟨0,0,0,0⟩)),fK:=true,r:=(w.r.begin (Ca.of 1)).1},some false)
   else Wk.go k {w with j:=some (Jb.new (w.ops.getD w.said.length ⟨0,0,0,0⟩)),fK:=true,r:=(w.r.begin (Ca.of 1)).1}
  | some j =>
   if (j.next w.r.bK).2.kind=12 then Wk.go k {w with said:=w.said ++ [((j.next w.r.bK).2.code,(j.next w.r.bK).2.val)],j:=none}
   else if (w.r.begin (j.next w.r.bK).2).2=false then ({w with j:=some (j.next w.r.bK).1,r:=(w.r.begin (j.next w.r.bK).2).1},some false)
   else Wk.go k {w with j:=some (j.next w.r.bK).1,r:=(w.r.begin (j.next w.r.bK).2).1}
def Wk.step (w:Wk) (p:PS):Wk × PS × Bool :=
 match w.go 200 with
 | (w,some b)=>(w,p,b)
 | (w,none) =>
  if w.r.step=0 then (w,p,false) else
  match p.act w.r.acc with
  | (p,none)=>(w,p,false)
  | (p,some x)=>({w with r:=(w.r.bG x).1},p,(w.r.bG x).2)
def Wk.idle (w:Wk):Prop:=w.r.step=0∧w.j=none∧w.fK=false∧w.said.length≥w.ops.length
instance (w:Wk):Decidable (w.j=none):=by
 cases h:w.j with
 | none=>exact isTrue rfl
 | some _=>exact isFalse (fun h=>by cases h)
instance (w:Wk):Decidable w.idle:=by unfold Wk.idle;exact inferInstance
def Wk.new (ak me threads notes:Int) (ops:List Op):Wk:=⟨RS.new ak me threads notes,ops,none,false,[]⟩
def gF:List Op:=[⟨2,0,0,0⟩,⟨3,0,0,0⟩,⟨2,0,0,0⟩]
structure kC (p:PS):Prop where
 ok:p.OK
 nb:p.nb=85
 gL:p.gL=true
 made:p.made=0
 root:p.bd 0=Wd.zero
 UG:p.bd 24=Wd.eQ 1
theorem um (h:Nat→Wd):∀(k n m:Nat),RS.first h n k=some m→n≤m∧m<n+k
 | 0,n,m,e=>by cases e
 | k+1,n,m,e=>by
  unfold RS.first at e
  by_cases hz:h n≠Wd.zero
  ·rw [if_pos hz] at e
   cases e
   omega
  ·rw [if_neg hz] at e
   have:=um h k (n+1) m e
   omega
def mT (l:Lo):RT→Nat
 | .fin _=>1
 | .jE i=>(10-i).toNat
 | .rU=>2
 | .gW _=>if RT.bQ l 0 1 then 2 else 5
 | .jh _ _=>if RT.bQ l 0 1 then 1 else 4
 | .iQ _ _=>3
 | _=>0
def UH (l:Lo) (t:RT):Prop:=(∃x,t=.idle x)∨(∃s,t=.fin (RT.iY l s))∨∃i:Nat,i<9∧t=.jE i
def UI (l:Lo) (t:RT):Prop:=(∃x,t=.idle x)∨t=.rU∨∃s,t=.fin (RT.iY l s)
def UJ (l:Lo) (t:RT):Prop:=(∃b,t=.idle ⟨Wd.zero,b⟩)∨t=.gW (Ca.of 6)∨(l.bL∧t=.jh (Ca.of 6) Wd.zero)∨(RT.bQ l 0 1∧∃f w,(25≤f∧f<85)∧t=.iQ (Ca.of 6) (Ac.store 0 0 f w))
theorem BZ (l:Lo) (n:Nat) (hn:n≤9):UH (RT.leave l n).1 (RT.leave l n).2∧mT (RT.leave l n).1 (RT.leave l n).2≤10-n∧Sm l (RT.leave l n).1∧((RT.leave l n).1.notes=l.notes∧(RT.leave l n).1.freed=l.freed):=by
 refine ⟨?_,?_,RT.rY l n,by
   unfold RT.leave
   split
   · exact ⟨rfl,rfl⟩
   split
   · cases RS.first l.h (n:Int).toNat (9-(n:Int).toNat) <;> exact ⟨rfl,rfl⟩
   · exact ⟨rfl,rfl⟩⟩
 all_goals
  unfold RT.leave
  by_cases h1:l.bV∧l.s≠Sp.zero
  ·rw [if_pos h1]
   first
    | exact .inr (.inl ⟨Sp.zero,rfl⟩)
    | (show 1≤10-n;omega)
  rw [if_neg h1]
  by_cases h2:l.bJ
  ·rw [if_pos h2]
   rw [show ((n:Int).toNat)=n by omega]
   cases hf:RS.first l.h n (9-n) with
   | none =>
    first
     | exact .inl ⟨_,rfl⟩
     | exact Nat.zero_le _
   | some m =>
    have:=um l.h (9-n) n m hf
    first
     | exact .inr (.inr ⟨m,by omega,rfl⟩)
     | (show ((10:Int)-(m:Int)).toNat≤10-n;omega)
  ·rw [if_neg h2]
   first
    | exact .inl ⟨_,rfl⟩
    | exact Nat.zero_le _
end Go.Proofs.YthomdlajobnmnaaGreatDoor
namespace Go.Proofs.YthomdlajobnmnaaGreatDoor
open Go.Rex
section
variable {l:Lo} {t:RT} {p:PS}
theorem kC.XU (H:kC p) {f:Int} (h:25≤f∧f<85) (w:Wd):∃p',p.act (Ac.store 0 0 f w)=(p',some ⟨Wd.zero,true⟩)∧kC p':=by
 have ha:=Gs (p:=p) (s:=0) (g:=0) (f:=f) (o:=Wd.zero) (w:=w) (by unfold PS.has;rw [if_pos rfl];exact ⟨rfl,by omega,by rw [H.nb];exact h.2⟩) (.inl rfl)
 refine ⟨_,ha,⟨?_,H.nb,H.gL,H.made,?_,?_⟩⟩
 ·have:=H.ok.act (Ac.store 0 0 f w)
  unfold Ac.store at this
  rw [ha] at this
  exact this
 ·show (if 0=f.toNat then w else p.bd 0)=_
  rw [if_neg (by omega),H.root]
 ·show (if 24=f.toNat then w else p.bd 24)=_
  rw [if_neg (by omega),H.UG]
theorem kC.ld (H:kC p) {f:Int} (h:0≤f∧f<85):∃p',p.act (Ac.load 0 0 f)=(p',some ⟨p.bd f.toNat,true⟩)∧kC p':=by
 have ha:=Tk (p:=p) (s:=0) (g:=0) (f:=f) (o:=Wd.zero) (w:=Wd.zero) (by unfold PS.has;rw [if_pos rfl];exact ⟨rfl,by omega,by rw [H.nb];exact h.2⟩) (.inl rfl)
 refine ⟨_,ha,⟨?_,H.nb,H.gL,H.made,H.root,H.UG⟩⟩
 have:=H.ok.act (Ac.load 0 0 f)
 unfold Ac.load at this
 rw [ha] at this
 exact this
structure LH (P:Lo→RT→Prop) (l:Lo) (t:RT) (p:PS):Prop where
 ex:∃p' x,p.act (t.acc l)=(p',some x)∧kC p'∧(x.word=Wd.zero∨x.word=Wd.eQ 1)∧P (RT.bG l t x).1 (RT.bG l t x).2∧mT (RT.bG l t x).1 (RT.bG l t x).2<mT l t∧Sm l (RT.bG l t x).1∧((RT.bG l t x).1.notes=l.notes∧(RT.bG l t x).1.freed=l.freed)
theorem J2 (H:kC p) (ho:l.OK) {P:Lo→RT→Prop} (hP:P l (.idle Rp.yes)) (s:Sp):LH P l (.fin (RT.iY l s)) p:=by
 obtain ⟨p',h1,h2⟩:=H.XU (f:=79+l.me) (by have:=ho.me;have:=ho.threads;omega) (RS.wF s)
 exact ⟨p',_,h1,h2,.inl rfl,hP,Nat.lt_succ_self 0,Sm.refl l,rfl,rfl⟩
theorem Qw (H:kC p) (ho:l.OK) (hs:UH l t) (h0:t.eH≠0):LH UH l t p:=by
 rcases hs with ⟨x,rfl⟩ | ⟨s,rfl⟩ | ⟨i,hi,rfl⟩
 ·exact absurd rfl h0
 ·exact J2 H ho (.inl ⟨_,rfl⟩) s
 ·obtain ⟨p',h1,h2⟩:=H.XU (f:=25+l.me * 9+i) (by have:=ho.me;have:=ho.threads;omega) Wd.zero
  obtain ⟨a,b,c,d⟩:=BZ l (i+1) (by omega)
  replace c:Sm l (RT.bG l (.jE i) ⟨Wd.zero,true⟩).1:=c
  exact ⟨p',_,h1,h2,.inl rfl,a,Nat.lt_of_le_of_lt b (by show 10-(i+1)<((10:Int)-(i:Int)).toNat;omega),c,d⟩
theorem Qx (H:kC p) (ho:l.OK) (hs:UI l t) (h0:t.eH≠0):LH UI l t p:=by
 rcases hs with ⟨x,rfl⟩ | rfl | ⟨s,rfl⟩
 ·exact absurd rfl h0
 ·obtain ⟨p',h1,h2⟩:=H.ld (f:=24) ⟨by decide,by decide⟩
  exact ⟨p',_,h1,h2,.inr H.UG,.inr (.inr ⟨_,rfl⟩),by show 1<2;decide,⟨rfl,rfl,rfl,rfl⟩,rfl,rfl⟩
 ·exact J2 H ho (.inl ⟨_,rfl⟩) s
theorem Qy (H:kC p) (ho:l.OK) (hs:UJ l t) (h0:t.eH≠0):LH UJ l t p:=by
 have hme:=ho.me
 have hth:=ho.threads
 rcases hs with ⟨x,rfl⟩ | rfl | ⟨hd,rfl⟩ | ⟨hc,f,w,hf,rfl⟩
 ·exact absurd rfl h0
 ·obtain ⟨p',h1,h2⟩:=H.ld (f:=0) ⟨by decide,by decide⟩
  rw [show p.bd (0:Int).toNat=Wd.zero from H.root] at h1
  by_cases hd:l.bL
  ·have e:RT.bG l (.gW (Ca.of 6)) ⟨Wd.zero,true⟩=(l,.jh (Ca.of 6) Wd.zero):=by
    show (if l.bL then _ else _)=_
    rw [if_pos hd]
   refine ⟨p',_,h1,h2,.inl rfl,?_⟩
   rw [e]
   refine ⟨.inr (.inr (.inl ⟨hd,rfl⟩)),?_,Sm.refl l,rfl,rfl⟩
   show (if RT.bQ l 0 1 then 1 else 4)<(if RT.bQ l 0 1 then 2 else 5)
   by_cases hc:RT.bQ l 0 1
   ·rw [if_pos hc,if_pos hc];decide
   ·rw [if_neg hc,if_neg hc];decide
  ·have e:RT.bG l (.gW (Ca.of 6)) ⟨Wd.zero,true⟩=(l,.idle ⟨Wd.zero,true⟩):=by
    show (if l.bL then _ else if _ then _ else _)=_
    rw [if_neg hd,if_neg (fun h=>h.2.1 rfl)]
   refine ⟨p',_,h1,h2,.inl rfl,?_⟩
   rw [e]
   refine ⟨.inl ⟨_,rfl⟩,?_,Sm.refl l,rfl,rfl⟩
   show 0<(if RT.bQ l 0 1 then 2 else 5)
   split <;> decide
 ·obtain ⟨p',h1,h2⟩:=H.ld (f:=24) ⟨by decide,by decide⟩
  rw [show p.bd (24:Int).toNat=Wd.eQ 1 from H.UG] at h1
  by_cases hc:RT.bQ l 0 1
  ·have e:RT.bG l (.jh (Ca.of 6) Wd.zero) ⟨Wd.eQ 1,true⟩=(l,.idle ⟨Wd.zero,true⟩):=by
    show (if RT.bQ l 0 1 then _ else _)=_
    rw [if_pos hc]
   refine ⟨p',_,h1,h2,.inr rfl,?_⟩
   rw [e]
   refine ⟨.inl ⟨_,rfl⟩,?_,Sm.refl l,rfl,rfl⟩
   show 0<(if RT.bQ l 0 1 then 1 else 4)
   split <;> decide
  ·by_cases h3:l.ak=3
   ·have e:RT.bG l (.jh (Ca.of 6) Wd.zero) ⟨Wd.eQ 1,true⟩=(l.hold 0 (Wd.eQ 1),.iQ (Ca.of 6) (Ac.store 0 0 (25+l.me * 9+0) (Wd.eQ 1))):=by
     show (if RT.bQ l 0 1 then _ else if _ then _ else _)=_
     rw [if_neg hc,if_pos h3]
     rfl
    refine ⟨p',_,h1,h2,.inr rfl,?_⟩
    rw [e]
    refine ⟨.inr (.inr (.inr ⟨?_,25+l.me * 9+0,_,by omega,rfl⟩)),?_,⟨rfl,rfl,rfl,rfl⟩,rfl,rfl⟩
    ·unfold RT.bQ
     rw [if_pos (show (l.hold 0 (Wd.eQ 1)).ak=3 from h3)]
     exact ⟨by show Wd.eQ 1≠Wd.zero;decide,rfl⟩
    ·show 3<(if RT.bQ l 0 1 then 1 else 4)
     rw [if_neg hc];decide
   ·obtain ⟨s,hs,e⟩:∃s:Sp,(s.is=true∧s.high=1)∧RT.bG l (.jh (Ca.of 6) Wd.zero) ⟨Wd.eQ 1,true⟩=({l with s:=s},.iQ (Ca.of 6) (RT.iY l s)):=by
     refine ⟨⟨true,if l.s.is=true then l.s.low else 1,1⟩,⟨rfl,rfl⟩,?_⟩
     show (if RT.bQ l 0 1 then _ else if _ then _ else _)=_
     rw [if_neg hc,if_neg h3]
     rfl
    refine ⟨p',_,h1,h2,.inr rfl,?_⟩
    rw [e]
    refine ⟨.inr (.inr (.inr ⟨?_,79+l.me,_,by omega,rfl⟩)),?_,⟨rfl,rfl,rfl,rfl⟩,rfl,rfl⟩
    ·unfold RT.bQ
     rw [if_neg (show ¬l.ak=3 from h3)]
     exact hs
    ·show 3<(if RT.bQ l 0 1 then 1 else 4)
     rw [if_neg hc];decide
 ·obtain ⟨p',h1,h2⟩:=H.XU hf w
  refine ⟨p',_,h1,h2,.inl rfl,.inr (.inl rfl),?_,Sm.refl l,rfl,rfl⟩
  show (if RT.bQ l 0 1 then 2 else 5)<3
  rw [if_pos hc]
  decide
end
end Go.Proofs.YthomdlajobnmnaaGreatDoor
namespace Go.Proofs.YthomdlajobnmnaaGreatDoor
open Go.RowKit Go.Rex
theorem Nw.trans {a b c:World} (h1:Nw a b) (h2:Nw b c):Nw a c :=
 ⟨h2.os.trans h1.os,h2.tape.trans h1.tape,h2.output.trans h1.output,Nat.le_trans h1.size h2.size,fun k hk _=>(h2.block k (Nat.lt_of_lt_of_le hk h1.size) id).trans (h1.block k hk id)⟩
theorem Qz {a b c:World} {F:Nat→Prop} (h1:Nw a b) (h2:bX b F c) (hF:∀x,F x→a.heap.size≤x):Nw a c :=
 ⟨h2.os.trans h1.os,h2.tape.trans h1.tape,h2.output.trans h1.output,Nat.le_trans h1.size h2.size,fun k hk _=>(h2.block k (Nat.lt_of_lt_of_le hk h1.size) fun h=>absurd (hF k h) (Nat.not_le.2 hk)).trans (h1.block k hk id)⟩
theorem Nw.gY {w w':World} (h:Nw w w') {a:Addr} {x:Value} (hc:w.cell? a=some x):w'.cell? a=some x:=by
 rw [←hc]
 unfold World.cell?
 rw [h.block _ (World.block_lt_of_cell? _ _ hc) id]
theorem iK.cells {w:World} {a:Addr} {p:PS} {B:Nat→Prop} (h:iK w a p B) (hg:p.gL=true):∃b,a=⟨b,0,none⟩∧w.cell? ⟨b,4,none⟩=some (.int .i64 p.made)∧w.cell? ⟨b,5,none⟩=some .nilIface:=by
 obtain ⟨ρ,ν,rfl,h1,rfl,h3,h4⟩:=h.ex
 obtain ⟨g1,cs,g2,g3⟩:=h1.aD 0 _ rfl rfl rfl
 have g2:=g2.cells rfl
 refine ⟨(ν 0).block,g1,?_,?_⟩
 ·have:=g3.ex 4 _ rfl rfl
  unfold World.cell?
  rw [g2]
  exact this
 ·have:=g3.ex 5 _ rfl rfl
  unfold World.cell?
  rw [g2]
  refine this.trans (congrArg some ?_)
  show (if ρ.bv 7=true then Value.nilIface else _)=_
  exact if_pos hg
theorem NN {w:World} {b:Nat} (h:w.cell? ⟨b,5,none⟩=some .nilIface):Calls Tryz.prog 11 #[.pointer (some ⟨b,0,none⟩)] w fun e w'=>e=.returned .nilIface∧w'=w:=by
 go_enter Tryz.func11,Tryz.ntmps11
 go_wp2
 go_ret
 exact ⟨rfl,rfl⟩
theorem QA {w:World} {b:Nat} {n:Int} (h:w.cell? ⟨b,4,none⟩=some (.int .i64 n)):Calls Tryz.prog 13 #[.pointer (some ⟨b,0,none⟩)] w fun e w'=>e=.returned (.int .i64 n)∧w'=w:=by
 go_enter Tryz.func13,Tryz.ntmps13
 go_wp2
 go_ret
 exact ⟨rfl,rfl⟩
noncomputable def QB:Ex:={sched:=sched,loops:=[],fin:=nu}
def Tm:Out :=
 .fin {lo:=1,az:=0}
theorem QC:exec tab QB 8000 [] (eG nu.f nu.nv [] nu.gl nu.hp nu.args)=Tm:=by kernel_rfl
theorem QD:aY Tryz.prog nu kT kT :=
 cZ dD (E:=QB) (cs:=[]) rfl (fun k pre post h=>by cases h) bS rfl QC (by kernel_rfl) (fun ρ _ p hp=>by cases hp) fun ρ h=>Sat.fin trivial
theorem NP (w:World):Calls Tryz.prog 42 #[] w fun e w'=>e=.returned (.agg #[.int .i64 0,.int .i64 0,.int .i64 0])∧Nw w w':=by
 refine Calls.mono (QD.run (Qv fun _=>0) (fun _=>⟨0,0,none⟩) w DW ⟨fun g k _ h=>(by cases h),fun g g' k k' _ _ h=>(by cases h)⟩ trivial) ?_
 rintro ev w' ⟨ρ',aK,hA,rfl,gB,hwr,how,q1⟩
 exact ⟨rfl,hwr.os,hwr.tape,hwr.output,hwr.size,fun k hk _=>hwr.block k hk fun h=>rX (by kernel_rfl) h⟩
theorem NQ {w:World} {aP:Addr} {p:PS} {B:Nat→Prop} {dV:Nat→Addr} (hs:kU w dV) (hz:∀k,k<8→(dV k).block<w.heap.size) (hp:iK w aP p B) (hB:kC p) :
  Calls Tryz.prog 14 #[.pointer (some aP)] w fun e w'=>e=.returned (.tuple #[.slice none 0 0,.slice none 0 0,.nilIface])∧Nw w w':=by
 obtain ⟨b,rfl,-⟩:=hp.cells hB.gL
 have hr:=NP
 have hn:∀w,Calls Tryz.prog 43 #[.agg #[.int .i64 0,.int .i64 0,.int .i64 0,.int .i64 0,.bool false]] w fun e w'=>e=.returned (.bool true)∧Nw w w':=Ti Wd.zero
 have hpk:∀w',Nw w w'→Calls Tryz.prog 41 #[.pointer (some ⟨b,0,none⟩),.agg #[.int .i64 0,.int .i64 0,.int .i64 0]] w' fun ev w''=>ev=.returned (.tuple #[.agg #[.int .i64 0,.int .i64 0,.int .i64 0,.int .i64 0,.bool false],.bool true])∧Nw w' w'':=fun w' h=>by
  have:=VL (hs.frame h.size fun k hk=>h.block _ (hz k hk) id) ((hp.mono (B':=fun b=>b<w.heap.size) fun _ _ h=>h).frame fun x hx=>h.block x hx id) (f:=0) (by decide) (by rw [hB.nb];decide)
  rw [show p.bd (0:Int).toNat=Wd.zero from hB.root] at this
  exact this
 clear hs hz hp
 go_enter Tryz.func14,Tryz.ntmps14
 go_wp2_with (first
   | (go_at_call 42;(with_reducible refine (hr _).mono ?_);rintro ev w5 ⟨rfl,oF⟩)
   | (go_at_call 41;(with_reducible refine (hpk _ oF).mono ?_);rintro ev w6 ⟨rfl,hw6⟩;have A1:Aside (Nw w w6):=Nw.trans oF hw6))
 go_loopg [5,6] 0 (fun k i r wr=>(i=.slice none 0 0∧r=.slice none 0 0)∧(wr.cell? ⟨w6.heap.size,0,none⟩=some (.int .i64 0)∧wr.cell? ⟨w6.heap.size,1,none⟩=some (.int .i64 0)∧wr.cell? ⟨w6.heap.size,2,none⟩=some (.int .i64 0)∧wr.cell? ⟨w6.heap.size,3,none⟩=some (.int .i64 0)∧wr.cell? ⟨w6.heap.size,4,none⟩=some (.bool false))∧Aside (Nw w wr))
 case atStart=>exact ⟨⟨rfl,rfl⟩,⟨by simp,by simp,by simp,by simp,by simp⟩,Nw.trans A1.out ((bX.refl _ _).alloc _)⟩
 case round =>
  obtain ⟨⟨rfl,rfl⟩,⟨c0,c1,c2,c3,c4⟩,hw⟩:=hrel
  go_wp2_with (first
    | (go_at_call 43;(with_reducible refine (hn _).mono ?_);rintro ev w7 ⟨rfl,hw7⟩;have A2:Aside (Nw w w7):=Nw.trans hw.out hw7))
  first
   | (go_ret3;exact ⟨rfl,A2.out⟩)
   | (go_ret;exact ⟨rfl,A2.out⟩)
end Go.Proofs.YthomdlajobnmnaaGreatDoor
namespace Go.Proofs.YthomdlajobnmnaaGreatDoor
open Go.Rex
def LJ (v:Nat):List SC:=[iv v,iv (v+1),iv (v+2),iv (v+3)]
def UK (v:Nat):SB:={t:=130,cs:=[iv v] ++ zS (v+1) ++ LJ (v+19) ++ lH (v+23) ++ lH (v+28) ++ [iv (v+33)],own:=true}
def kD:dJ:={f:=30,nv:=40,args:=[.one (.ptr {aD:=0}),.agg (uQ 34)],hp:=[UK 0],iD:=92,ret:=.w (.agg (zS 74)),hp':=[UK 40]}
def dz:dJ:={f:=29,nv:=4,args:=[.agg (LJ 0)],hp:=[],iD:=38,ret:=.gK [.one (.ptr {aD:=0}),.one .dh],hp':=[UK 4]}
end Go.Proofs.YthomdlajobnmnaaGreatDoor
