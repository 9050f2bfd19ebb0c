/- part 17 of the proof -/
import Derived.Test.YthomdlajobnmnaaGreatDoorL10
import Derived.Test.YthomdlajobnmnaaGreatDoorL11
import Derived.Test.YthomdlajobnmnaaGreatDoorL12
import Derived.Test.YthomdlajobnmnaaGreatDoorL14
import Derived.Test.YthomdlajobnmnaaGreatDoorL16
import Derived.Test.YthomdlajobnmnaaGreatDoorL9
set_option linter.unusedSimpArgs false
set_option linter.unusedVariables false
namespace Go.Proofs.YthomdlajobnmnaaGreatDoor
open Go.Rex
def Ra:SC→Bool
 | .int _ (.lit 0)=>true
 | .bool (.lit false)=>true
 | .bH=>true
 | .hole=>true
 | _=>false
theorem YZ {ρ:Env} {c:SC} (h:Ra c=true):c.I ρ=0∧c.B ρ=false:=by
 unfold Ra at h
 split at h
 ·exact ⟨rfl,rfl⟩
 ·exact ⟨rfl,rfl⟩
 ·exact ⟨rfl,rfl⟩
 ·exact ⟨rfl,rfl⟩
 ·cases h
theorem Hu {ρ:Env}:∀{cs:List SC},cs.all Ra=true→∀p,Ra (cs.getD p .hole)=true
 | [],_,p=>rfl
 | c :: r,h,p=>by
  simp only [List.all_cons,Bool.and_eq_true] at h
  cases p with
  | zero=>exact h.1
  | succ p=>exact Hu (ρ:=ρ) h.2 p
theorem vN {ρ:Env} {cs:List SC} {lo p:Nat} (h:(cs.drop lo).all Ra=true) (hp:lo≤p):(cs.getD p .hole).I ρ=0∧(cs.getD p .hole).B ρ=false:=by
 have:=Hu (ρ:=ρ) h (p-lo)
 rw [show (cs.drop lo).getD (p-lo) .hole=cs.getD p .hole by simp [List.getD_eq_getElem?_getD,List.getElem?_drop,show lo+(p-lo)=p by omega]] at this
 exact YZ this
def knN:Kn:=[(.bS (.var 0) (.lit 1),false),(.bS (.lit 5) (.var 0),false),(.bS (.var 2) (.lit 1),false),(.bS (.lit 6) (.var 2),false),(.bS (.var 1) (.lit 0),false),(.aA (.var 2) (.var 1),false),(.bS (.var 3) (.lit 1),false),(.bS (.lit 64) (.var 3),false)]
noncomputable def VP:Ex:={sched:=sched,loops:=[],fin:=nY}
def F8:Out :=
 .fin {lo:=4,az:=0,iv:=[(65,.lit 0),(64,.lit 0),(63,.lit 0),(62,.lit 0),(61,.lit 0),(60,.lit 0),(59,.lit 0),(57,.lit 0),(56,.lit 0),(53,.lit 0),(52,.lit 0),(50,.lit 0),(49,.lit 0),(47,.lit 0),(45,.lit 0),(44,.lit 0),(43,.lit 0),(42,.lit 0),(40,.lit 0),(39,.lit 0),(38,.lit 0),(37,.lit 0),(35,.lit 0),(34,.lit 0),(33,.lit 0),(32,.lit 0),(30,.lit 0),(29,.lit 0),(28,.lit 0),(27,.lit 0),(26,.lit 0),(25,.lit 0),(24,.lit 0),(23,.lit 0),(22,.lit 0),(21,.lit 0),(20,.lit 0),(19,.lit 0),(18,.lit 0),(16,.lit 0),(15,.lit 0),(14,.lit 0),(13,.lit 0),(11,.lit 0),(10,.lit 0),(9,.lit 0),(8,.lit 0),(7,.lit 0),(6,.lit 0),(5,.lit 0),(4,.lit 0)],bv:=[(67,.lit false),(66,.lit false),(58,.lit true),(55,.lit false),(51,.lit true),(48,.lit true),(46,.lit false),(41,.lit false),(36,.lit false),(31,.lit false),(17,.lit false),(12,.lit false)],ct:=[(54,.ex [.int .i64 (.lit 0),.int .i64 (.lit 0),.int .i64 (.lit 0),.int .i64 (.lit 0),.int .i64 (.lit 0),.int .i64 (.lit 0),.int .i64 (.lit 0),.int .i64 (.lit 0),.bool (.lit false),.int .i64 (.lit 0),.int .i64 (.lit 0),.int .i64 (.lit 0),.int .i64 (.lit 0),.bool (.lit false),.int .i64 (.lit 0),.int .i64 (.lit 0),.int .i64 (.lit 0),.int .i64 (.lit 0),.int .i64 (.lit 0),.int .i64 (.lit 0),.int .i64 (.lit 0),.int .i64 (.lit 0),.int .i64 (.lit 0),.int .i64 (.lit 0),.int .i64 (.lit 0),.int .i64 (.lit 0),.int .i64 (.lit 0),.bool (.lit false),.int .i64 (.lit 0),.int .i64 (.lit 0),.int .i64 (.lit 0),.int .i64 (.lit 0),.bool (.lit false),.int .i64 (.lit 0),.int .i64 (.lit 0),.int .i64 (.lit 0),.int .i64 (.lit 0),.bool (.lit false),.int .i64 (.lit 0),.int .i64 (.lit 0),.int .i64 (.lit 0),.int .i64 (.lit 0),.bool (.lit false),.int .i64 (.lit 0),.bH,.bH,.int .i64 (.var 0),.int .i64 (.var 1),.int .i64 (.var 2),.int .i64 (.var 3),.int .i64 (.lit 0),.int .i64 (.lit 0),.int .i64 (.lit 0),.int .i64 (.lit 0),.bool (.lit false),.int .i64 (.lit 0),.int .i64 (.lit 0),.int .i64 (.lit 0),.int .i64 (.lit 0),.bool (.lit false),.int .i64 (.lit 0),.int .i64 (.lit 0),.int .i64 (.lit 0),.int .i64 (.lit 0),.bool (.lit false),.int .i64 (.lit 0),.int .i64 (.lit 0),.int .i64 (.lit 0),.int .i64 (.lit 0),.bool (.lit false),.int .i64 (.lit 0),.int .i64 (.lit 0),.int .i64 (.lit 0),.int .i64 (.lit 0),.bool (.lit false),.int .i64 (.lit 0),.int .i64 (.lit 0),.int .i64 (.lit 0),.int .i64 (.lit 0),.bool (.lit false),.int .i64 (.lit 0),.int .i64 (.lit 0),.int .i64 (.lit 0),.int .i64 (.lit 0),.bool (.lit false),.int .i64 (.lit 0),.int .i64 (.lit 0),.int .i64 (.lit 0),.int .i64 (.lit 0),.bool (.lit false),.int .i64 (.lit 0),.int .i64 (.lit 0),.int .i64 (.lit 0),.int .i64 (.lit 0),.bool (.lit false),.bool (.lit false),.int .i64 (.lit 0),.int .i64 (.lit 0),.bH,.int .i64 (.lit 0),.int .i64 (.lit 0),.int .i64 (.lit 0),.int .i64 (.lit 0),.int .i64 (.lit 0),.bool (.lit false),.bool (.lit false)] 5 0 50)],bk:=[(0,yb 0)],nb:=[3,2,1,3,2,1]}
theorem Um:exec tab VP 8000 [] (dZ nY.f nY.nv knN nY.gl nY.hp nY.args)=F8:=by kernel_rfl
def MN (ρ:Env):Prop:=(1≤ρ.iv 0∧ρ.iv 0≤5)∧(0≤ρ.iv 1∧ρ.iv 1<ρ.iv 2)∧(1≤ρ.iv 2∧ρ.iv 2≤6)∧1≤ρ.iv 3∧ρ.iv 3≤64
def KD (ρ:Env):Prop:=bK ρ 4∧aa ρ 0 4=RS.new (ρ.iv 0) (ρ.iv 1) (ρ.iv 2) (ρ.iv 3)
theorem Un (ρ:Env) (hpre:MN ρ.num):Sat KD [] [] ρ F8:=by
 unfold F8
 have o1:=True.intro
 refine Sat.fin ⟨⟨aj rfl rfl,⟨aj rfl rfl,Int.le_refl 0,.inl rfl⟩,aj rfl rfl⟩,RS.ext' rfl rfl rfl rfl rfl rfl (Hd rfl) (nZ rfl) rfl rfl rfl rfl (fun i=>?_) rfl (He rfl) rfl rfl⟩
 refine oU.2 ⟨?_,?_,?_,?_,?_⟩
 ·show ((_:List SC).getD (i * 5+0 * 0+50+0) .hole).I ρ=0
  exact (vN (lo:=50) (by rfl) (by omega)).1
 ·show ((_:List SC).getD (i * 5+0 * 0+50+1) .hole).I ρ=0
  exact (vN (lo:=50) (by rfl) (by omega)).1
 ·show ((_:List SC).getD (i * 5+0 * 0+50+2) .hole).I ρ=0
  exact (vN (lo:=50) (by rfl) (by omega)).1
 ·show ((_:List SC).getD (i * 5+0 * 0+50+3) .hole).I ρ=0
  exact (vN (lo:=50) (by rfl) (by omega)).1
 ·show ((_:List SC).getD (i * 5+0 * 0+50+4) .hole).B ρ=false
  exact (vN (lo:=50) (by rfl) (by omega)).2
theorem Uo:aV Tryz.prog nY MN KD :=
 cK dF (E:=VP) (cs:=[]) rfl (fun k pre post h=>by cases h) bO rfl Um (by kernel_rfl) (fun ρ h p hp=>by
   obtain ⟨⟨a1,a2⟩,⟨b1,b2⟩,⟨c1,c2⟩,d1,d2⟩:=h
   simp only [knN,List.mem_cons,List.not_mem_nil,or_false] at hp
   rcases hp with rfl | rfl | rfl | rfl | rfl | rfl | rfl | rfl
   · exact decide_eq_false (show ¬ρ.num.iv 0<1 by omega)
   · exact decide_eq_false (show ¬5<ρ.num.iv 0 by omega)
   · exact decide_eq_false (show ¬ρ.num.iv 2<1 by omega)
   · exact decide_eq_false (show ¬6<ρ.num.iv 2 by omega)
   · exact decide_eq_false (show ¬ρ.num.iv 1<0 by omega)
   · exact decide_eq_false (show ¬ρ.num.iv 2≤ρ.num.iv 1 by omega)
   · exact decide_eq_false (show ¬ρ.num.iv 3<1 by omega)
   · exact decide_eq_false (show ¬64<ρ.num.iv 3 by omega)) Un
def ll:dJ:={mZ 39 0 [] (.gY [.agg (FM 138),.one (.bool (.var 152))]) with iC:=153}
def jR:dJ:={mZ 38 0 [] (.w (.agg (vF 138))) with iC:=144}
def knX:Kn:=[(.aB (.var 22) (.lit 0),false)]
noncomputable def Rb:Ex:={sched:=sched,loops:=[],fin:=ll}
def CS:Out :=
 .fin {lo:=71,az:=4,iv:=yo [(137,yv 70)]<|yr 132 65 7<|yo [(124,yv 57),(123,yv 56),(120,yv 53),(119,yv 52),(136,yv 69),(117,yv 50),(116,yv 49),(114,yv 47)]<|yr 112 45 4<|yr 107 40 4<|yr 102 35 4<|yr 97 30 13<|yr 83 16 4<|yr 78 11 8<|yr 150 35 4<|yr 145 30 8 [],bv:=[(134,yw 67),(133,yw 66),(125,yw 58),(122,yw 55),(118,yw 51),(115,yw 48),(113,yw 46),(108,yw 41),(103,yw 36),(98,yw 31),(84,yw 17),(79,yw 12),(152,.lit true),(151,yw 36),(146,yw 31)],ct:=[(137,yu 70 59 7 yN 0),(136,yu 69 70 7 yN 0),(135,yu 68 49 5 yW 0),(121,yl 54 9 5 50 yW 0)],bk:=[(6,yc 3 7),(5,yc 2 7),(4,yc 1 5)]}
theorem Rc:exec tab Rb 8000 [] (dZ ll.f ll.nv knX ll.gl ll.hp ll.args)=CS:=by kernel_rfl
def xJ (ρ:Env):Prop:=bK ρ 4∧¬ρ.iv 22=0
def Hw (ρ:Env):Prop:=bK ρ 71∧(ay ρ 138=(aa ρ 0 4).acc∧ρ.bv 152=true)∧aa ρ 0 71=aa ρ 0 4
theorem Re (ρ:Env) (hpre:xJ ρ.num):Sat Hw [] [] ρ CS:=by
 replace hpre:xJ ρ:=hpre
 obtain ⟨⟨o1,o2,o3⟩,hf⟩:=hpre
 unfold CS
 exact Sat.fin ⟨⟨(by first | exact o1 | exact o2 | exact o3 | exact aj rfl rfl | assumption),(by first | exact o2 | exact ⟨aj rfl rfl,Int.le_refl 0,.inl rfl⟩ | assumption),(by first | exact o1 | exact o2 | exact o3 | exact aj rfl rfl | assumption)⟩,⟨rfl,rfl⟩,Eq.trans (b:=(aa ρ 0 4)) (RS.ext' rfl rfl rfl rfl rfl rfl bA bF rfl rfl rfl rfl bE rfl bB rfl rfl) (Eq.symm (rfl))⟩
theorem Rf:aV Tryz.prog ll xJ Hw :=
 cK dF (E:=Rb) (cs:=[]) rfl (fun k pre post h=>by cases h) bO rfl Rc (by kernel_rfl) (fun ρ h p hp=>by
   obtain ⟨-,h⟩:=h
   simp only [knX,List.mem_cons,List.not_mem_nil,or_false] at hp
   subst hp
   exact beq_eq_false_iff_ne.2 h) Re
noncomputable def MO:Ex:={sched:=sched,loops:=[],fin:=jR}
def zP:Out :=
 .fin {lo:=71,az:=4,iv:=yo [(137,yv 70)]<|yr 132 65 7<|yo [(124,yv 57),(123,yv 56),(120,yv 53),(119,yv 52),(136,yv 69),(117,yv 50),(116,yv 49),(114,yv 47)]<|yr 112 45 4<|yr 107 40 4<|yr 102 35 4<|yr 97 30 13<|yr 83 16 4<|yr 78 11 8<|yr 141 65 4 [],bv:=[(134,yw 67),(133,yw 66),(125,yw 58),(122,yw 55),(118,yw 51),(115,yw 48),(113,yw 46),(108,yw 41),(103,yw 36),(98,yw 31),(84,yw 17),(79,yw 12),(143,yw 67),(142,yw 66)],ct:=[(137,yu 70 59 7 yN 0),(136,yu 69 70 7 yN 0),(135,yu 68 49 5 yW 0),(121,yl 54 9 5 50 yW 0)],bk:=[(6,yc 3 7),(5,yc 2 7),(4,yc 1 5)]}
theorem OP:exec tab MO 8000 [] (dZ jR.f jR.nv [] jR.gl jR.hp jR.args)=zP:=by kernel_rfl
def uq (ρ:Env):Prop:=bK ρ 4
def EG (ρ:Env):Prop:=bK ρ 71∧aG ρ 138=(aa ρ 0 4).bV∧aa ρ 0 71=aa ρ 0 4
theorem OQ (ρ:Env) (hpre:uq ρ.num):Sat EG [] [] ρ zP:=by
 replace hpre:uq ρ:=hpre
 obtain ⟨o1,o2,o3⟩:=hpre
 unfold zP
 exact Sat.fin ⟨⟨(by first | exact o1 | exact o2 | exact o3 | exact aj rfl rfl | assumption),(by first | exact o2 | exact ⟨aj rfl rfl,Int.le_refl 0,.inl rfl⟩ | assumption),(by first | exact o1 | exact o2 | exact o3 | exact aj rfl rfl | assumption)⟩,rfl,Eq.trans (b:=(aa ρ 0 4)) (RS.ext' rfl rfl rfl rfl rfl rfl bA bF rfl rfl rfl rfl bE rfl bB rfl rfl) (Eq.symm (rfl))⟩
theorem OT:aV Tryz.prog jR uq EG :=
 cK dF (E:=MO) (cs:=[]) rfl (fun k pre post h=>by cases h) bO rfl OP (by kernel_rfl) (fun ρ _ p hp=>by cases hp) OQ
def VQ:Kn:=[(.bS (.var 0) (.lit 0),false),(.bS (.lit 1024) (.var 0),false),(.bS (.var 1) (.lit 0),false),(.bS (.lit 200) (.var 1),false)]
noncomputable def Y0:Ex:={sched:=sched,loops:=[L13],fin:=oP}
def KE:Out :=
 .alt
 (.ob (.aA (.lit 0) (.var 1)) <|
  .ob (.aA (.mul (.var 1) (.lit 40)) (.lit 281474976710656)) <|
  .ob (.aA (.var 1) (.lit 9223372036854775807)) <|
  .ob (.aA (.lit 0) (.var 0)) <|
  .ob (.aA (.mul (.var 0) (.lit 416)) (.lit 281474976710656)) <|
  .ob (.aA (.var 0) (.lit 9223372036854775807)) <|
  .loop 2 {lo:=2,az:=3,iv:=[(11,.lit 0),(10,.lit 0),(8,.lit 0),(7,.lit 0),(2,yv 0)],bv:=[(12,.lit true),(6,.lit true)],ct:=[(5,.up {r:=0,n1:=.var 0,s1:=52,n2:=10,s2:=5,lo:=2,ks:=yW,z:=true} 1 [] (.lit 0)),(4,.up {r:=0,n1:=.var 0,s1:=52,ks:=yB,z:=true} 0 [] (.lit 0)),(3,.up {r:=0,n1:=.var 1,s1:=5,ks:=yW,z:=true} 0 [] (.lit 0))],nb:=[4,3,4,3]} <|
  .br (.aA (.lit 1) (.var 2))
  (.ob (.aA (.mul (.add (.var 7) (.lit 1)) (.lit 8)) (.lit 140737488355328)) <|
   .ob (.aA (.lit 0) (.var 7)) <|
   .ob (.aA (.var 7) (.var 8)) <|
   .ob (.aA (.var 8) (.lit 9223372036854775807)) <|
   .ob (.or (.not (.var 6)) (.aB (.var 7) (.lit 0))) <|
   .new 13 [.be (.and (.aA (.add (.var 7) (.lit 1)) (.var 13)) (.aA (.var 13) (.lit 9223372036854775807)))] <|
   .ob (.inr .i64 (.sub (.var 2) (.lit 1))) <|
   .back 0 {lo:=2,az:=3,iv:=[(11,yv 11),(10,yv 10),(8,yv 13),(7,.add (.var 7) (.lit 1)),(2,.sub (.var 2) (.lit 1))],bv:=[(12,yw 12),(6,.lit false)],ct:=[(9,.up {r:=9,n1:=.add (.var 7) (.lit 1),s1:=1,ks:=yI} 0 [⟨0,(.var 7),(.lit 0),0,.int .i64 (.var 2)⟩] (.lit 0)),(5,.up {r:=5,n1:=.var 0,s1:=52,n2:=10,s2:=5,lo:=2,ks:=yW} 1 [] (.lit 0)),(4,yu 4 0 52 yB 0),(3,yu 3 1 5 yW 0)],bk:=[(4,yb 4),(3,yc 6 1)]})
  (.fin {lo:=2,az:=0,iv:=[(6,yv 11),(5,yv 10),(4,yv 8),(3,yv 7)],bv:=[(7,yw 12),(2,yw 6)],ct:=[(11,yu 9 7 1 yI 0),(10,.up {r:=5,n1:=.var 0,s1:=52,n2:=10,s2:=5,lo:=2,ks:=yW} 1 [] (.lit 0)),(9,yu 4 0 52 yB 0),(8,yu 3 1 5 yW 0)],bk:=[(4,yb 4),(3,yc 3 1),(2,yc 1 52),(1,yc 0 5),(0,yb 2)]}))
 (.ob (.aA (.lit 0) (.var 0)) <|
  .ob (.aA (.mul (.var 0) (.lit 416)) (.lit 281474976710656)) <|
  .ob (.aA (.var 0) (.lit 9223372036854775807)) <|
  .ob (.aA (.lit 0) (.var 1)) <|
  .ob (.aA (.mul (.var 1) (.lit 40)) (.lit 281474976710656)) <|
  .ob (.aA (.var 1) (.lit 9223372036854775807)) <|
  .loop 2 {lo:=2,az:=3,iv:=[(11,.lit 0),(10,.lit 0),(8,.lit 0),(7,.lit 0),(2,yv 0)],bv:=[(12,.lit true),(6,.lit true)],ct:=[(3,.up {r:=0,n1:=.var 1,s1:=5,ks:=yW,z:=true} 0 [] (.lit 0)),(5,.up {r:=0,n1:=.var 0,s1:=52,n2:=10,s2:=5,lo:=2,ks:=yW,z:=true} 1 [] (.lit 0)),(4,.up {r:=0,n1:=.var 0,s1:=52,ks:=yB,z:=true} 0 [] (.lit 0))],nb:=[4,3,4,3]} <|
  .br (.aA (.lit 1) (.var 2))
  (.ob (.aA (.mul (.add (.var 7) (.lit 1)) (.lit 8)) (.lit 140737488355328)) <|
   .ob (.aA (.lit 0) (.var 7)) <|
   .ob (.aA (.var 7) (.var 8)) <|
   .ob (.aA (.var 8) (.lit 9223372036854775807)) <|
   .ob (.or (.not (.var 6)) (.aB (.var 7) (.lit 0))) <|
   .new 13 [.be (.and (.aA (.add (.var 7) (.lit 1)) (.var 13)) (.aA (.var 13) (.lit 9223372036854775807)))] <|
   .ob (.inr .i64 (.sub (.var 2) (.lit 1))) <|
   .back 0 {lo:=2,az:=3,iv:=[(11,yv 11),(10,yv 10),(8,yv 13),(7,.add (.var 7) (.lit 1)),(2,.sub (.var 2) (.lit 1))],bv:=[(12,yw 12),(6,.lit false)],ct:=[(9,.up {r:=9,n1:=.add (.var 7) (.lit 1),s1:=1,ks:=yI} 0 [⟨0,(.var 7),(.lit 0),0,.int .i64 (.var 2)⟩] (.lit 0)),(3,yu 3 1 5 yW 0),(5,.up {r:=5,n1:=.var 0,s1:=52,n2:=10,s2:=5,lo:=2,ks:=yW} 1 [] (.lit 0)),(4,yu 4 0 52 yB 0)],bk:=[(4,yb 4),(3,yc 6 1)]})
  (.fin {lo:=2,az:=0,iv:=[(6,yv 11),(5,yv 10),(4,yv 8),(3,yv 7)],bv:=[(7,yw 12),(2,yw 6)],ct:=[(11,yu 9 7 1 yI 0),(10,.up {r:=5,n1:=.var 0,s1:=52,n2:=10,s2:=5,lo:=2,ks:=yW} 1 [] (.lit 0)),(9,yu 4 0 52 yB 0),(8,yu 3 1 5 yW 0)],bk:=[(4,yb 4),(3,yc 3 1),(2,yc 0 52),(1,yc 1 5),(0,yb 2)]}))
theorem Xd:exec tab Y0 8000 [] (dZ oP.f oP.nv VQ oP.gl oP.hp oP.args)=KE:=by kernel_rfl
def qD (ρ:Env):Prop:=(0≤ρ.iv 0∧ρ.iv 0≤1024)∧0≤ρ.iv 1∧ρ.iv 1≤200
def AU (ρ:Env):Prop:=bG ρ 2∧∃p:PS,af ρ (ρ.iv 1) (ρ.iv 0) 2=p∧p.nb=ρ.iv 1∧p.ns=ρ.iv 0∧p.nf=ρ.iv 0∧p.steps=0∧p.made=0∧p.dD=true∧(∀i,p.bd i=Wd.zero)∧(∀i,p.gen i=0)∧(∀i,p.used i=false)∧(∀i k,p.cell i k=Wd.zero)∧∀i:Nat,(i:Int)<ρ.iv 0→p.fr i=ρ.iv 0-i
def vO (ρ:Env):Prop:=(0≤ρ.iv 2∧ρ.iv 2≤ρ.iv 0)∧bG ρ 6∧ρ.iv 7=ρ.iv 0-ρ.iv 2∧ρ.iv 10=0∧ρ.iv 11=0∧ρ.bv 12=true∧(∀i,aF (ρ.ic 3 i 0) (ρ.bc 3 i 0)=Wd.zero)∧(∀i,ρ.ic 4 i 0 0=0∧ρ.bc 4 i 0 1=false)∧(∀i k,aF (ρ.ic 5 i k) (ρ.bc 5 i k)=Wd.zero)∧∀i:Nat,(i:Int)<ρ.iv 7→ρ.ic 9 i 0 0=ρ.iv 0-i
theorem Uq {q:Env} (hp:qD q) {σ:Sub} {k:Out} (h0:vO (σ.ag q)) (hk:∀r,qD r→vO r→∀Γ,Γ=(fun ρ':Env=>vO ρ'∧ρ'.iv 2+1≤r.iv 2∧0≤ρ'.iv 2)→Sat AU [] [fun ρ'=>vO ρ'∧(ρ'.iv 2).toNat<(r.num.iv 2).toNat] r k):Sat AU [] [] q (.loop 2 σ k) :=
 Sat.xk vO (fun r=>(r.iv 2).toNat) qD h0 (fun _=>hp) fun r hp hI=>hk r hp hI _ rfl
set_option maxHeartbeats 1000000 in
theorem Xe (q:Env) (hpre:qD q.num):Sat AU [] [] q KE:=by
 replace hpre:qD q:=hpre
 obtain ⟨⟨a1,a2⟩,a3,a4⟩:=id hpre
 unfold KE
 refine Sat.alt ?_ ?_
 all_goals
  refine Sat.ob (by simp only [Da];omega) (Sat.ob (by simp only [Da];omega) (Sat.ob (by simp only [Da];omega) (Sat.ob (by simp only [Da];omega) (Sat.ob (by simp only [Da];omega) (Sat.ob (by simp only [Da];omega) (Uq hpre ?_ fun r hp hI _ _=>?_))))))
  ·refine ⟨⟨a1,Int.le_refl _⟩,⟨fun _=>rfl,Int.le_refl 0,Int.le_refl 0,by show (0:Int)≤_;decide⟩,?_,rfl,rfl,rfl,fun i=>?_,fun i=>?_,fun i k=>?_,fun i hi=>?_⟩
   ·show (0:Int)=q.iv 0-q.iv 0
    omega
   ·simp [aF,Wd.zero,-Int.pred_toNat,Sub.ag,assoc,CV.I,CV.B,ah,ai,ae.I,ae.B,SC.I,SC.B,IE.den,BE.den]
   ·simp [-Int.pred_toNat,Sub.ag,assoc,CV.I,CV.B,ah,ai,ae.I,ae.B,SC.I,SC.B,IE.den,BE.den]
   ·simp [aF,Wd.zero,-Int.pred_toNat,Sub.ag,assoc,CV.I,CV.B,ah,ai,ae.I,ae.B,SC.I,SC.B,IE.den,BE.den]
   ·have:(i:Int)<0:=hi
    omega
  ·obtain ⟨⟨a1,a2⟩,a3,a4⟩:=hp
   obtain ⟨⟨i1,i2⟩,ho,i3,i4,i5,i6,i7,i8,i9,i10⟩:=hI
   refine Sat.br (fun hlt=>?_) (fun hge=>?_)
   ·simp only [Da] at hlt
    refine Sat.ob (by simp only [Da];omega) (Sat.ob (decide_eq_true ho.2.1) (Sat.ob (decide_eq_true ho.2.2.1) (Sat.ob (decide_eq_true ho.2.2.2) (Sat.ob (aK ho) (Sat.zD (fun u=>qD u∧vO u∧1≤u.iv 2∧(u.iv 2-1).toNat<(r.num.iv 2).toNat) (fun _=>⟨⟨⟨a1,a2⟩,a3,a4⟩,⟨⟨i1,i2⟩,ho,i3,i4,i5,i6,i7,i8,i9,i10⟩,hlt,by show (r.iv 2-1).toNat<(r.iv 2).toNat;omega⟩) fun u hu hf=>?_)))))
    obtain ⟨⟨⟨a1,a2⟩,a3,a4⟩,⟨⟨i1,i2⟩,ho,i3,i4,i5,i6,i7,i8,i9,i10⟩,hlt,hm⟩:=hu
    simp only [Da] at hf
    have h7:0≤u.iv 7:=ho.2.1
    refine Sat.ob (by simp only [Da];omega) (Sat.back rfl ⟨⟨⟨by show 0≤u.iv 2-1;omega,by show u.iv 2-1≤u.iv 0;omega⟩,⟨fun h=>(by cases h),by show 0≤u.iv 7+1;omega,hf.1,hf.2⟩,by show u.iv 7+1=u.iv 0-(u.iv 2-1);omega,i4,i5,i6,fun i=>?_,fun i=>?_,fun i k=>?_,fun i hi=>?_⟩,hm⟩)
    ·rw [←i7 i]
     simp [aF,-Int.pred_toNat,Sub.ag,assoc,CV.I,CV.B,ah,ai,ae.I,ae.B,SC.I,SC.B,IE.den,BE.den]
    ·obtain ⟨x,y⟩:=i8 i
     refine ⟨?_,?_⟩
     ·simp [-Int.pred_toNat,Sub.ag,assoc,CV.I,CV.B,ah,ai,ae.I,ae.B,SC.I,SC.B,IE.den,BE.den,x]
     ·simp [-Int.pred_toNat,Sub.ag,assoc,CV.I,CV.B,ah,ai,ae.I,ae.B,SC.I,SC.B,IE.den,BE.den,y]
    ·rw [←i9 i k]
     simp [aF,-Int.pred_toNat,Sub.ag,assoc,CV.I,CV.B,ah,ai,ae.I,ae.B,SC.I,SC.B,IE.den,BE.den]
    ·replace hi:(i:Int)<u.iv 7+1:=hi
     by_cases h:i=(u.iv 7).toNat
     ·subst h
      have:(((u.iv 7).toNat:Nat):Int)=u.iv 7:=by omega
      simp [-Int.pred_toNat,Sub.ag,assoc,CV.I,CV.B,ah,ai,ae.I,ae.B,SC.I,SC.B,IE.den,BE.den]
      omega
     ·have hr:=i10 i (by omega)
      have hr2:u.iv 0-(i:Int)=(u.iv 0-(i:Int)):=rfl
      simp [-Int.pred_toNat,Sub.ag,assoc,CV.I,CV.B,ah,ai,ae.I,ae.B,SC.I,SC.B,IE.den,BE.den,Ne.symm h,hr]
   ·simp only [Da] at hge
    have h2:r.iv 2=0:=by omega
    refine Sat.fin ⟨ho,_,rfl,rfl,rfl,?_,i4,i5,i6,fun i=>?_,fun i=>?_,fun i=>?_,fun i k=>?_,fun i hi=>?_⟩
    ·show r.iv 7=r.iv 0
     omega
    ·rw [←i7 i]
     simp [af,aF,-Int.pred_toNat,Sub.ag,assoc,CV.I,CV.B,ah,ai,ae.I,ae.B,SC.I,SC.B,IE.den,BE.den]
    ·simp [af,-Int.pred_toNat,Sub.ag,assoc,CV.I,CV.B,ah,ai,ae.I,ae.B,SC.I,SC.B,IE.den,BE.den,(i8 i).1]
    ·simp [af,-Int.pred_toNat,Sub.ag,assoc,CV.I,CV.B,ah,ai,ae.I,ae.B,SC.I,SC.B,IE.den,BE.den,(i8 i).2]
    ·rw [←i9 i k]
     simp [af,aF,-Int.pred_toNat,Sub.ag,assoc,CV.I,CV.B,ah,ai,ae.I,ae.B,SC.I,SC.B,IE.den,BE.den]
    ·replace hi:(i:Int)<r.iv 0:=hi
     show _=r.iv 0-(i:Int)
     rw [←i10 i (by omega)]
     simp [af,-Int.pred_toNat,Sub.ag,assoc,CV.I,CV.B,ah,ai,ae.I,ae.B,SC.I,SC.B,IE.den,BE.den]
theorem Xf:aV Tryz.prog oP qD AU :=
 cK dF (E:=Y0) (cs:=[]) rfl (fun k pre post h=>by cases h) bO rfl Xd (by kernel_rfl) (fun ρ h p hp=>by
   obtain ⟨⟨a1,a2⟩,a3,a4⟩:qD ρ.num:=h
   simp only [VQ,List.mem_cons,List.not_mem_nil,or_false] at hp
   rcases hp with rfl | rfl | rfl | rfl <;> simp only [Da] <;> omega) Xe
end Go.Proofs.YthomdlajobnmnaaGreatDoor
namespace Go.Rex
def Env.pull (f:Nat→Nat) (ρ:Env):Env:=⟨fun i=>ρ.iv (f i),fun i=>ρ.bv (f i),fun i=>ρ.vv (f i),fun i=>ρ.ic (f i),fun i=>ρ.bc (f i),fun i=>ρ.vc (f i)⟩
def Env.cat (N:Nat) (ρ e:Env):Env where
 iv:=fun i=>if i<N then ρ.iv i else e.iv (i-N)
 bv:=fun i=>if i<N then ρ.bv i else e.bv (i-N)
 vv:=fun i=>if i<N then ρ.vv i else e.vv (i-N)
 ic:=fun i=>if i<N then ρ.ic i else e.ic (i-N)
 bc:=fun i=>if i<N then ρ.bc i else e.bc (i-N)
 vc:=fun i=>if i<N then ρ.vc i else e.vc (i-N)
def sS (n:Nat) (ν μ:Nat→Addr):Nat→Addr:=fun k=>if k<n then ν k else μ (k-n)
theorem Env.KF (N:Nat) (ρ e:Env):(ρ.cat N e).pull (N+·)=e:=by
 have h:∀i,¬N+i<N:=fun i=>by omega
 have h2:∀i,N+i-N=i:=fun i=>by omega
 cases e
 simp only [Env.pull,Env.cat,if_neg (h _),h2]
theorem vP (n:Nat) (ν μ:Nat→Addr) (k:Nat):sS n ν μ (n+k)=μ k:=by
 unfold sS
 rw [if_neg (by omega),show n+k-n=k by omega]
theorem pV (n:Nat) (ν μ:Nat→Addr) {k:Nat} (h:k<n):sS n ν μ k=ν k:=if_pos h
theorem dC.cat (N n:Nat) (ρ e:Env) (ν μ:Nat→Addr):dC N n ρ (ρ.cat N e) ν (sS n ν μ) :=
 ⟨fun _ h=>if_pos h,fun _ h=>if_pos h,fun _ h=>if_pos h,fun _ h=>if_pos h,fun _ h=>if_pos h,fun _ h=>if_pos h,fun _ h=>if_pos h⟩
section
variable (f g:Nat→Nat)
def IE.aU:IE→IE
 | .lit n=>.lit n
 | .var i=>.var (f i)
 | .add a b=>.add a.aU b.aU
 | .sub a b=>.sub a.aU b.aU
 | .mul a b=>.mul a.aU b.aU
 | .div a b=>.div a.aU b.aU
 | .mod a b=>.mod a.aU b.aU
 | .wrap k a=>.wrap k a.aU
 | .o8 a b=>.o8 a.aU b.aU
 | .imax a b=>.imax a.aU b.aU
 | .cell r a b j=>.cell (f r) a.aU b.aU j
def BE.aU:BE→BE
 | .lit b=>.lit b
 | .var i=>.var (f i)
 | .not a=>.not a.aU
 | .and a b=>.and a.aU b.aU
 | .or a b=>.or a.aU b.aU
 | .ite a b c=>.ite a.aU b.aU c.aU
 | .aB a b=>.aB (a.aU f) (b.aU f)
 | .aA a b=>.aA (a.aU f) (b.aU f)
 | .bS a b=>.bS (a.aU f) (b.aU f)
 | .beq a b=>.beq a.aU b.aU
 | .inr k a=>.inr k (a.aU f)
 | .cell r a b j=>.cell (f r) (a.aU f) (b.aU f) j
def SA.aU (a:SA):SA:={aC:=g a.aC,i1:=a.i1.aU f,s1:=a.s1,i2:=a.i2.aU f,s2:=a.s2,j:=a.j}
def SC.aU:SC→SC
 | .int k e=>.int k (e.aU f)
 | .bool b=>.bool (b.aU f)
 | .str l=>.str l
 | .val i=>.val (f i)
 | .jm r a b j=>.jm (f r) (a.aU f) (b.aU f) j
 | .ptr a=>.ptr (a.aU f g)
 | .bI=>.bI
 | .sl a l c=>.sl (a.aU f g) (l.aU f) (c.aU f)
 | .bH=>.bH
 | .eU k a l c=>.eU (k.aU f) (a.aU f g) (l.aU f) (c.aU f)
 | .fn h jr=>.fn h (jr.map g)
 | .bJ=>.bJ
 | .iface t c=>.iface t c.aU
 | .dH=>.dH
 | .iJ c x=>.iJ (c.aU f) x.aU
 | .mp b=>.mp (g b)
 | .pY=>.pY
 | .rt t b o=>.rt t b o
 | .hole=>.hole
def ae.aU (s:ae):ae:={s with r:=f s.r,n1:=s.n1.aU f}
def Up.aU (u:Up):Up:={g:=u.g,i1:=u.i1.aU f,i2:=u.i2.aU f,j:=u.j,c:=u.c.aU f g}
def SB.aU (b:SB):SB:={b with cs:=b.cs.map (SC.aU f g),aX:=b.aX.map (ae.aU f),ups:=b.ups.map (Up.aU f g),cap:=b.cap.map fun x=>(x.1.aU f,x.2),nl:=b.nl.aU f}
variable {f g} {ρ:Env} {ν:Nat→Addr}
theorem IE.fQ (e:IE):(e.aU f).den ρ=e.den (ρ.pull f):=by
 induction e <;> simp_all [IE.aU,IE.den,Env.pull]
theorem BE.fQ (e:BE):(e.aU f).den ρ=e.den (ρ.pull f):=by
 induction e <;> simp_all [BE.aU,BE.den,IE.fQ]
 all_goals rfl
theorem SA.fQ (a:SA):(a.aU f g).den ρ ν=a.den (ρ.pull f) (fun k=>ν (g k)):=by
 simp only [SA.aU,SA.den,SA.off,IE.fQ]
theorem SC.fQ (c:SC):(c.aU f g).den ρ ν=c.den (ρ.pull f) (fun k=>ν (g k)):=by
 induction c with
 | fn h jr=>simp only [SC.aU,SC.den,List.map_map];rfl
 | val i=>rfl
 | jm r a b j=>simp only [SC.aU,SC.den,IE.fQ];rfl
 | _=>simp_all [SC.aU,SC.den,IE.fQ,BE.fQ,SA.fQ]
theorem SC.KG (c:SC):(c.aU f g).isHole=c.isHole:=by
 induction c <;> simp_all [SC.aU,SC.isHole]
theorem ae.KH (s:ae) (i1 i2 j:Nat):(s.aU f).base ρ i1 i2 j=s.base (ρ.pull f) i1 i2 j:=rfl
theorem xK (gi i1 i2 j:Nat) (b:Value):∀us:List Up,dm ρ ν (us.map (Up.aU f g)) gi i1 i2 j b=dm (ρ.pull f) (fun k=>ν (g k)) us gi i1 i2 j b
 | []=>rfl
 | u :: r=>by
  simp only [List.map_cons,dm,xK gi i1 i2 j b r]
  simp only [Up.aU,IE.fQ,SC.fQ]
theorem SB.jl (b:SB):(b.aU f g).dead ρ=b.dead (ρ.pull f):=by
 simp only [SB.dead,SB.aU,BE.fQ]
theorem SB.AY (b:SB) {arr:Array Value}:(b.aU f g).has ρ ν arr↔b.has (ρ.pull f) (fun k=>ν (g k)) arr:=by
 constructor
 ·intro h
  refine ⟨fun u hu=>?_,fun h1 h2=>?_,fun e n he=>?_,fun p c hp hh=>?_,fun gi s hs i1 i2 j h1 h2 h3=>?_⟩
  ·have:=h.un (u.aU f g) (List.mem_map.2 ⟨u,hu,rfl⟩)
   simpa only [Up.aU,IE.fQ] using this
  ·have:=h.size (by simp [SB.aU,h1]) h2
   simpa [SB.aU] using this
  ·have:=h.cap (e.aU f) n (by simp [SB.aU,he])
   simpa only [IE.fQ] using this
  ·have:=h.ex p (c.aU f g) (by simp [SB.aU,hp]) (by rw [SC.KG];exact hh)
   rwa [SC.fQ] at this
  ·have:=h.sg gi (s.aU f) (by simp [SB.aU,hs]) i1 i2 j (by simpa only [ae.aU,IE.fQ] using h1) h2 h3
   rw [ae.KH] at this
   simpa only [SB.aU,xK,ae.aU] using this
 ·intro h
  refine ⟨fun u hu=>?_,fun h1 h2=>?_,fun e n he=>?_,fun p c hp hh=>?_,fun gi s hs i1 i2 j h1 h2 h3=>?_⟩
  ·simp only [SB.aU,List.mem_map] at hu
   obtain ⟨u',hu',rfl⟩:=hu
   have:=h.un u' hu'
   simpa only [Up.aU,IE.fQ] using this
  ·have:=h.size (by simpa [SB.aU] using h1) h2
   simpa [SB.aU] using this
  ·simp only [SB.aU,Option.map_eq_some_iff] at he
   obtain ⟨⟨e',n'⟩,he,h2⟩:=he
   simp only [Prod.mk.injEq] at h2
   obtain ⟨rfl,rfl⟩:=h2
   have:=h.cap e' n' he
   simpa only [IE.fQ] using this
  ·simp only [SB.aU,List.getElem?_map,Option.map_eq_some_iff] at hp
   obtain ⟨c',hp,rfl⟩:=hp
   rw [SC.KG] at hh
   rw [SC.fQ]
   exact h.ex p c' hp hh
  ·simp only [SB.aU,List.getElem?_map,Option.map_eq_some_iff] at hs
   obtain ⟨s',hs,rfl⟩:=hs
   have:=h.sg gi s' hs i1 i2 j (by simpa only [ae.aU,IE.fQ] using h1) h2 h3
   rw [ae.KH]
   simpa only [SB.aU,xK,ae.aU] using this
theorem SB.KI (b:SB) {w:World} {k:Nat}:wm (b.aU f g) w k↔wm b w k:=by
 unfold wm
 simp [SB.aU]
end
theorem aH.sub {ρ:Env} {ν:Nat→Addr} {w:World} {H hp:List SB} {f g:Nat→Nat} (h:aH ρ ν H w) (hg:(List.range hp.length).map (fun j=>H[g j]?)=hp.map fun sb=>some (sb.aU f g))
  (hi:∀i j,i<hp.length→j<hp.length→g i=g j→i=j):aH (ρ.pull f) (fun k=>ν (g k)) hp w:=by
 have at_:∀(k:Nat) (sb:SB),hp[k]?=some sb→H[g k]?=some (sb.aU f g):=fun k sb hk=>by
  have hlt:=(List.getElem?_eq_some_iff.1 hk).1
  have:=congrArg (fun l=>l[k]?) hg
  simp only [List.getElem?_map,List.getElem?_range hlt,hk,Option.map_some] at this
  exact Option.some.inj this
 refine ⟨fun i j a b h1 h2 d1 d2 ra he=>?_,fun k sb hk hd hr=>?_,fun k sb hk hd hr=>?_⟩
 ·refine hi i j (List.getElem?_eq_some_iff.1 h1).1 (List.getElem?_eq_some_iff.1 h2).1 ?_
  exact h.inj (g i) (g j) _ _ (at_ i a h1) (at_ j b h2) (by rw [SB.jl];exact d1) (by rw [SB.jl];exact d2) ra he
 ·obtain ⟨h1,cs,h2,h3⟩:=h.aC (g k) _ (at_ k sb hk) (by rw [SB.jl];exact hd) hr
  exact ⟨h1,cs,h2,SB.AY sb |>.1 h3⟩
 ·obtain ⟨h1,cs,h2,h3⟩:=h.rd (g k) _ (at_ k sb hk) (by rw [SB.jl];exact hd) hr
  exact ⟨SB.KI sb |>.1 h1,cs,SB.AY sb |>.1 h2,h3⟩
theorem aH.app {ρ:Env} {ν:Nat→Addr} {w:World} {hp hq:List SB} {f:Nat→Nat} (h1:aH ρ ν hp w) (h2:aH (ρ.pull f) (fun k=>ν (hp.length+k)) hq w)
  (hd:∀(i j:Nat) (a b:SB),hp[i]?=some a→hq[j]?=some b→a.dead ρ=false→b.dead (ρ.pull f)=false→a.ro=false∨b.ro=false→(ν i).block≠(ν (hp.length+j)).block):aH ρ ν (hp ++ hq.map (SB.aU f (hp.length+·))) w:=by
 have at_:∀(k:Nat) (sb:SB),(hp ++ hq.map (SB.aU f (hp.length+·)))[k]?=some sb→hp[k]?=some sb∨∃j b,k=hp.length+j∧hq[j]?=some b∧sb=b.aU f (hp.length+·):=fun k sb hk=>by
  rw [List.getElem?_append] at hk
  split at hk
  ·exact .inl hk
  ·rw [List.getElem?_map,Option.map_eq_some_iff] at hk
   obtain ⟨b,hb,rfl⟩:=hk
   exact .inr ⟨k-hp.length,b,by omega,hb,rfl⟩
 refine ⟨fun i j a b hi hj d1 d2 ra he=>?_,fun k sb hk hdd hr=>?_,fun k sb hk hdd hr=>?_⟩
 ·rcases at_ i a hi with qi | ⟨i',a',rfl,qi,rfl⟩
  ·rcases at_ j b hj with qj | ⟨j',b',rfl,qj,rfl⟩
   ·exact h1.inj i j a b qi qj d1 d2 ra he
   ·rw [SB.jl] at d2
    exact absurd he (hd i j' a b' qi qj d1 d2 (.inl ra))
  ·rw [SB.jl] at d1
   rcases at_ j b hj with qj | ⟨j',b',rfl,qj,rfl⟩
   ·exact absurd he.symm (hd j i' b a' qj qi d2 d1 (.inr ra))
   ·rw [SB.jl] at d2
    have:=h2.inj i' j' a' b' qi qj d1 d2 ra he
    omega
 ·rcases at_ k sb hk with qk | ⟨j,b,rfl,qk,rfl⟩
  ·exact h1.aC k sb qk hdd hr
  ·rw [SB.jl] at hdd
   obtain ⟨g1,cs,g2,g3⟩:=h2.aC j b qk hdd hr
   exact ⟨g1,cs,g2,SB.AY b |>.2 g3⟩
 ·rcases at_ k sb hk with qk | ⟨j,b,rfl,qk,rfl⟩
  ·exact h1.rd k sb qk hdd hr
  ·rw [SB.jl] at hdd
   obtain ⟨g1,cs,g2,g3⟩:=h2.rd j b qk hdd hr
   exact ⟨SB.KI b |>.2 g1,cs,SB.AY b |>.2 g2,g3⟩
theorem kg.sub {z:Nat} {W:Nat→Prop} {ρ:Env} {ν:Nat→Addr} {H hp:List SB} {f g:Nat→Nat} (h:kg z W ρ ν H) (hg:(List.range hp.length).map (fun j=>H[g j]?)=hp.map fun sb=>some (sb.aU f g)):kg z W (ρ.pull f) (fun k=>ν (g k)) hp:=by
 intro k sb hk ho hd
 have hlt:=(List.getElem?_eq_some_iff.1 hk).1
 have:=congrArg (fun l=>l[k]?) hg
 simp only [List.getElem?_map,List.getElem?_range hlt,hk,Option.map_some] at this
 have:=h (g k) (sb.aU f g) (Option.some.inj this) ho (by rw [SB.jl];exact hd)
 exact this
theorem Xg {z:Nat} {W:Nat→Prop} {ρ:Env} {ν:Nat→Addr} {hp:List SB} (h:kg z W ρ ν hp) {b:Nat} (hb:iU ρ ν hp b):z≤b∨W b:=by
 obtain ⟨k,sb,h1,h2,h3,rfl⟩:=hb
 exact h k sb h1 h2 h3
def nE (hp:List SB):Bool:=hp.all fun b=>b.gone || (b.own && !b.ro)
theorem uu {hp:List SB} (h:nE hp=true) {k:Nat} {sb:SB} (hk:hp[k]?=some sb) (hg:sb.gone=false):sb.own=true∧sb.ro=false:=by
 have:=List.all_eq_true.1 h sb (List.mem_of_getElem? hk)
 simpa [hg] using this
theorem aH.frame {ρ:Env} {ν:Nat→Addr} {hp:List SB} {w w':World} (ha:nE hp=true) (h:aH ρ ν hp w) (hk:∀b,iU ρ ν hp b→w'.heap[b]?=w.heap[b]?):aH ρ ν hp w':=by
 refine ⟨h.inj,fun k sb h1 hd hr=>?_,fun k sb h1 hd hr=>?_⟩
 ·obtain ⟨g1,cs,g2,g3⟩:=h.aC k sb h1 hd hr
  refine ⟨g1,cs,?_,g3⟩
  rw [hk _ ⟨k,sb,h1,(uu ha h1 (SB.dP hd)).1,hd,rfl⟩]
  exact g2
 ·have:=(uu ha h1 (SB.dP hd)).2
  rw [hr] at this;cases this
def gP (ρ:Env) (ν:Nat→Addr) (hp:List SB) (b:Nat):Prop:=∃(k:Nat) (sb:SB),hp[k]?=some sb∧sb.dead ρ=false∧b=(ν k).block
theorem mo {ρ:Env} {ν:Nat→Addr} {hp:List SB} {b:Nat} (h:iU ρ ν hp b):gP ρ ν hp b:=by
 obtain ⟨k,sb,h1,-,h3,rfl⟩:=h
 exact ⟨k,sb,h1,h3,rfl⟩
theorem Rh {ρ:Env} {ν:Nat→Addr} {hp:List SB} (ha:nE hp=true) {b:Nat} (h:gP ρ ν hp b):iU ρ ν hp b:=by
 obtain ⟨k,sb,h1,h3,rfl⟩:=h
 exact ⟨k,sb,h1,(uu ha h1 (SB.dP h3)).1,h3,rfl⟩
theorem nP {ρ:Env} {ν:Nat→Addr} {hp:List SB} {w:World} (h:aH ρ ν hp w) {b:Nat} (hb:gP ρ ν hp b):b<w.heap.size:=by
 obtain ⟨k,sb,h1,h3,rfl⟩:=hb
 exact h.lt h1 h3
theorem qE {nv n:Nat} {ρ ρ':Env} {ν aI:Nat→Addr} (hA:dC nv n ρ ρ' ν aI) {hp:List SB} (hs:pE nv n hp=true) (hl:hp.length≤n) {b:Nat}:gP ρ' aI hp b↔gP ρ ν hp b:=by
 constructor
 ·rintro ⟨k,sb,h1,h3,rfl⟩
  have:=(List.getElem?_eq_some_iff.1 h1).1
  exact ⟨k,sb,h1,by rwa [SB.mH hA (iP hs k sb h1)] at h3,by rw [hA.bl k (by omega)]⟩
 ·rintro ⟨k,sb,h1,h3,rfl⟩
  have:=(List.getElem?_eq_some_iff.1 h1).1
  exact ⟨k,sb,h1,by rwa [SB.mH hA (iP hs k sb h1)],by rw [hA.bl k (by omega)]⟩
theorem aH.join {a b:List SB} {N:Nat} {ym uw:Env} {Bu zQ:Nat→Addr} {w:World} (ha:aH ym Bu a w) (hb:aH uw zQ b w) (hs:pE N a.length a=true) (hd:∀x,gP ym Bu a x→gP uw zQ b x→False) :
  aH (ym.cat N uw) (sS a.length Bu zQ) (a ++ b.map (SB.aU (N+·) (a.length+·))) w:=by
 have hA:=dC.cat N a.length ym uw Bu zQ
 have e1:(ym.cat N uw).pull (N+·)=uw:=Env.KF N ym uw
 have e2:(fun k=>sS a.length Bu zQ (a.length+k))=zQ:=funext fun k=>vP ..
 refine aH.app (ha.ext hA hs (Nat.le_refl _)) (by rw [e1,e2];exact hb) fun i j x y hi hj dx dy _ he=>?_
 rw [e1] at dy
 have hl:=(List.getElem?_eq_some_iff.1 hi).1
 rw [pV _ _ _ hl,vP] at he
 rw [SB.mH hA (iP hs i x hi)] at dx
 exact hd _ ⟨i,x,hi,dx,rfl⟩ ⟨j,y,hj,dy,he⟩
theorem Ri {a b:List SB} {N:Nat} {ym uw:Env} {Bu zQ:Nat→Addr} (hs:pE N a.length a=true) {x:Nat} (h:iU (ym.cat N uw) (sS a.length Bu zQ) (a ++ b.map (SB.aU (N+·) (a.length+·))) x):iU ym Bu a x∨iU uw zQ b x:=by
 have hA:=dC.cat N a.length ym uw Bu zQ
 have e1:(ym.cat N uw).pull (N+·)=uw:=Env.KF N ym uw
 obtain ⟨k,sb,h1,h2,h3,rfl⟩:=h
 rw [List.getElem?_append] at h1
 split at h1
 ·rename_i hk
  rw [SB.mH hA (iP hs k sb h1)] at h3
  exact .inl ⟨k,sb,h1,h2,h3,by rw [pV _ _ _ hk]⟩
 ·rename_i hk
  rw [List.getElem?_map,Option.map_eq_some_iff] at h1
  obtain ⟨c,hc,rfl⟩:=h1
  rw [SB.jl,e1] at h3
  refine .inr ⟨k-a.length,c,hc,h2,h3,?_⟩
  have:=vP a.length Bu zQ (k-a.length)
  rw [show a.length+(k-a.length)=k by omega] at this
  rw [this]
def Z5 (hp:List SB):Bool:=hp.all fun b=>!b.own
theorem mq {ρ:Env} {ν:Nat→Addr} {hp:List SB} (h:Z5 hp=true) {x:Nat} (hx:iU ρ ν hp x):False:=by
 obtain ⟨k,sb,h1,h2,-,-⟩:=hx
 have:=List.all_eq_true.1 h sb (List.mem_of_getElem? h1)
 rw [h2] at this
 cases this
theorem aH.zR {ρ:Env} {ν:Nat→Addr} {hp:List SB} {w w':World} (ha:nE hp=true) (h:aH ρ ν hp w) (hk:∀b,gP ρ ν hp b→w'.heap[b]?=w.heap[b]?):aH ρ ν hp w' :=
 h.frame ha fun b hb=>hk b (mo hb)
theorem kg.aC {z:Nat} {W:Nat→Prop} {ρ:Env} {ν:Nat→Addr} {hp:List SB} (ha:nE hp=true) (h:kg z W ρ ν hp) {b:Nat} (hb:gP ρ ν hp b):z≤b∨W b:=Xg h (Rh ha hb)
end Go.Rex
namespace Go.Proofs.YthomdlajobnmnaaGreatDoor
open Go.Rex
def gX:List SB:=ib 36 G9 0
def jS:List SB:=J9 0 2 0
structure fu (w:World) (a:Addr) (p:PS) (B:Nat→Prop):Prop where
 ex:∃ρ ν,ν 0=a∧aH ρ ν jS w∧af ρ (ρ.iv 0) (ρ.iv 1) 2=p∧bG ρ 2∧∀b,gP ρ ν jS b→B b
structure jA (w:World) (cZ:Nat→Addr):Prop where
 hp:∃ρ,aH ρ cZ gX w
 gl:iF cZ (fB G9 0)
theorem IG:nE jS=true:=by kernel_rfl
section
variable {w w':World} {a:Addr} {p:PS} {B B':Nat→Prop}
theorem fu.frame (h:fu w a p B) (hk:∀b,B b→w'.heap[b]?=w.heap[b]?):fu w' a p B:=by
 obtain ⟨ρ,ν,h1,h2,h3,h4,h5⟩:=h.ex
 exact ⟨ρ,ν,h1,h2.zR IG fun b hb=>hk b (h5 b hb),h3,h4,h5⟩
theorem fu.mono (h:fu w a p B) (hk:∀b,B b→b<w.heap.size→B' b):fu w a p B':=by
 obtain ⟨ρ,ν,h1,h2,h3,h4,h5⟩:=h.ex
 exact ⟨ρ,ν,h1,h2,h3,h4,fun b hb=>hk b (h5 b hb) (nP h2 hb)⟩
theorem jA.frame {cZ:Nat→Addr} (h:jA w cZ) (hz:w.heap.size≤w'.heap.size) (hk:∀k,k<8→w'.heap[(cZ k).block]?=w.heap[(cZ k).block]?):jA w' cZ:=by
 obtain ⟨⟨ρ,h1⟩,h2⟩:=h
 exact ⟨⟨ρ,h1.Cj hz fun k sb hk' _=>hk k (Nat.lt_of_lt_of_le (List.getElem?_eq_some_iff.1 hk').1 (by decide))⟩,h2⟩
end
structure xL (p:PS) (n m:Int):Prop where
 nb:p.nb=n
 ns:p.ns=m
 nf:p.nf=m
 steps:p.steps=0
 made:p.made=0
 dD:p.dD=true
 bd:∀i,p.bd i=Wd.zero
 gen:∀i,p.gen i=0
 used:∀i,p.used i=false
 cell:∀i k,p.cell i k=Wd.zero
 fr:∀i:Nat,(i:Int)<m→p.fr i=m-i
theorem xL.ok {p:PS} {n m:Int} (h:xL p n m) (h1:0≤m∧m≤1024) (h2:0≤n∧n≤200):p.OK:=by
 have hu:∀k,jO p.used k=0:=fun k=>by
  rw [qX (v:=fun _=>false) fun i _=>h.used i,Ey]
 refine ⟨by rw [h.nb];exact h2,by rw [h.ns];exact h1,by rw [h.nf];exact h1.1,by rw [h.made,h.steps];exact ⟨Int.le_refl 0,Int.le_refl 0⟩,fun i=>by rw [h.gen,h.made];exact ⟨Int.le_refl 0,Int.le_refl 0⟩,fun i hi=>?_,fun i j hi hj=>?_,?_⟩
 ·rw [h.nf] at hi
  rw [h.fr i hi,h.ns]
  exact ⟨by omega,by omega,h.used _⟩
 ·rw [h.nf] at hj
  rw [h.fr i (by omega),h.fr j hj]
  omega
 ·rw [hu,h.nf,h.ns]
  simp
abbrev Nw (w w':World):Prop:=bC w (fun _=>False) w'
theorem EH {ρ:Env} {ν:Nat→Addr} {w:World}:aH ρ ν [] w:=⟨fun i j a b h=>by simp at h,fun k sb h=>by simp at h,fun k sb h=>by simp at h⟩
def Rj (f:Nat→Int):Env:=⟨f,fun _=>false,fun _=>undef,fun _ _ _ _=>0,fun _ _ _ _=>false,fun _ _ _ _=>undef⟩
def fN:Nat→Nat
 | 0=>1
 | 1=>0
 | i=>i
theorem Y1:(List.range jS.length).map (fun j=>oP.hp'[j]?)=jS.map fun sb=>some (sb.aU fN fun k=>k):=by kernel_rfl
theorem xM (m:Int) (h:0≤m∧m≤1024) (w:World) :
  Calls Tryz.prog 16 #[.int .i64 m,.int .i64 85] w fun e w'=>∃aP p B,e=.returned (.tuple #[.pointer (some aP),.nilIface])∧fu w' aP p B∧xL p 85 m∧(∀b,B b→w.heap.size≤b)∧Nw w w':=by
 have hrun:=Xf.run (Rj fun i=>if i=0 then m else 85) (fun _=>⟨0,0,none⟩) w EH ⟨fun g k _ h=>(by cases h),fun g g' k k' _ _ h=>(by cases h)⟩ ⟨h,by show (0:Int)≤85∧(85:Int)≤200;decide⟩
 refine Calls.mono hrun ?_
 rintro e w' ⟨ρ,ν,hA,rfl,gJ,hwr,how,q1,q2⟩
 have e0:ρ.iv 0=m:=(hA.iv 0 (by decide)).trans rfl
 have e1:ρ.iv 1=85:=(hA.iv 1 (by decide)).trans rfl
 have hn:∀b,¬iU (Rj fun i=>if i=0 then m else 85) (fun _=>(⟨0,0,none⟩:Addr)) oP.hp b:=fun b ⟨k,sb,hk,_⟩=>by
  have hk:([]:List SB)[k]?=some sb:=hk
  simp at hk
 obtain ⟨p,h1,h2⟩:=q2
 replace h1:af ρ (ρ.iv 1) (ρ.iv 0) 2=p:=h1
 refine ⟨ν 0,p,gP (ρ.pull fN) ν jS,rfl,⟨ρ.pull fN,ν,rfl,gJ.sub Y1 fun i j _ _ h=>h,h1,q1,fun _ h=>h⟩,?_,fun b hb=>?_,⟨hwr.os,hwr.tape,hwr.output,hwr.size,fun k hk _=>hwr.block k hk (hn k)⟩⟩
 ·obtain ⟨a1,a2,a3,a4,a5,a6,a7,a8,a9,Bv,MP⟩:=h2
  exact ⟨a1.trans e1,a2.trans e0,a3.trans e0,a4,a5,a6,a7,a8,a9,Bv,fun i hi=>(MP i (by show (i:Int)<ρ.iv 0;rw [e0];exact hi)).trans (by show ρ.iv 0-i=m-i;rw [e0])⟩
 ·rcases (how.sub Y1).aC IG hb with h | h
  ·exact h
  ·exact absurd h (hn b)
def mX (a:Ac):Value:=.agg #[.int .i64 a.kind,.int .i64 a.slot,.int .i64 a.gen,.int .i64 a.field,.int .i64 a.old.slot,.int .i64 a.old.gen,.int .i64 a.old.tag,.int .i64 a.old.num,.bool a.old.mark,.int .i64 a.new.slot,.int .i64 a.new.gen,.int .i64 a.new.tag,.int .i64 a.new.num,.bool a.new.mark]
def II (w:Wd):Value:=.agg #[.int .i64 w.slot,.int .i64 w.gen,.int .i64 w.tag,.int .i64 w.num,.bool w.mark]
def iM (x:Rp):Value:=.agg #[.int .i64 x.word.slot,.int .i64 x.word.gen,.int .i64 x.word.tag,.int .i64 x.word.num,.bool x.word.mark,.bool x.ok]
def IJ (a:Ac):Env where
 iv:=fun i=>([a.kind,a.slot,a.gen,a.field,a.old.slot,a.old.gen,a.old.tag,a.old.num,0,a.new.slot,a.new.gen,a.new.tag,a.new.num,0]:List Int).getD i 0
 bv:=fun i=>if i=8 then a.old.mark else a.new.mark
 vv:=fun _=>undef
 ic:=fun _ _ _ _=>0
 bc:=fun _ _ _ _=>false
 vc:=fun _ _ _ _=>undef
def fD:Nat→Nat
 | 0=>14
 | 1=>15
 | i=>i+31
def gD:Nat→Nat
 | 0=>8
 | 1=>9
 | 2=>10
 | k=>k+10
theorem Y2:(List.range jS.length).map (fun j=>nI.hp'[gD j]?)=jS.map fun sb=>some (sb.aU fD gD):=by kernel_rfl
theorem Y3:∀i j,i<jS.length→j<jS.length→gD i=gD j→i=j:=by
 have:∀i,i<5→∀j,j<5→gD i=gD j→i=j:=by decide
 intro i j hi hj
 exact this i hi j hj
theorem EI {w:World} {aP:Addr} {p p':PS} {B:Nat→Prop} {cZ:Nat→Addr} {a:Ac} {x:Rp} (hs:jA w cZ) (hp:fu w aP p B) (hz:∀k,k<8→¬B (cZ k).block) (hok:p.OK) (hst:p.steps≤1000000) (hx:p.act a=(p',some x)) :
  Calls Tryz.prog 32 #[.pointer (some aP),mX a] w fun e w'=>e=.returned (.tuple #[iM x,.nilIface])∧∃B',fu w' aP p' B'∧(∀b,B' b→w.heap.size≤b∨B b)∧bC w B w':=by
 obtain ⟨cB,eQ,rfl,KJ,rfl,hpo,hpb⟩:=hp.ex
 obtain ⟨⟨Rk,hsh⟩,hgl⟩:=hs
 have hsB:∀x,gP (IJ a) cZ gX x→∃k,k<8∧x=(cZ k).block:=by
  rintro x ⟨k,sb,h1,_,rfl⟩
  exact ⟨k,Nat.lt_of_lt_of_le (List.getElem?_eq_some_iff.1 h1).1 (by decide),rfl⟩
 have hsh':aH (IJ a) cZ gX w:=aH.ext (nv:=0) (n:=8) ⟨fun i h=>absurd h (Nat.not_lt_zero _),fun i h=>absurd h (Nat.not_lt_zero _),fun i h=>absurd h (Nat.not_lt_zero _),fun i h=>absurd h (Nat.not_lt_zero _),fun i h=>absurd h (Nat.not_lt_zero _),fun i h=>absurd h (Nat.not_lt_zero _),fun i h=>rfl⟩ (by kernel_rfl) (by decide) hsh
 have Ur:=aH.join (N:=14) hsh' KJ (by kernel_rfl) fun x h1 h2=>by
  obtain ⟨k,hk,rfl⟩:=hsB x h1
  exact hz k hk (hpb _ h2)
 have eL:nI.hp=gX ++ jS.map (SB.aU (14+·) (gX.length+·)):=by kernel_rfl
 rw [←eL] at Ur
 have lN:∀x,iU ((IJ a).cat 14 cB) (sS gX.length cZ eQ) nI.hp x→B x:=by
  intro x hx
  rw [eL] at hx
  rcases Ri (by kernel_rfl) hx with hb | hb
  ·exact (mq (by kernel_rfl) hb).elim
  ·exact hpb _ (mo hb)
 obtain ⟨ρ,hρ⟩:∃ρ,ρ=(IJ a).cat 14 cB:=⟨_,rfl⟩
 obtain ⟨ν,kz⟩:∃ν,ν=sS gX.length cZ eQ:=⟨_,rfl⟩
 have e8:ν 8=eQ 0:=by rw [kz];rfl
 have eP:af ρ (ρ.iv 14) (ρ.iv 15) 16=af cB (cB.iv 0) (cB.iv 1) 2:=by rw [hρ];rfl
 have eA:ay ρ 0=a:=by rw [hρ];rfl
 have hG:iF ν nI.gl:=by
  refine iF.ext (nv:=0) (n:=8) (ρ:=Rk) (ρ':=ρ) (ν:=cZ) ⟨fun i h=>absurd h (Nat.not_lt_zero _),fun i h=>absurd h (Nat.not_lt_zero _),fun i h=>absurd h (Nat.not_lt_zero _),fun i h=>absurd h (Nat.not_lt_zero _),fun i h=>absurd h (Nat.not_lt_zero _),fun i h=>absurd h (Nat.not_lt_zero _),fun i h=>?_⟩ (by kernel_rfl) hgl
  rw [kz,pV _ _ _ (Nat.lt_of_lt_of_le h (by decide))]
 have hOk:bG ρ 16:=by
  rw [hρ]
  exact hpo
 have hargs:(nI.args.map (·.den ρ ν)).toArray=#[.pointer (some (eQ 0)),mX a]:=by
  rw [←e8,←eA]
  rfl
 rw [←hρ,←kz] at Ur lN
 rw [←eP] at hok hst hx
 have hrun:=YR.run ρ ν w Ur hG ⟨hOk,hok,hst⟩
 rw [hargs] at hrun
 refine Calls.mono hrun ?_
 rintro ev w' ⟨ρ',aI,hA,rfl,gJ,hwr,how,q1,q2,q3⟩
 have eP':af ρ' (ρ'.iv 14) (ρ'.iv 15) 16=af ρ (ρ.iv 14) (ρ.iv 15) 16:=by
  unfold af
  simp (disch:=decide) only [hA.iv,hA.bv,hA.ic,hA.bc]
 have eA':ay ρ' 0=a:=by
  rw [←eA]
  unfold ay ak
  simp (disch:=decide) only [hA.iv,hA.bv]
 replace q2:(af ρ' (ρ'.iv 14) (ρ'.iv 15) 16).act (ay ρ' 0)=(af ρ' (ρ'.iv 14) (ρ'.iv 15) 33,if ρ'.bv 32=true then some (aG ρ' 26) else none):=q2
 rw [eP',eA',hx] at q2
 have hb:ρ'.bv 32=true:=by
  cases h:ρ'.bv 32 with
  | true=>rfl
  | false=>rw [h] at q2;cases q2
 rw [hb,if_pos rfl,Prod.mk.injEq,Option.some.injEq] at q2
 obtain ⟨rfl,rfl⟩:=q2
 refine ⟨?_,gP (ρ'.pull fD) (fun k=>aI (gD k)) jS,⟨ρ'.pull fD,fun k=>aI (gD k),?_,gJ.sub Y2 Y3,rfl,q1,fun _ h=>h⟩,fun b h=>((how.sub Y2).aC IG h).imp id (lN b),hwr.os,hwr.tape,hwr.output,hwr.size,fun k hk hn=>hwr.block k hk fun h=>hn (lN k h)⟩
 ·show Ending.returned (.tuple #[_,if ρ'.bv 32=true then _ else _])=_
  rw [hb]
  rfl
 ·show aI 8=eQ 0
  rw [hA.bl 8 (by decide),e8]
def dG:List SB:=Ka 0 4 0
theorem xN:nE dG=true:=by kernel_rfl
def evF (E M T N:Int):Env:=Rj fun i=>([E,M,T,N]:List Int).getD i 0
theorem OU (E M T N:Int) (h1:1≤E∧E≤5) (h2:0≤M∧M<T) (h3:1≤T∧T≤6) (h4:1≤N∧N≤64) (w:World) :
  Calls Tryz.prog 34 #[.int .i64 E,.int .i64 M,.int .i64 T,.int .i64 N] w fun e w'=>∃ρ ν,e=.returned (.tuple #[.pointer (some (ν 0)),.nilIface])∧(aH ρ ν dG w'∧aa ρ 0 4=RS.new E M T N∧bK ρ 4∧∀b,gP ρ ν dG b→w.heap.size≤b)∧Nw w w':=by
 have hrun:=Uo.run (evF E M T N) (fun _=>⟨0,0,none⟩) w EH ⟨fun g k _ h=>(by cases h),fun g g' k k' _ _ h=>(by cases h)⟩ ⟨h1,h2,h3,h4.1,h4.2⟩
 refine Calls.mono hrun ?_
 rintro e w' ⟨ρ,ν,hA,rfl,gJ,hwr,how,q1,q2⟩
 have hn:∀b,¬iU (evF E M T N) (fun _=>(⟨0,0,none⟩:Addr)) nY.hp b:=fun b ⟨k,sb,hk,_⟩=>by
  have hk:([]:List SB)[k]?=some sb:=hk
  simp at hk
 refine ⟨ρ,ν,rfl,⟨gJ,Eq.trans q2 ?_,q1,fun b hb=>(how.aC xN hb).elim id fun h=>absurd h (hn b)⟩,hwr.os,hwr.tape,hwr.output,hwr.size,fun k hk _=>hwr.block k hk (hn k)⟩
 show RS.new (ρ.iv 0) (ρ.iv 1) (ρ.iv 2) (ρ.iv 3)=_
 rw [hA.iv 0 (by decide),hA.iv 1 (by decide),hA.iv 2 (by decide),hA.iv 3 (by decide)]
 rfl
end Go.Proofs.YthomdlajobnmnaaGreatDoor
namespace Go.Proofs.YthomdlajobnmnaaGreatDoor
open Go.RowKit Go.Rex
structure kH (w:World) (a:Addr) (r:RS) (B:Nat→Prop):Prop where
 ex:∃ρ ν,ν 0=a∧aH ρ ν dG w∧aa ρ 0 4=r∧bK ρ 4∧∀b,gP ρ ν dG b→B b
section
variable {w w':World} {a:Addr} {r:RS} {B B':Nat→Prop}
theorem kH.frame (h:kH w a r B) (hk:∀b,B b→w'.heap[b]?=w.heap[b]?):kH w' a r B:=by
 obtain ⟨ρ,ν,h1,h2,h3,h4,h5⟩:=h.ex
 exact ⟨ρ,ν,h1,h2.zR xN fun b hb=>hk b (h5 b hb),h3,h4,h5⟩
theorem kH.mono (h:kH w a r B) (hk:∀b,B b→b<w.heap.size→B' b):kH w a r B':=by
 obtain ⟨ρ,ν,h1,h2,h3,h4,h5⟩:=h.ex
 exact ⟨ρ,ν,h1,h2,h3,h4,fun b hb=>hk b (h5 b hb) (nP h2 hb)⟩
theorem kH.step (h:kH w a r B):∃b,a=⟨b,0,none⟩∧B b∧w.cell? ⟨b,18,none⟩=some (.int .i64 r.step):=by
 obtain ⟨ρ,ν,rfl,q1,rfl,h4,h5⟩:=h.ex
 obtain ⟨g1,cs,g2,g3⟩:=q1.aC 0 _ rfl rfl rfl
 have g2:=g2.cells rfl
 refine ⟨(ν 0).block,g1,h5 _ ⟨0,_,rfl,rfl,rfl⟩,?_⟩
 have:=g3.ex 18 _ rfl rfl
 unfold World.cell?
 rw [g2]
 exact this
end
def gR:Nat→Nat
 | 0=>0
 | k=>k+3
theorem EJ:∀i j,i<dG.length→j<dG.length→gR i=gR j→i=j:=by
 have:∀i,i<4→∀j,j<4→gR i=gR j→i=j:=by decide
 intro i j hi hj
 exact this i hi j hj
def qg (c:Ca):Value:=.agg #[.int .i64 c.kind,.int .i64 c.slot,.int .i64 c.gen,.int .i64 c.field,.int .i64 c.old.slot,.int .i64 c.old.gen,.int .i64 c.old.tag,.int .i64 c.old.num,.bool c.old.mark,.int .i64 c.new.slot,.int .i64 c.new.gen,.int .i64 c.new.tag,.int .i64 c.new.num,.bool c.new.mark,.int .i64 c.i,.int .i64 c.j,.int .i64 c.code,.int .i64 c.val]
def CU (f:Nat→Int) (g:Nat→Bool):Env:=⟨f,g,fun _=>undef,fun _ _ _ _=>0,fun _ _ _ _=>false,fun _ _ _ _=>undef⟩
def VR (c:Ca):Env:=CU (fun i=>([c.kind,c.slot,c.gen,c.field,c.old.slot,c.old.gen,c.old.tag,c.old.num,0,c.new.slot,c.new.gen,c.new.tag,c.new.num,0,c.i,c.j,c.code,c.val]:List Int).getD i 0) fun i=>if i=8 then c.old.mark else c.new.mark
def IK (x:Rp):Env:=CU (fun i=>([x.word.slot,x.word.gen,x.word.tag,x.word.num]:List Int).getD i 0) fun i=>if i=4 then x.word.mark else x.ok
theorem Rl {w:World} {b:Nat} {s:Int} (h:w.cell? ⟨b,18,none⟩=some (.int .i64 s)):Calls Tryz.prog 36 #[.pointer (some ⟨b,0,none⟩)] w fun e w'=>e=.returned (.bool (decide (s≠0)))∧w'=w:=by
 go_enter Tryz.func36,Tryz.ntmps36
 go_wp2
 go_ret
 by_cases hs:s=0 <;> simp [hs]
structure sU (r:RS):Prop where
 st:(0≤r.me∧r.me<6)∧1≤r.threads∧r.threads≤6
 few:r.notes.length≤1000000
def Y4 (w:Wd):Prop:=(-1000000000000≤w.tag∧w.tag≤1000000000000)∧-1000000000000≤w.num∧w.num≤1000000000000
structure oZ (r:RS) (x:Rp):Prop where
 ok:sU r
 s13:r.step=13→r.seen.length≤99999∧(0≤r.index∧r.index≤99999)∧(r.av=4→Y4 r.clock)
 s15:r.step=15→r.av=4
 w:Y4 x.word
 freed:-1000000000000≤r.freed∧r.freed≤1000000000000
 s16:r.step=16→∃d l,r.bL=d :: l∧d∈r.notes
 s0:r.step≠0
 s4:r.step=4→0≤r.index∧r.index≤8
 abA:r.step=5∨r.step=6∨r.step=7→0≤r.call.i∧r.call.i<9
theorem Y5 {q:Env} {x:Rp} (H:oZ (aa q 0 4) x) (e2:aG q 71=x) (ho:bK q 4):vM q:=by
 have hst:(aa q 0 4).step=q.iv 22:=rfl
 refine ⟨⟨ho,⟨H.ok.st.1.1,H.ok.st.1.2,H.ok.st.2.1,H.ok.st.2.2⟩,⟨⟨?_,fun h=>?_⟩,fun h h4=>(H.s13 h).2.2 h4,fun h=>(H.s13 h).2.1,fun h=>H.s15 h⟩,?_,H.freed,H.s16⟩,H.s0,H.s4,H.abA⟩
 ·have h1:(aT q 70 (q.iv 59)).length≤1000000:=H.ok.few
  rw [jP] at h1
  omega
 ·have h1:(dL q 68 (q.iv 49)).length≤99999:=(H.s13 h).1
  have h2:(dL q 68 (q.iv 49)).length=(q.iv 49).toNat:=by simp [dL]
  rw [h2] at h1
  omega
 ·have:=H.w
  rw [←e2] at this
  exact this
def KL (i:Nat):Nat:=if i<4 then i else i+85
theorem KM:(List.range dG.length).map (fun j=>kV.hp'[gR j]?)=dG.map fun sb=>some (sb.aU KL gR):=by kernel_rfl
theorem Us {w:World} {a:Addr} {r:RS} {B:Nat→Prop} {c:Ca} (h:kH w a r B) (hk:sU r) (h0:r.step=0) (hc:c.OK) :
  Calls Tryz.prog 37 #[.pointer (some a),qg c] w fun ev w'=>ev=.returned .nilIface∧∃B',kH w' a (r.begin c).1 B'∧(∀x,B' x→w.heap.size≤x∨B x)∧bC w B w':=by
 obtain ⟨ρ,ν,rfl,hh0,rfl,ho,hB⟩:=h.ex
 have hA:dC 71 4 ρ (ρ.cat 71 (VR c)) ν ν:=⟨fun _ h=>if_pos h,fun _ h=>if_pos h,fun _ h=>if_pos h,fun _ h=>if_pos h,fun _ h=>if_pos h,fun _ h=>if_pos h,fun _ _=>rfl⟩
 obtain ⟨q,hq⟩:∃q,q=ρ.cat 71 (VR c):=⟨_,rfl⟩
 rw [←hq] at hA
 have hh:aH q ν dG w:=hh0.ext hA (by kernel_rfl) (by decide)
 have e1:aa q 0 4=aa ρ 0 4:=by rw [hq];rfl
 have hoq:bK q 4:=by rw [hq];exact ho
 have e2:iW q 71=c:=by rw [hq];rfl
 have hpre':xC q:=by
  refine ⟨⟨hoq,?_,?_⟩,?_,?_⟩
  ·have:(0≤(aa q 0 4).me∧(aa q 0 4).me<6)∧1≤(aa q 0 4).threads∧(aa q 0 4).threads≤6:=by rw [e1];exact hk.st
   exact ⟨this.1.1,this.1.2,this.2.1,this.2.2⟩
  ·have h1:(aT q 70 (q.iv 59)).length≤1000000:=by
    have:=hk.few
    rw [←e1] at this
    exact this
   rw [jP] at h1
   show q.iv 59≤1000000
   omega
  ·show (aa q 0 4).step=0
   rw [e1]
   exact h0
  ·rw [e2]
   exact hc
 have hrun:=QR.run q ν w hh ⟨fun g k _ h=>(by cases h),fun g g' k k' _ _ h=>(by cases h)⟩ hpre'
 have hargs:(kV.args.map (·.den q ν)).toArray=#[.pointer (some (ν 0)),qg c]:=by
  rw [hq]
  rfl
 rw [hargs] at hrun
 refine Calls.mono hrun ?_
 rintro ev w' ⟨ρ',aI,hA',rfl,gJ,hwr,how,q1,q2⟩
 have e0:aa ρ' 0 4=aa q 0 4:=by
  unfold aa iW ay aG ak dL aT gH bR
  simp (disch:=decide) only [hA'.iv,hA'.bv,hA'.ic,hA'.bc]
 have e3:iW ρ' 71=iW q 71:=by
  unfold iW ak
  simp (disch:=decide) only [hA'.iv,hA'.bv]
 replace q2:aa ρ' 0 89=((aa ρ' 0 4).begin (iW ρ' 71)).1:=q2
 rw [e0,e1,e3,e2] at q2
 have lN:∀x,iU q ν dG x→B x:=fun x h=>hB x ((qE hA (by kernel_rfl) (by decide)).1 (mo h))
 refine ⟨rfl,gP (ρ'.pull KL) (fun k=>aI (gR k)) dG,⟨ρ'.pull KL,fun k=>aI (gR k),?_,gJ.sub KM EJ,q2,q1,fun _ h=>h⟩,fun x hx=>((how.sub KM).aC xN hx).imp id (lN x),hwr.os,hwr.tape,hwr.output,hwr.size,fun b hb hn=>hwr.block b hb fun h=>hn (lN b h)⟩
 show aI 0=ν 0
 exact hA'.bl 0 (by decide)
def OV (i:Nat):Nat:=if i<4 then i else i+73
theorem MQ:(List.range dG.length).map (fun j=>mQ.hp'[gR j]?)=dG.map fun sb=>some (sb.aU OV gR):=by kernel_rfl
theorem Xh {w:World} {a:Addr} {r:RS} {B:Nat→Prop} {x:Rp} (h:kH w a r B) (hk:oZ r x) :
  Calls Tryz.prog 40 #[.pointer (some a),iM x] w fun ev w'=>ev=.returned .nilIface∧∃B',kH w' a (r.bM x).1 B'∧(∀x,B' x→w.heap.size≤x∨B x)∧bC w B w':=by
 obtain ⟨ρ,ν,rfl,hh0,rfl,ho,hB⟩:=h.ex
 have hA:dC 71 4 ρ (ρ.cat 71 (IK x)) ν ν:=⟨fun _ h=>if_pos h,fun _ h=>if_pos h,fun _ h=>if_pos h,fun _ h=>if_pos h,fun _ h=>if_pos h,fun _ h=>if_pos h,fun _ _=>rfl⟩
 obtain ⟨q,hq⟩:∃q,q=ρ.cat 71 (IK x):=⟨_,rfl⟩
 rw [←hq] at hA
 have hh:aH q ν dG w:=hh0.ext hA (by kernel_rfl) (by decide)
 have e1:aa q 0 4=aa ρ 0 4:=by rw [hq];rfl
 have hoq:bK q 4:=by rw [hq];exact ho
 have e2:aG q 71=x:=by rw [hq];rfl
 have hpre':vM q:=Y5 (x:=x) (by rw [e1];exact hk) e2 hoq
 have hrun:=Ul.run q ν w hh ⟨fun g k _ h=>(by cases h),fun g g' k k' _ _ h=>(by cases h)⟩ hpre'
 have hargs:(mQ.args.map (·.den q ν)).toArray=#[.pointer (some (ν 0)),iM x]:=by
  rw [hq]
  rfl
 rw [hargs] at hrun
 refine Calls.mono hrun ?_
 rintro ev w' ⟨ρ',aI,hA',rfl,gJ,hwr,how,q1,q2⟩
 have e0:aa ρ' 0 4=aa q 0 4:=by
  unfold aa iW ay aG ak dL aT gH bR
  simp (disch:=decide) only [hA'.iv,hA'.bv,hA'.ic,hA'.bc]
 have e3:aG ρ' 71=aG q 71:=by
  unfold aG ak
  simp (disch:=decide) only [hA'.iv,hA'.bv]
 replace q2:aa ρ' 0 77=((aa ρ' 0 4).bM (aG ρ' 71)).1:=q2
 rw [e0,e1,e3,e2] at q2
 have lN:∀x,iU q ν dG x→B x:=fun x h=>hB x ((qE hA (by kernel_rfl) (by decide)).1 (mo h))
 refine ⟨rfl,gP (ρ'.pull OV) (fun k=>aI (gR k)) dG,⟨ρ'.pull OV,fun k=>aI (gR k),?_,gJ.sub MQ EJ,q2,q1,fun _ h=>h⟩,fun x hx=>((how.sub MQ).aC xN hx).imp id (lN x),hwr.os,hwr.tape,hwr.output,hwr.size,fun b hb hn=>hwr.block b hb fun h=>hn (lN b h)⟩
 show aI 0=ν 0
 exact hA'.bl 0 (by decide)
def OW (i:Nat):Nat:=if i<4 then i else i+67
theorem MR:(List.range dG.length).map (fun j=>ll.hp'[gR j]?)=dG.map fun sb=>some (sb.aU OW gR):=by kernel_rfl
theorem Xi {w:World} {a:Addr} {r:RS} {B:Nat→Prop}  (h:kH w a r B) (h0:r.step≠0) :
  Calls Tryz.prog 39 #[.pointer (some a)] w fun ev w'=>ev=.returned (.tuple #[mX r.acc,.bool true])∧∃B',kH w' a r B'∧(∀x,B' x→w.heap.size≤x∨B x)∧bC w B w':=by
 obtain ⟨ρ,ν,rfl,hh0,rfl,ho,hB⟩:=h.ex
 have hA:dC 71 4 ρ (ρ.cat 71 (CU (fun _=>0) fun _=>false)) ν ν:=⟨fun _ h=>if_pos h,fun _ h=>if_pos h,fun _ h=>if_pos h,fun _ h=>if_pos h,fun _ h=>if_pos h,fun _ h=>if_pos h,fun _ _=>rfl⟩
 obtain ⟨q,hq⟩:∃q,q=ρ.cat 71 (CU (fun _=>0) fun _=>false):=⟨_,rfl⟩
 rw [←hq] at hA
 have hh:aH q ν dG w:=hh0.ext hA (by kernel_rfl) (by decide)
 have e1:aa q 0 4=aa ρ 0 4:=by rw [hq];rfl
 have hoq:bK q 4:=by rw [hq];exact ho
 have hpre':xJ q:=⟨hoq,fun h=>h0 (by rw [←e1];exact h)⟩
 have hrun:=Rf.run q ν w hh ⟨fun g k _ h=>(by cases h),fun g g' k k' _ _ h=>(by cases h)⟩ hpre'
 have hargs:(ll.args.map (·.den q ν)).toArray=#[.pointer (some (ν 0))]:=by
  rw [hq]
  rfl
 rw [hargs] at hrun
 refine Calls.mono hrun ?_
 rintro ev w' ⟨ρ',aI,hA',rfl,gJ,hwr,how,q1,⟨q3,q4⟩,q2⟩
 have e0:aa ρ' 0 4=aa q 0 4:=by
  unfold aa iW ay aG ak dL aT gH bR
  simp (disch:=decide) only [hA'.iv,hA'.bv,hA'.ic,hA'.bc]
 replace q2:aa ρ' 0 71=aa ρ' 0 4:=q2
 replace q3:ay ρ' 138=(aa ρ' 0 4).acc:=q3
 replace q4:ρ'.bv 152=true:=q4
 rw [e0,e1] at q2
 rw [e0,e1] at q3
 have lN:∀x,iU q ν dG x→B x:=fun x h=>hB x ((qE hA (by kernel_rfl) (by decide)).1 (mo h))
 refine ⟨?_,gP (ρ'.pull OW) (fun k=>aI (gR k)) dG,⟨ρ'.pull OW,fun k=>aI (gR k),?_,gJ.sub MR EJ,q2,q1,fun _ h=>h⟩,fun x hx=>((how.sub MR).aC xN hx).imp id (lN x),hwr.os,hwr.tape,hwr.output,hwr.size,fun b hb hn=>hwr.block b hb fun h=>hn (lN b h)⟩
 ·rw [←q3]
  show Ending.returned (.tuple #[_,.bool (ρ'.bv 152)])=_
  rw [q4]
  rfl
 ·show aI 0=ν 0
  exact hA'.bl 0 (by decide)
def KN (i:Nat):Nat:=if i<4 then i else i+67
theorem KO:(List.range dG.length).map (fun j=>jR.hp'[gR j]?)=dG.map fun sb=>some (sb.aU KN gR):=by kernel_rfl
theorem Ut {w:World} {a:Addr} {r:RS} {B:Nat→Prop}  (h:kH w a r B)  :
  Calls Tryz.prog 38 #[.pointer (some a)] w fun ev w'=>ev=.returned (iM r.bV)∧∃B',kH w' a r B'∧(∀x,B' x→w.heap.size≤x∨B x)∧bC w B w':=by
 obtain ⟨ρ,ν,rfl,hh0,rfl,ho,hB⟩:=h.ex
 have hA:dC 71 4 ρ (ρ.cat 71 (CU (fun _=>0) fun _=>false)) ν ν:=⟨fun _ h=>if_pos h,fun _ h=>if_pos h,fun _ h=>if_pos h,fun _ h=>if_pos h,fun _ h=>if_pos h,fun _ h=>if_pos h,fun _ _=>rfl⟩
 obtain ⟨q,hq⟩:∃q,q=ρ.cat 71 (CU (fun _=>0) fun _=>false):=⟨_,rfl⟩
 rw [←hq] at hA
 have hh:aH q ν dG w:=hh0.ext hA (by kernel_rfl) (by decide)
 have e1:aa q 0 4=aa ρ 0 4:=by rw [hq];rfl
 have hoq:bK q 4:=by rw [hq];exact ho
 have hpre':uq q:=hoq
 have hrun:=OT.run q ν w hh ⟨fun g k _ h=>(by cases h),fun g g' k k' _ _ h=>(by cases h)⟩ hpre'
 have hargs:(jR.args.map (·.den q ν)).toArray=#[.pointer (some (ν 0))]:=by
  rw [hq]
  rfl
 rw [hargs] at hrun
 refine Calls.mono hrun ?_
 rintro ev w' ⟨ρ',aI,hA',rfl,gJ,hwr,how,q1,q3,q2⟩
 have e0:aa ρ' 0 4=aa q 0 4:=by
  unfold aa iW ay aG ak dL aT gH bR
  simp (disch:=decide) only [hA'.iv,hA'.bv,hA'.ic,hA'.bc]
 replace q2:aa ρ' 0 71=aa ρ' 0 4:=q2
 replace q3:aG ρ' 138=(aa ρ' 0 4).bV:=q3
 rw [e0,e1] at q2
 rw [e0,e1] at q3
 have lN:∀x,iU q ν dG x→B x:=fun x h=>hB x ((qE hA (by kernel_rfl) (by decide)).1 (mo h))
 refine ⟨?_,gP (ρ'.pull KN) (fun k=>aI (gR k)) dG,⟨ρ'.pull KN,fun k=>aI (gR k),?_,gJ.sub KO EJ,q2,q1,fun _ h=>h⟩,fun x hx=>((how.sub KO).aC xN hx).imp id (lN x),hwr.os,hwr.tape,hwr.output,hwr.size,fun b hb hn=>hwr.block b hb fun h=>hn (lN b h)⟩
 ·rw [←q3]
  rfl
 ·show aI 0=ν 0
  exact hA'.bl 0 (by decide)
def KP (b:SB):SB:={b with own:=false,ro:=true}
def uK:List SB:=jS.map KP
def kJ:dJ:={f:=41,nv:=13,gl:=fB G9 0,args:=[.one (.ptr {aC:=8}),.agg [.int .i64 (.lit 0),.int .i64 (.lit 0),iv 12]],hp:=gX ++ (J9 0 2 8).map KP,iC:=18,ret:=.gY [.agg (iY 13),.one (.bool (.lit true))],hp':=List.replicate 13 dI}
def om:dJ:={f:=20,nv:=12,args:=[.one (.ptr {aC:=0})],hp:=uK,iC:=13,ret:=.w (.one (iv 12)),hp':=List.replicate 5 dI}
theorem Z6 {ρ:Env} {ν:Nat→Addr} {hp:List SB} {w:World} (ho:nE hp=true) (hm:(hp.all fun b=>!b.iB)=true) (h:aH ρ ν hp w):aH ρ ν (hp.map KP) w:=by
 have at_:∀(k:Nat) (sb:SB),(hp.map KP)[k]?=some sb→∃b,hp[k]?=some b∧sb=KP b:=fun k sb hk=>by
  rw [List.getElem?_map,Option.map_eq_some_iff] at hk
  obtain ⟨b,hb,rfl⟩:=hk
  exact ⟨b,hb,rfl⟩
 refine ⟨fun i j a b hi hj _ _ ra _=>?_,fun k sb hk _ hr=>?_,fun k sb hk hd _=>?_⟩
 ·obtain ⟨a',_,rfl⟩:=at_ i a hi
  cases ra
 ·obtain ⟨b',_,rfl⟩:=at_ k sb hk
  cases hr
 ·obtain ⟨b,hb,rfl⟩:=at_ k sb hk
  have hd':b.dead ρ=false:=hd
  obtain ⟨g1,cs,g2,g3⟩:=h.aC k b hb hd' (uu ho hb (SB.dP hd')).2
  have hmb:b.iB=false:=by
   have:=List.all_eq_true.1 hm b (List.mem_of_getElem? hb)
   simpa using this
  have hc:=g2.cells hmb
  refine ⟨⟨(Array.getElem?_eq_some_iff.1 hc).1,fun _ _=>⟨cs,b.t,hc⟩⟩,cs,⟨g3.un,g3.size,g3.cap,g3.ex,g3.sg⟩,fun p v hp'=>?_⟩
  rw [g1]
  have e:(⟨(ν k).block,0,none⟩:Addr).add p=⟨(ν k).block,p,none⟩:=by
   unfold Addr.add
   split
   ·rename_i h;subst h;rfl
   ·simp
  rw [e]
  unfold World.cell?
  rw [hc]
  exact hp'
noncomputable def VS:Ex:={sched:=sched,loops:=[],cons:=[],fin:=kJ}
def MS:Out :=
 .ob (.aA (.lit 0) (.var 0)) <|
 .fin {lo:=13,az:=13,iv:=[(16,.cell 8 (.var 12) (.lit 0) 3),(15,.cell 8 (.var 12) (.lit 0) 2),(14,.cell 8 (.var 12) (.lit 0) 1),(13,.cell 8 (.var 12) (.lit 0) 0)],bv:=[(17,.cell 8 (.var 12) (.lit 0) 4)]}
def knP:Kn:=[(.aA (.lit 0) (.var 12),true),(.bS (.var 12) (.var 0),true)]
theorem Uu:exec tab VS 8000 [] (dZ kJ.f kJ.nv knP kJ.gl kJ.hp kJ.args)=MS:=by kernel_rfl
def Xj (ρ:Env):Prop:=0≤ρ.iv 12∧ρ.iv 12<ρ.iv 0
def Uv (ρ:Env):Prop:=ak ρ 13=aF (ρ.ic 8 (ρ.iv 12).toNat 0) (ρ.bc 8 (ρ.iv 12).toNat 0)
theorem Uw:aV Tryz.prog kJ Xj Uv :=
 cK dF (E:=VS) (cs:=[]) rfl (fun k pre post h=>by cases h) bO rfl Uu (by kernel_rfl) (fun ρ h p hp=>by
   replace h:0≤ρ.iv 12∧ρ.iv 12<ρ.iv 0:=h
   simp only [knP,List.mem_cons,List.not_mem_nil,or_false] at hp
   rcases hp with rfl | rfl
   · exact decide_eq_true h.1
   · exact decide_eq_true h.2) fun ρ h=>by
  replace h:0≤ρ.iv 12∧ρ.iv 12<ρ.iv 0:=h
  unfold MS
  refine Sat.ob (decide_eq_true (show 0≤ρ.iv 0 by omega)) (Sat.fin ?_)
  rfl
noncomputable def VT:Ex:={sched:=sched,loops:=[],cons:=[],fin:=om}
def MU:Out :=
 .ob (.aA (.lit 0) (.var 1)) <|
 .ob (.or (.not (.var 2)) (.aB (.var 3) (.lit 0))) <|
 .ob (.aA (.lit 0) (.var 3)) <|
 .ob (.inr .i64 (.sub (.var 1) (.var 3))) <|
 .fin {lo:=12,az:=5,iv:=[(12,.sub (.var 1) (.var 3))]}
theorem Ux:exec tab VT 8000 [] (dZ om.f om.nv [] om.gl om.hp om.args)=MU:=by kernel_rfl
def Xk (ρ:Env):Prop:=bG ρ 2∧0≤ρ.iv 1∧ρ.iv 1≤1024∧ρ.iv 3≤ρ.iv 1
def Uy (ρ:Env):Prop:=ρ.iv 12=ρ.iv 1-ρ.iv 3
theorem Uz:aV Tryz.prog om Xk Uy :=
 cK dF (E:=VT) (cs:=[]) rfl (fun k pre post h=>by cases h) bO rfl Ux (by kernel_rfl) (fun ρ h p hp=>by cases hp) fun ρ h=>by
  replace h:bG ρ 2∧0≤ρ.iv 1∧ρ.iv 1≤1024∧ρ.iv 3≤ρ.iv 1:=h
  obtain ⟨⟨z1,z2,z3,z4⟩,h1,h2,h3⟩:=h
  replace z1:ρ.bv 2=true→ρ.iv 3=0:=z1
  replace z2:0≤ρ.iv 3:=z2
  unfold MU
  refine Sat.ob (decide_eq_true h1) (Sat.ob ?_ (Sat.ob (decide_eq_true z2) (Sat.ob ?_ (Sat.fin rfl))))
  ·show (!ρ.bv 2 || (ρ.iv 3 == 0))=true
   cases hb:ρ.bv 2 with
   | false=>rfl
   | true=>rw [z1 hb];rfl
  ·simp only [Da]
   omega
theorem KQ {w:World} {ρ:Env} {ν:Nat→Addr} (h:aH ρ ν jS w):aH ρ ν uK w:=Z6 IG (by kernel_rfl) h
theorem MV {w:World} {aP:Addr} {p:PS} {B:Nat→Prop} {cZ:Nat→Addr} {f:Int} (hs:jA w cZ) (hp:fu w aP p B) (h0:0≤f) (h1:f<p.nb) :
  Calls Tryz.prog 41 #[.pointer (some aP),.agg #[.int .i64 0,.int .i64 0,.int .i64 f]] w fun ev w'=>ev=.returned (.tuple #[II (p.bd f.toNat),.bool true])∧Nw w w':=by
 obtain ⟨cB,eQ,rfl,KJ,rfl,hpo,hpb⟩:=hp.ex
 obtain ⟨⟨Rk,hsh⟩,hgl⟩:=hs
 obtain ⟨q,hq⟩:∃q:Env,q={cB with iv:=fun i=>if i=12 then f else cB.iv i}:=⟨_,rfl⟩
 obtain ⟨ν,kz⟩:∃ν,ν=sS gX.length cZ eQ:=⟨_,rfl⟩
 have hro:aH q eQ uK w:=aH.ext (nv:=12) (n:=5) ⟨fun i hi=>by rw [hq];exact if_neg (by omega),fun _ _=>by rw [hq],fun _ _=>by rw [hq],fun _ _=>by rw [hq],fun _ _=>by rw [hq],fun _ _=>by rw [hq],fun _ _=>rfl⟩ (by kernel_rfl) (by decide) (KQ KJ)
 have hsh':aH q ν gX w:=aH.ext (nv:=0) (n:=8) ⟨fun i h=>absurd h (Nat.not_lt_zero _),fun i h=>absurd h (Nat.not_lt_zero _),fun i h=>absurd h (Nat.not_lt_zero _),fun i h=>absurd h (Nat.not_lt_zero _),fun i h=>absurd h (Nat.not_lt_zero _),fun i h=>absurd h (Nat.not_lt_zero _),fun i h=>by rw [kz,pV _ _ _ (Nat.lt_of_lt_of_le h (by decide))]⟩ (by kernel_rfl) (by decide) hsh
 have e1:(fun k=>ν (gX.length+k))=eQ:=by rw [kz];exact funext fun k=>vP ..
 have hall:=hsh'.app (f:=id) (hq:=uK) (by rw [e1];exact hro) fun i j a b hi hj _ _ hr _=>by
  have ha:a.ro=true:=by
   have:(gX.all fun b=>b.ro)=true:=by kernel_rfl
   exact List.all_eq_true.1 this a (List.mem_of_getElem? hi)
  have hb:b.ro=true:=by
   have:(uK.all fun b=>b.ro)=true:=by kernel_rfl
   exact List.all_eq_true.1 this b (List.mem_of_getElem? hj)
  rw [ha,hb] at hr
  rcases hr with h | h <;> cases h
 have eL:kJ.hp=gX ++ uK.map (SB.aU id (gX.length+·)):=by kernel_rfl
 rw [←eL] at hall
 have hG:iF ν kJ.gl:=by
  refine iF.ext (nv:=0) (n:=8) (ρ:=Rk) (ρ':=q) (ν:=cZ) ⟨fun i h=>absurd h (Nat.not_lt_zero _),fun i h=>absurd h (Nat.not_lt_zero _),fun i h=>absurd h (Nat.not_lt_zero _),fun i h=>absurd h (Nat.not_lt_zero _),fun i h=>absurd h (Nat.not_lt_zero _),fun i h=>absurd h (Nat.not_lt_zero _),fun i h=>?_⟩ (by kernel_rfl) hgl
  rw [kz,pV _ _ _ (Nat.lt_of_lt_of_le h (by decide))]
 have e12:q.iv 12=f:=by rw [hq];rfl
 have e0:q.iv 0=cB.iv 0:=by rw [hq];rfl
 have hrun:=Uw.run q ν w hall hG ⟨by show 0≤q.iv 12;rw [e12];exact h0,by show q.iv 12<q.iv 0;rw [e12,e0];exact h1⟩
 have hargs:(kJ.args.map (·.den q ν)).toArray=#[.pointer (some (eQ 0)),.agg #[.int .i64 0,.int .i64 0,.int .i64 f]]:=by
  rw [←e12,show eQ 0=ν 8 by rw [←e1];rfl]
  rfl
 rw [hargs] at hrun
 refine Calls.mono hrun ?_
 rintro ev w' ⟨ρ',aI,hA,rfl,gJ,hwr,how,q1⟩
 replace q1:ak ρ' 13=aF (ρ'.ic 8 (ρ'.iv 12).toNat 0) (ρ'.bc 8 (ρ'.iv 12).toNat 0):=q1
 refine ⟨?_,hwr.os,hwr.tape,hwr.output,hwr.size,fun k hk _=>hwr.block k hk fun h=>mq (by kernel_rfl) h⟩
 have e2:(af cB (cB.iv 0) (cB.iv 1) 2).bd f.toNat=ak ρ' 13:=by
  rw [q1,hA.iv 12 (by decide),hA.ic 8 (by decide),hA.bc 8 (by decide),e12,hq]
  rfl
 rw [e2]
 rfl
theorem Xl {w:World} {aP:Addr} {p:PS} {B:Nat→Prop} (hp:fu w aP p B) (hok:p.OK) (hn:p.nf≤p.ns) :
  Calls Tryz.prog 20 #[.pointer (some aP)] w fun ev w'=>ev=.returned (.int .i64 (p.ns-p.nf))∧Nw w w':=by
 obtain ⟨ρ,ν,rfl,KJ,rfl,hpo,hpb⟩:=hp.ex
 have hns:=hok.ns
 have hrun:=Uz.run ρ ν w (KQ KJ) ⟨fun g k _ h=>(by cases h),fun g g' k k' _ _ h=>(by cases h)⟩ ⟨hpo,hns.1,hns.2,hn⟩
 rw [show (om.args.map (·.den ρ ν)).toArray=#[.pointer (some (ν 0))] from rfl] at hrun
 refine Calls.mono hrun ?_
 rintro ev w' ⟨ρ',aI,hA,rfl,gJ,hwr,how,q1⟩
 replace q1:ρ'.iv 12=ρ'.iv 1-ρ'.iv 3:=q1
 refine ⟨?_,hwr.os,hwr.tape,hwr.output,hwr.size,fun k hk _=>hwr.block k hk fun h=>mq (by kernel_rfl) h⟩
 show Ending.returned (.int .i64 (ρ'.iv 12))=.returned (.int .i64 (ρ.iv 1-ρ.iv 3))
 rw [q1,hA.iv 1 (by decide),hA.iv 3 (by decide)]
theorem CW (d:Wd) (w:World):Calls Tryz.prog 43 #[II d] w fun ev w'=>ev=.returned (.bool (decide (d.slot=0)))∧Nw w w':=by
 unfold II
 go_enter Tryz.func43,Tryz.ntmps43
 go_wp2
 go_ret
 exact ⟨by by_cases hs:d.slot=0 <;> simp [hs],(bC.refl w _).alloc _⟩
end Go.Proofs.YthomdlajobnmnaaGreatDoor
namespace Go.Proofs.YthomdlajobnmnaaGreatDoor
open Go.Rex
def Rm (w:Wd):Int:=w.slot+2000 * w.gen
def Ca.of (kind:Int):Ca:={Ca.zero with kind:=kind}
structure Th where
 l:Lo
 t:RT
 pc:Int
 old:Wd
 node:Wd
 bad:Bool
 stop:Bool
def Th.call (h:Th) (x:Rp):Th × Ca :=
 if h.pc=0 then ({h with pc:=1},Ca.of 1)
 else if h.pc=1 then ({h with pc:=2},Ca.of 6)
 else if h.pc=2 then ({h with pc:=3,old:=x.word},if x.word.slot=0 then Ca.of 3 else {Ca.of 3 with slot:=x.word.slot,gen:=x.word.gen,field:=1})
 else if h.pc=3 then ({h with pc:=4,bad:=h.bad || (h.old.slot != 0 && x.word.num != Rm h.old)},Ca.of 8)
 else if h.pc=4 then
  if x.ok=false then ({h with pc:=0},Ca.of 2)
  else ({h with pc:=5,node:=x.word},{Ca.of 4 with slot:=x.word.slot,gen:=x.word.gen,field:=1,new:=Wd.fC (Rm x.word)})
 else if h.pc=5 then ({h with pc:=6},{Ca.of 5 with old:=h.old,new:=⟨h.node.slot,h.node.gen,h.old.tag+1,0,false⟩})
 else if h.pc=6 then ({h with pc:=7},if x.ok=false then {Ca.of 9 with old:=h.node} else if h.old.slot=0 then Ca.of 3 else {Ca.of 10 with old:=h.old})
 else ({h with pc:=0},Ca.of 2)
def Th.with (h:Th) (q:LR):Th:={h with l:=q.1,t:=q.2}
def Th.gL (h:Th) (x:Rp):Th:=(h.call x).1.with (RT.begin (h.call x).1.l (h.call x).2)
structure Sm (a b:Lo):Prop where
 av:b.av=a.av
 me:b.me=a.me
 threads:b.threads=a.threads
 most:b.most=a.most
theorem Sm.refl (a:Lo):Sm a a:=⟨rfl,rfl,rfl,rfl⟩
theorem fK {c:Prop} [Decidable c] {l:Lo} {a b:LR} (h1:Sm l a.1) (h2:Sm l b.1):Sm l (if c then a else b).1:=by
 by_cases h:c
 ·rw [if_pos h];exact h1
 ·rw [if_neg h];exact h2
theorem RT.KR (l:Lo) (k:Int):Sm l (RT.leave l k).1:=by
 refine fK ⟨rfl,rfl,rfl,rfl⟩ (fK ?_ (Sm.refl l))
 cases RS.first l.h k.toNat (9-k.toNat) <;> exact ⟨rfl,rfl,rfl,rfl⟩
theorem RT.MW (l:Lo):Sm l (RT.scan l).1:=fK (Sm.refl l) (fK (Sm.refl l) (Sm.refl l))
theorem RT.KS (l:Lo):Sm l (RT.dO l).1:=fK (RT.MW l) (Sm.refl l)
theorem RT.MX (l:Lo) (w:Wd) (b d:Int):Sm l (RT.dO (RT.note l w b d)).1:=by
 obtain ⟨a1,a2,a3,a4⟩:=RT.KS (RT.note l w b d)
 exact ⟨a1,a2,a3,a4⟩
theorem RT.UA (l:Lo) (c:Ca):Sm l (RT.begin l c).1 :=
 fK (fK (Sm.refl l) (Sm.refl l))<|fK (RT.KR l 0)<|fK (Sm.refl l)<|fK (Sm.refl l)<|fK (Sm.refl l)<|fK (Sm.refl l)<|fK (fK ⟨rfl,rfl,rfl,rfl⟩ (Sm.refl l))<|fK (fK (Sm.refl l) (Sm.refl l))<|fK (Sm.refl l) <|
  fK (fK (RT.MX ..)<|fK (Sm.refl l)<|fK (Sm.refl l) (Sm.refl l)) (RT.MW l)
theorem RT.F9 (l:Lo) (r:List Nt):Sm l (RT.eD l r).1:=by cases r <;> exact Sm.refl l
theorem Sm.ok {a b:Lo} (h:Sm a b) (ho:a.OK):b.OK:=⟨by rw [h.av];exact ho.av,by rw [h.me,h.threads];exact ho.me,by rw [h.threads];exact ho.threads,by rw [h.most];exact ho.most⟩
theorem RT.UB {l:Lo} {c:Ca} (h:l.OK):(RT.begin l c).1.OK:=(RT.UA l c).ok h
theorem RT.Ga {t:RT} (h:t.ig=0):∃x,t=.idle x:=by
 cases t with
 | idle x=>exact ⟨x,rfl⟩
 | _=>cases h
section
variable {p:PS}
theorem KT {s g f:Int} {o w:Wd} (hv:p.has s g f) (hl:p.live s g):p.act ⟨1,s,g,f,o,w⟩=({p with steps:=p.steps+1},some ⟨p.at s f,true⟩):=by
 unfold PS.act
 rw [if_pos (by unfold PS.valid;rw [if_pos (.inl rfl)];exact hv),if_pos (by unfold PS.right;rw [if_neg (show ¬(1:Int)=4 by decide),if_neg (show ¬(1:Int)=5 by decide)];exact hl)]
 rfl
theorem oo {s g f:Int} {o w:Wd} (hv:p.has s g f) (hl:p.live s g):p.act ⟨2,s,g,f,o,w⟩=(PS.put {p with steps:=p.steps+1} s f w,some ⟨Wd.zero,true⟩):=by
 unfold PS.act
 rw [if_pos (by unfold PS.valid;rw [if_pos (.inr (.inl rfl))];exact hv),if_pos (by unfold PS.right;rw [if_neg (show ¬(2:Int)=4 by decide),if_neg (show ¬(2:Int)=5 by decide)];exact hl)]
 rfl
theorem AZ {s g f:Int} {o w:Wd}:p.act ⟨4,s,g,f,o,w⟩=((PS.alloc {p with steps:=p.steps+1} w.num).1,some (PS.alloc {p with steps:=p.steps+1} w.num).2):=by
 unfold PS.act
 rw [if_pos (by unfold PS.valid;rw [if_neg (by simp),if_pos rfl];trivial),if_pos (by unfold PS.right;rw [if_pos rfl];trivial)]
 rfl
end
structure Op where
 kind:Int
 key:Int
 val:Int
 xO:Int
 deriving DecidableEq
structure Jb where
 at':Int
 last:Ca
 op:Op
 node:Wd
 top:Wd
 val:Int
def Jb.new (o:Op):Jb:=⟨0,Ca.zero,o,Wd.zero,Wd.zero,0⟩
def Jb.ask (j:Jb) (s:Int) (c:Ca):Jb × Ca:=({j with at':=s},c)
def Jb.fin (j:Jb) (code val:Int):Jb × Ca:=({j with at':=-1,last:={Ca.of 12 with code:=code,val:=val}},{Ca.of 12 with code:=code,val:=val})
def Rn (w:Wd) (f:Int):Ca:={Ca.of 3 with slot:=w.slot,gen:=w.gen,field:=f}
def Y6 (w:Wd) (f:Int) (x:Wd):Ca:={Ca.of 4 with slot:=w.slot,gen:=w.gen,field:=f,new:=x}
def Ro (o:Wd) (r:Wd):Ca:={Ca.of 5 with old:=o,new:=⟨r.slot,r.gen,o.tag+1,0,false⟩}
def Jb.push (j:Jb) (x:Rp):Jb × Ca :=
 if j.at'=0 then j.ask 1 (Ca.of 8)
 else if j.at'=1 then (if x.ok=false then j.fin 4 0 else {j with node:=x.word}.ask 2 (Y6 x.word 1 (Wd.fC j.op.val)))
 else if j.at'=5 then (if x.ok=true then j.fin 1 0 else j.ask 3 (Ca.of 3))
 else if j.at'=2 then j.ask 3 (Ca.of 3)
 else if j.at'=3 then {j with top:=x.word}.ask 4 (Y6 j.node 2 x.word.gF)
 else if j.at'=4 then j.ask 5 (Ro j.top j.node)
 else (j,j.last)
def Jb.pop (j:Jb) (x:Rp):Jb × Ca :=
 if j.at'=3 then (if x.ok=true then j.ask 4 (Rn j.top 1) else j.ask 1 (Ca.of 6))
 else if j.at'=0 then j.ask 1 (Ca.of 6)
 else if j.at'=1 then
  (if x.word.slot=0 then {j with top:=x.word}.fin 2 0
   else if j.op.kind=3 then {j with top:=x.word}.ask 4 (Rn x.word 1)
   else {j with top:=x.word}.ask 2 (Rn x.word 2))
 else if j.at'=2 then j.ask 3 (Ro j.top x.word)
 else if j.at'=4 then (if j.op.kind=3 then {j with val:=x.word.num}.fin 1 x.word.num else {j with val:=x.word.num}.ask 5 {Ca.of 10 with old:=j.top})
 else if j.at'=5 then j.fin 1 j.val
 else (j,j.last)
def Jb.next (j:Jb) (x:Rp):Jb × Ca:=if j.op.kind=1 then j.push x else j.pop x
def Op.dD (o:Op):Prop:=if o.kind=1 then o.key=0∧o.xO=0∧0≤o.val∧o.val≤1073741824 else (o.kind=2∨o.kind=3)∧o.key=0∧o.val=0∧o.xO=0
instance (o:Op):Decidable o.dD:=by unfold Op.dD;exact inferInstance
structure Wk where
 r:RS
 ops:List Op
 j:Option Jb
 bu:Bool
 said:List (Int × Int)
def Wk.idle (w:Wk):Prop:=w.r.step=0∧w.j=none∧w.bu=false∧w.said.length≥w.ops.length
instance (w:Wk):Decidable (w.j=none):=by
 cases h:w.j with
 | none=>exact isTrue rfl
 | some _=>exact isFalse (fun h=>by cases h)
instance (w:Wk):Decidable w.idle:=by unfold Wk.idle;exact inferInstance
def EK:List Op:=[⟨2,0,0,0⟩,⟨3,0,0,0⟩,⟨2,0,0,0⟩]
structure abB (p:PS):Prop where
 ok:p.OK
 nb:p.nb=85
 dD:p.dD=true
 made:p.made=0
 root:p.bd 0=Wd.zero
 Hy:p.bd 24=Wd.fC 1
theorem uL (h:Nat→Wd):∀(k n m:Nat),RS.first h n k=some m→n≤m∧m<n+k
 | 0,n,m,e=>by cases e
 | k+1,n,m,e=>by
  unfold RS.first at e
  by_cases hz:h n≠Wd.zero
  ·rw [if_pos hz] at e
   cases e
   omega
  ·rw [if_neg hz] at e
   have:=uL h k (n+1) m e
   omega
def mT (l:Lo):RT→Nat
 | .fin _=>1
 | .jo i=>(10-i).toNat
 | .qL=>2
 | .gV _=>if RT.dK l 0 1 then 2 else 5
 | .jy _ _=>if RT.dK l 0 1 then 1 else 4
 | .iN _ _=>3
 | _=>0
def StA (l:Lo) (t:RT):Prop:=(∃x,t=.idle x)∨(∃s,t=.fin (RT.kF l s))∨∃i:Nat,i<9∧t=.jo i
def StB (l:Lo) (t:RT):Prop:=(∃x,t=.idle x)∨t=.qL∨∃s,t=.fin (RT.kF l s)
def StC (l:Lo) (t:RT):Prop:=(∃b,t=.idle ⟨Wd.zero,b⟩)∨t=.gV (Ca.of 6)∨(l.bN∧t=.jy (Ca.of 6) Wd.zero)∨(RT.dK l 0 1∧∃f w,(25≤f∧f<85)∧t=.iN (Ca.of 6) (Ac.store 0 0 f w))
section
variable {l:Lo} {t:RT} {p:PS}
end
end Go.Proofs.YthomdlajobnmnaaGreatDoor
namespace Go.Proofs.YthomdlajobnmnaaGreatDoor
open Go.RowKit Go.Rex
theorem Nw.trans {a b c:World} (h1:Nw a b) (h2:Nw b c):Nw a c :=
 ⟨h2.os.trans h1.os,h2.tape.trans h1.tape,h2.output.trans h1.output,Nat.le_trans h1.size h2.size,fun k hk _=>(h2.block k (Nat.lt_of_lt_of_le hk h1.size) id).trans (h1.block k hk id)⟩
theorem vQ {a b c:World} {F:Nat→Prop} (h1:Nw a b) (h2:bC b F c) (hF:∀x,F x→a.heap.size≤x):Nw a c :=
 ⟨h2.os.trans h1.os,h2.tape.trans h1.tape,h2.output.trans h1.output,Nat.le_trans h1.size h2.size,fun k hk _=>(h2.block k (Nat.lt_of_lt_of_le hk h1.size) fun h=>absurd (hF k h) (Nat.not_le.2 hk)).trans (h1.block k hk id)⟩
theorem Nw.fw {w w':World} (h:Nw w w') {a:Addr} {x:Value} (hc:w.cell? a=some x):w'.cell? a=some x:=by
 rw [←hc]
 unfold World.cell?
 rw [h.block _ (World.block_lt_of_cell? _ _ hc) id]
theorem fu.cells {w:World} {a:Addr} {p:PS} {B:Nat→Prop} (h:fu w a p B) (hg:p.dD=true):∃b,a=⟨b,0,none⟩∧w.cell? ⟨b,4,none⟩=some (.int .i64 p.made)∧w.cell? ⟨b,5,none⟩=some .nilIface:=by
 obtain ⟨ρ,ν,rfl,h1,rfl,h3,h4⟩:=h.ex
 obtain ⟨g1,cs,g2,g3⟩:=h1.aC 0 _ rfl rfl rfl
 have g2:=g2.cells rfl
 refine ⟨(ν 0).block,g1,?_,?_⟩
 ·have:=g3.ex 4 _ rfl rfl
  unfold World.cell?
  rw [g2]
  exact this
 ·have:=g3.ex 5 _ rfl rfl
  unfold World.cell?
  rw [g2]
  refine this.trans (congrArg some ?_)
  show (if ρ.bv 7=true then Value.nilIface else _)=_
  exact if_pos hg
end Go.Proofs.YthomdlajobnmnaaGreatDoor
namespace Go.Proofs.YthomdlajobnmnaaGreatDoor
open Go.Rex
def Gb (v:Nat):List SC:=[iv v,iv (v+1),iv (v+2),iv (v+3)]
def MZ (v:Nat):SB:={t:=130,cs:=[iv v] ++ vG (v+1) ++ Gb (v+19) ++ iY (v+23) ++ iY (v+28) ++ [iv (v+33)],own:=true}
def sV (ρ:Env) (v:Nat):Op:=⟨ρ.iv v,ρ.iv (v+1),ρ.iv (v+2),ρ.iv (v+3)⟩
def j5 (ρ:Env) (v:Nat):Jb:=⟨ρ.iv v,iW ρ (v+1),sV ρ (v+19),ak ρ (v+23),ak ρ (v+28),ρ.iv (v+33)⟩
def UC:Kn:=[(.aB (.var 0) (.lit 1),true),(.aB (.var 1) (.lit 0),true),(.aB (.var 3) (.lit 0),true),(.aA (.lit 0) (.var 2),true),(.aA (.var 2) (.lit 1073741824),true)]
def UD:Kn:=[(.aB (.var 0) (.lit 1),false),(.aB (.var 0) (.lit 2),true),(.aB (.var 1) (.lit 0),true),(.aB (.var 2) (.lit 0),true),(.aB (.var 3) (.lit 0),true)]
end Go.Proofs.YthomdlajobnmnaaGreatDoor
namespace Go.Proofs.YthomdlajobnmnaaGreatDoor
open Go.RowKit Go.Rex
def kK:List SB:=[MZ 0]
theorem EL:nE kK=true:=by kernel_rfl
structure jB (w:World) (a:Addr) (j:Jb) (B:Nat→Prop):Prop where
 ex:∃ρ ν,ν 0=a∧aH ρ ν kK w∧j5 ρ 0=j∧∀b,gP ρ ν kK b→B b
section
variable {w w':World} {a:Addr} {j:Jb} {B B':Nat→Prop}
theorem jB.frame (h:jB w a j B) (hk:∀b,B b→w'.heap[b]?=w.heap[b]?):jB w' a j B:=by
 obtain ⟨ρ,ν,h1,h2,h3,h5⟩:=h.ex
 exact ⟨ρ,ν,h1,h2.zR EL fun b hb=>hk b (h5 b hb),h3,h5⟩
theorem jB.mono (h:jB w a j B) (hk:∀b,B b→b<w.heap.size→B' b):jB w a j B':=by
 obtain ⟨ρ,ν,h1,h2,h3,h5⟩:=h.ex
 exact ⟨ρ,ν,h1,h2,h3,fun b hb=>hk b (h5 b hb) (nP h2 hb)⟩
end
end Go.Proofs.YthomdlajobnmnaaGreatDoor
namespace Go.Proofs.YthomdlajobnmnaaGreatDoor
open Go.Rex
def WSt (w:Wk) (l:Lo) (t:RT):Prop :=
 (w.j=none∧w.bu=false∧StA l t)∨(w.j=none∧w.bu=true∧∃x,t=.idle x) ∨
 (∃o,w.j=some (Jb.new o)∧w.bu=true∧w.said.length<3∧o∈EK∧StB l t) ∨
 ∃o,w.j=some {Jb.new o with at':=1}∧w.bu=true∧w.said.length<3∧o∈EK∧StC l t
structure Pe (w:Wk) (l:Lo) (t:RT):Prop where
 rep:ik l t w.r
 ok:l.OK
 notes:l.notes=[]
 freed:l.freed=0
 ops:w.ops=EK
 said:w.said=List.replicate w.said.length (2,0)
 le:w.said.length≤3
 st:WSt w l t
def Wk.rem (w:Wk):Nat :=
 match w.j with
 | none=>if w.bu=true then 4 * (3-w.said.length)+1 else 4 * (3-w.said.length)
 | some j=>if j.at'=0 then 4 * (3-w.said.length)-1 else 4 * (3-w.said.length)-2
def wM (w:Wk) (l:Lo) (t:RT):Nat:=20 * w.rem+mT l t
theorem VU {k:Int} (h:1≤k∧k≤11):(Ca.of k).OK:=by
 have h9:(0:Int)≤0∧(0:Int)<9:=by decide
 exact ⟨h.1,h.2,h9.1,h9.2,h9.1,h9.2⟩
theorem Pe.end {w:Wk} {l:Lo} {t:RT} (H:Pe w l t) (h:w.idle):w.said=[(2,0),(2,0),(2,0)]:=by
 have h3:w.said.length=3:=by
  have:=h.2.2.2
  rw [H.ops] at this
  have:=H.le
  simp only [EK,List.length_cons,List.length_nil] at *
  omega
 rw [H.said,h3]
 rfl
end Go.Proofs.YthomdlajobnmnaaGreatDoor
