/- part 13 of the proof -/
import Derived.Test.YthomdlajobnmnaaGreatDoorX12
import Derived.Test.YthomdlajobnmnaaGreatDoorX8
set_option linter.unusedSimpArgs false
set_option linter.unusedVariables false
namespace Go.Proofs.YthomdlajobnmnaaGreatDoor
open Go.Rex
def Nu (ρ:Env) (v:Nat):Prop:=ρ.iv (v+55)≤1000000
noncomputable def aak:Ex:={sched:=sched,loops:=[],fin:=jX}
abbrev ad5:List (Nat × BE):=[(67,yw 67),(66,yw 66),(58,yw 58),(55,yw 55),(51,yw 51),(48,yw 48),(46,yw 46),(41,yw 41),(36,yw 36),(31,yw 31),(17,yw 17),(12,yw 12)]
abbrev ad6:List (Nat × CV):=[(70,yu 70 59 7 yN 0),(69,yu 69 70 7 yN 0),(68,yu 68 49 5 yW 0),(54,yl 54 9 5 50 yW 0)]
abbrev ad7:List (Nat × IE):=yo [yz 132,yz 131,yz 130,yz 129]<|yr 128 61 3<|[(124,yv 57),(123,yv 56),yz 120,yz 119,yz 117,yz 116,yz 114,yz 112,yz 111,yz 110,yz 109,yz 107,yz 106,yz 105,yz 104,yz 102,yz 101,yz 100,yz 99,yz 97,yz 96,yz 95,yz 94,yz 93,yz 92,yz 91,yz 90,yz 89,yz 88,yz 87,yz 86,yz 85,yz 83,yz 82,yz 81,yz 80,yz 78,yz 77,yz 76,yz 75,yz 74,yz 73,yz 72,yz 71]
abbrev ad8:List (Nat × BE):=[(134,.lit true),(133,.lit false),(125,yw 58),(122,yw 55),(118,.lit true),(115,.lit true),(113,.lit false),(108,.lit false),(103,.lit false),(98,.lit false),(84,.lit false),(79,.lit false)]
abbrev Yv:List (Nat × BE):=[(134,yw 67),(133,yw 66),(125,yw 58),(122,yw 55),(118,yw 51),(115,yw 48),(113,yw 46),(108,yw 41),(103,.lit false),(98,.lit false),(84,yw 17),(79,yw 12)]
abbrev Yw:List (Nat × CV):=[(137,yu 70 59 7 yN 0),(136,yu 69 70 7 yN 0),(135,yu 68 49 5 yW 0),(121,yl 54 9 5 50 yW 0)]
abbrev Yx:List (Nat × SA):=[(6,yc 3 7),(5,yc 2 7),(4,yc 1 5)]
abbrev ad9:List (Nat × IE):=yo [(137,yv 70)]<|yr 132 65 7<|yo [(124,yv 57),(123,yv 56),(120,yv 53),(119,yv 52),(136,yv 69),(117,yv 50),(116,yv 49),(114,yv 47)]<|yr 112 45 4<|yr 107 40 4<|yo [yz 102,yz 101,yz 100,yz 99,yz 97,yz 96,yz 95,yz 94,(93,.lit 9),(92,yv 9),(91,yv 8),(90,.lit 1),(89,.lit 9)]<|yr 88 21 4<|yr 83 16 4<|yr 78 11 8 []
def IY:Out :=
 .ob (.ai (.mul (.add (.var 59) y1) (.lit 56)) (.lit 140737488355328)) <|
 .ob (.ai y0 (.var 59)) <|
 .ob (.ai (.var 59) (.var 60)) <|
 .ob (.ai (.var 60) (.lit 9223372036854775807)) <|
 .ob (.or (.not (.var 58)) (.aA (.var 59) y0)) <|
 .new 73 [.be (.and (.ai (.add (.var 59) y1) (.var 73)) (.ai (.var 73) (.lit 9223372036854775807)))] <|
 .fin {lo:=73,ah:=4,iv:=yo [(139,yv 70)]<|yr 134 65 5<|yo [(129,yv 73),(128,.add (.var 59) y1),(126,yv 57),(125,yv 56),(122,yv 53),(121,yv 52),(138,yv 69),(119,yv 50),(118,yv 49),(116,yv 47)]<|yr 114 45 4<|yr 109 40 4<|yr 104 35 4<|yr 99 30 13<|yr 85 16 4<|yr 80 11 8 [],bv:=[(136,yw 67),(135,yw 66),(127,.lit false),(124,yw 55),(120,yw 51),(117,yw 48),(115,yw 46),(110,yw 41),(105,yw 36),(100,yw 31),(86,yw 17),(81,yw 12)],ct:=[(139,.up {r:=70,n1:=.add (.var 59) y1,s1:=7,ks:=yN} 0 [⟨0,(.var 59),y0,0,.int .i64 (.var 8)⟩,⟨0,(.var 59),y0,1,.int .i64 (.var 9)⟩,⟨0,(.var 59),y0,2,.int .i64 y0⟩,⟨0,(.var 59),y0,3,.int .i64 y0⟩,⟨0,(.var 59),y0,4,.bool (.lit false)⟩,⟨0,(.var 59),y0,5,.int .i64 (.var 71)⟩,⟨0,(.var 59),y0,6,.int .i64 (.var 72)⟩] y0),(138,yu 69 70 7 yN 0),(137,yu 68 49 5 yW 0),(123,yl 54 9 5 50 yW 0)],bk:=[(6,yc 7 7),(5,yc 2 7),(4,yc 1 5)]}
theorem Yy:exec tab aak 8000 [] (fE jX.f jX.nv [] jX.gl jX.hp jX.args)=IY:=by kernel_rfl
def Db (ρ:Env):Prop:=bH ρ 4∧Nu ρ 4
def EI (ρ:Env):Prop:=bH ρ 73∧aa ρ 0 73=(aa ρ 0 4).note (ρ.iv 71) (ρ.iv 72)
theorem Yz (ρ:Env) (hpre:Db ρ.num):Sat EI [] [] ρ IY:=by
 replace hpre:Db ρ:=hpre
 obtain ⟨⟨o1,o2,o3⟩,hf⟩:=hpre
 have Qx:=o3
 obtain ⟨p1,p2,p3,p4⟩:=o3
 replace hf:ρ.iv 59≤1000000:=hf
 unfold IY
 refine Sat.ob (by simp only [Da];omega) (Sat.ob (decide_eq_true p2) (Sat.ob (decide_eq_true p3) (Sat.ob (decide_eq_true p4) (Sat.ob (df Qx) (Sat.BF (fun q=>bH q 4∧0≤q.iv 59) (fun e=>⟨⟨o1,o2,Qx⟩,p2⟩) fun q hq hb=>?_)))))
 obtain ⟨⟨o1,o2,o3⟩,p2⟩:=hq
 simp only [Da] at hb
 have hn:∀i:Nat,(i:Int)<q.iv 59→¬(q.iv 59).toNat=i:=fun i hi h=>by omega
 refine Sat.fin ⟨⟨ok1,ok2,?_⟩,Eq.trans (b:=(aa q 0 4).note (q.iv 71) (q.iv 72)) (RS.ext' rfl rfl rfl rfl rfl rfl vk GU rfl rfl rfl rfl DN rfl ?_ rfl rfl) (Eq.symm (rfl))⟩
 ·refine ⟨fun h=>(by cases h),?_,?_,?_⟩
  ·show 0≤q.iv 59+1;omega
  ·exact hb.1
  ·exact hb.2
 ·refine (Sb (ρ:=q) (r:=70) (n:=q.iv 59) (w:=⟨Wd.gI (az q 8),q.iv 71,q.iv 72⟩) p2 rfl (fun i hi=>?_) ?_)
  ·simp [bN,aO,-Int.pred_toNat,Sub.ag,assoc,CV.I,CV.B,aj,ak,ae.I,ae.B,SC.I,SC.B,IE.den,BE.den,hn i hi]
  ·simp [bN,aO,az,Wd.gI,-Int.pred_toNat,Sub.ag,assoc,CV.I,CV.B,aj,ak,ae.I,ae.B,SC.I,SC.B,IE.den,BE.den]
theorem YA:bg Tryz.prog jX Db EI :=
 dA dO (E:=aak) (cs:=[]) rfl (fun k pre post h=>by cases h) bX rfl Yy (by kernel_rfl) (fun ρ _ p hp=>by cases hp) Yz
def KY:mO:=[(jI,zk,zl)]
theorem YB:∀k pre post,(k,pre,post)∈KY→ku k=true∧bg Tryz.prog k pre post:=by
 intro k pre post h
 simp only [KY,List.mem_cons,List.not_mem_nil,or_false,Prod.mk.injEq] at h
 obtain ⟨rfl,rfl,rfl⟩:=h
 exact ⟨by kernel_rfl,Ns⟩
noncomputable def Vw:Ex:={sched:=sched,loops:=[],cons:=[jI],fin:=iV}
def EJ:Out :=
 .ob (.or (.not (.var 58)) (.aA (.var 59) y0)) <|
 .ob (.ai y0 (.var 59)) <|
 .br (.ai (.var 3) (.var 59))
 (.call 0 {lo:=0,ah:=0,iv:=yo [(70,yv 70)]<|yr 65 65 7<|yo [(57,yv 57),(56,yv 56)]<|yr 3 3 4<|yo [(53,yv 53),(52,yv 52),(69,yv 69),(50,yv 50),(49,yv 49),(47,yv 47)]<|yr 45 45 4<|yr 40 40 4<|yr 35 35 4<|yr 30 30 13<|yr 16 16 4<|yr 11 11 8 [],bv:=ad5,ct:=ad6,bk:=[(3,yc 3 7),(2,yc 2 7),(1,yc 1 5),(0,yb 0)]} 71 <|
  .fin {lo:=71,ah:=4,iv:=yo [(137,yv 137)]<|yr 132 132 7<|yo [(124,yv 124),(123,yv 123),(120,yv 120),(119,yv 119),(136,yv 136),(117,yv 117),(116,yv 116),(114,yv 114)]<|yr 112 112 4<|yr 107 107 4<|yr 102 102 4<|yr 97 97 13<|yr 83 83 4<|yr 78 78 8 [],bv:=[(134,yw 134),(133,yw 133),(125,yw 125),(122,yw 122),(118,yw 118),(115,yw 115),(113,yw 113),(108,yw 108),(103,yw 103),(98,yw 98),(84,yw 84),(79,yw 79)],ct:=[(137,yu 137 126 7 yN 0),(136,yu 136 137 7 yN 0),(135,yu 135 116 5 yW 0),(121,yl 121 9 5 50 yW 0)],bk:=[(6,yc 6 7),(5,yc 5 7),(4,yc 4 5)]})
 (.fin {lo:=71,ah:=4,iv:=ad7,bv:=ad8,ct:=[(137,yu 70 59 7 yN 0),(121,yl 54 9 5 50 yW 0)],bk:=[(6,yc 3 7)],nb:=[5,4,5,4]})
theorem Vx:exec tab Vw 8000 [] (fE iV.f iV.nv [] iV.gl iV.hp iV.args)=EJ:=by kernel_rfl
def BL (ρ:Env):Prop:=bH ρ 71∧aa ρ 0 71=(aa ρ 0 4).bS
theorem Vy (ρ:Env) (hpre:zk ρ.num):Sat BL KY [] ρ EJ:=by
 replace hpre:zk ρ:=hpre
 obtain ⟨⟨o1,o2,o3⟩,hs⟩:=hpre
 unfold EJ
 have hl:((aa ρ 0 4).notes.length:Int)=ρ.iv 59:=by
  have:=o3.2.1
  show ((aT ρ 70 (ρ.iv 59)).length:Int)=_
  rw [kC]
  exact Int.toNat_of_nonneg this
 refine Sat.ob (df o3) (Sat.ob (decide_eq_true o3.2.1) (Sat.br (fun c=>?_) (fun c=>?_)))
 ·simp only [Da] at c
  have hm:(aa ρ 0 4).bS=(aa ρ 0 4).scan:=if_pos (by rw [hl];exact c)
  refine eU (c:=jI) rfl (aa ρ 0 4) (aa ρ 0 4).scan (by decide) (by decide) (jQ rfl rfl rfl rfl) ⟨⟨o1,o2,o3⟩,hs⟩ aF (fun e hq hr=>⟨hq.1,by rw [←hr];exact hq.2⟩) (fun q=>(bH q 71)∧aa q 0 71=(aa q 0 4).bS) (fun e h1 h2=>⟨h1,h2.trans hm.symm⟩) fun q hq=>?_
  obtain ⟨⟨o1,o2,o3⟩,hm⟩:=hq
  exact Sat.fin ⟨cu,Eq.trans (b:=(aa q 0 71)) aF (Eq.symm hm.symm)⟩
 ·simp only [Da] at c
  have hm:(aa ρ 0 4).bS=(aa ρ 0 4).done:=if_neg (by rw [hl];show ¬ρ.iv 59≥ρ.iv 3;omega)
  exact Sat.fin ⟨cu,Eq.trans (b:=(aa ρ 0 4).done) aF (Eq.symm hm)⟩
theorem Vz:bg Tryz.prog iV zk BL :=
 dA dO (E:=Vw) (cs:=KY) rfl YB bX rfl Vx (by kernel_rfl) (fun ρ _ p hp=>by cases hp) Vy
def IZ:mO:=[(jX,Db,EI),(iV,zk,BL)]
theorem Qy:∀k pre post,(k,pre,post)∈IZ→ku k=true∧bg Tryz.prog k pre post:=by
 intro k pre post h
 simp only [IZ,List.mem_cons,List.not_mem_nil,or_false,Prod.mk.injEq] at h
 rcases h with ⟨rfl,rfl,rfl⟩ | ⟨rfl,rfl,rfl⟩
 ·exact ⟨by kernel_rfl,YA⟩
 ·exact ⟨by kernel_rfl,Vz⟩
noncomputable def Qz:Ex:={sched:=sched,loops:=[],cons:=[jX,iV],fin:=jF}
def BN:Out :=
 .br (.aA (.var 0) (.lit 2))
 (.call 0 {lo:=0,ah:=0,iv:=yo [(70,yv 70)]<|yr 65 65 7<|yo [(57,yv 57),(56,yv 56)]<|yr 3 3 4<|yo [(53,yv 53),(52,yv 52),(69,yv 69),(50,yv 50),(49,yv 49),(47,yv 47)]<|yr 45 45 4<|yr 40 40 4<|yr 35 35 4<|yr 30 30 13<|yr 16 16 4<|yr 11 11 8<|[yz 72,yz 71],bv:=ad5,ct:=ad6,bk:=[(3,yc 3 7),(2,yc 2 7),(1,yc 1 5),(0,yb 0)]} 71 <|
  .call 1 {lo:=0,ah:=0,iv:=yo [(70,yv 137)]<|yr 65 132 7<|yo [(57,yv 124),(56,yv 123)]<|yr 3 3 4<|yo [(53,yv 120),(52,yv 119),(69,yv 136),(50,yv 117),(49,yv 116),(47,yv 114)]<|yr 45 112 4<|yr 40 107 4<|yr 35 102 4<|yr 30 97 13<|yr 16 83 4<|yr 11 78 8 [],bv:=[(67,yw 134),(66,yw 133),(58,yw 125),(55,yw 122),(51,yw 118),(48,yw 115),(46,yw 113),(41,yw 108),(36,yw 103),(31,yw 98),(17,yw 84),(12,yw 79)],ct:=[(70,yu 137 126 7 yN 0),(69,yu 136 137 7 yN 0),(68,yu 135 116 5 yW 0),(54,yl 121 9 5 50 yW 0)],bk:=[(3,yc 6 7),(2,yc 5 7),(1,yc 4 5),(0,yb 0)]} 138 <|
  .fin {lo:=71,ah:=4,iv:=yo [(137,yv 204)]<|yr 132 199 7<|yo [(124,yv 191),(123,yv 190),(120,yv 187),(119,yv 186),(136,yv 203),(117,yv 184),(116,yv 183),(114,yv 181)]<|yr 112 179 4<|yr 107 174 4<|yr 102 169 4<|yr 97 164 13<|yr 83 150 4<|yr 78 145 8 [],bv:=[(134,yw 201),(133,yw 200),(125,yw 192),(122,yw 189),(118,yw 185),(115,yw 182),(113,yw 180),(108,yw 175),(103,yw 170),(98,yw 165),(84,yw 151),(79,yw 146)],ct:=[(137,yu 204 193 7 yN 0),(136,yu 203 204 7 yN 0),(135,yu 202 183 5 yW 0),(121,yl 188 9 5 50 yW 0)],bk:=[(6,yc 9 7),(5,yc 8 7),(4,yc 7 5)]})
 (.br (.aA (.var 0) (.lit 4))
  (.fin {lo:=71,ah:=4,iv:=yo [(137,yv 70)]<|yr 132 65 7<|yo [(124,yv 57),(123,yv 56),(120,yv 53),(119,yv 52),(136,yv 69),(117,yv 50),(116,yv 49),(114,yv 47)]<|yr 112 45 4<|yr 107 40 4<|yo [yz 102,yz 101,yz 100,yz 99,yz 97,yz 96,yz 95,yz 94,(93,.lit 24),yz 92,yz 91,(90,.lit 1),(89,.lit 10)]<|yr 88 21 4<|yr 83 16 4<|yr 78 11 8 [],bv:=Yv,ct:=Yw,bk:=Yx})
  (.br (.aA (.var 0) (.lit 3))
   (.fin {lo:=71,ah:=4,iv:=ad9,bv:=Yv,ct:=Yw,bk:=Yx})
   (.br (.aA (.var 0) (.lit 5))
    (.fin {lo:=71,ah:=4,iv:=ad9,bv:=Yv,ct:=Yw,bk:=Yx})
    (.fin {lo:=71,ah:=4,iv:=ad7,bv:=ad8,ct:=[(137,yu 70 59 7 yN 0),(121,yl 54 9 5 50 yW 0)],bk:=[(6,yc 3 7)],nb:=[5,4,5,4]}))))
theorem SG:exec tab Qz 8000 [] (fE jF.f jF.nv [] jF.gl jF.hp jF.args)=BN:=by kernel_rfl
def vB (ρ:Env):Prop:=bH ρ 4∧xz ρ∧Nu ρ 4
def zm (ρ:Env):Prop:=bH ρ 71∧aa ρ 0 71=(aa ρ 0 4).eQ
theorem SH (ρ:Env) (hpre:vB ρ.num):Sat zm IZ [] ρ BN:=by
 replace hpre:vB ρ:=hpre
 obtain ⟨⟨o1,o2,o3⟩,hs,hf⟩:=hpre
 unfold BN
 refine Sat.br (fun c=>?_) (fun c=>?_)
 ·simp only [Da] at c
  have hm:(aa ρ 0 4).eQ=((aa ρ 0 4).note 0 0).bS:=if_pos c
  refine eU (c:=jX) rfl (aa ρ 0 4) ((aa ρ 0 4).note 0 0) (by decide) (by decide) (jQ rfl rfl rfl rfl) ⟨⟨o1,o2,o3⟩,hf⟩ aF (fun e hq hr=>⟨hq.1,by rw [←hr];exact hq.2⟩) (fun q=>(bH q 71)∧xz q∧aa q 0 71=(aa q 0 4).note 0 0∧(aa q 0 4).eQ=((aa q 0 4).note 0 0).bS) (fun e h1 h2=>⟨h1,hs,h2,hm⟩) fun q hq=>?_
  obtain ⟨⟨o1,o2,o3⟩,hs,hn,hm⟩:=hq
  refine eU (c:=iV) rfl (aa q 0 71) (aa q 0 71).bS (by decide) (by decide) (jQ rfl rfl rfl rfl) ⟨⟨o1,o2,o3⟩,hs⟩ aF (fun e hq hr=>⟨hq.1,by rw [←hr];exact hq.2⟩) (fun u=>(bH u 138)∧aa u 0 138=(aa u 0 4).eQ) (fun e h1 h2=>⟨h1,h2.trans ((congrArg RS.bS hn).trans hm.symm)⟩) fun u hu=>?_
  obtain ⟨⟨o1,o2,o3⟩,hm⟩:=hu
  exact Sat.fin ⟨cu,Eq.trans (b:=(aa u 0 138)) aF (Eq.symm hm.symm)⟩
 ·simp only [Da] at c
  refine Sat.br (fun c2=>?_) (fun c2=>?_)
  ·simp only [Da] at c2
   have hm:(aa ρ 0 4).eQ=(aa ρ 0 4).era 10:=(if_neg c).trans (if_pos c2)
   exact Sat.fin ⟨cu,Eq.trans (b:=(aa ρ 0 4).era 10) aF (Eq.symm hm)⟩
  ·simp only [Da] at c2
   refine Sat.br (fun c3=>?_) (fun c3=>?_)
   ·simp only [Da] at c3
    have hm:(aa ρ 0 4).eQ=(aa ρ 0 4).load 9 (ρ.iv 8) (ρ.iv 9) 9:=(if_neg c).trans ((if_neg c2).trans (if_pos (.inl c3)))
    exact Sat.fin ⟨cu,Eq.trans (b:=(aa ρ 0 4).load 9 (ρ.iv 8) (ρ.iv 9) 9) aF (Eq.symm hm)⟩
   ·simp only [Da] at c3
    refine Sat.br (fun c4=>?_) (fun c4=>?_)
    ·simp only [Da] at c4
     have hm:(aa ρ 0 4).eQ=(aa ρ 0 4).load 9 (ρ.iv 8) (ρ.iv 9) 9:=(if_neg c).trans ((if_neg c2).trans (if_pos (.inr c4)))
     exact Sat.fin ⟨cu,Eq.trans (b:=(aa ρ 0 4).load 9 (ρ.iv 8) (ρ.iv 9) 9) aF (Eq.symm hm)⟩
    ·simp only [Da] at c4
     have hm:(aa ρ 0 4).eQ=(aa ρ 0 4).done:=(if_neg c).trans ((if_neg c2).trans (if_neg (fun h=>h.elim c3 c4)))
     exact Sat.fin ⟨cu,Eq.trans (b:=(aa ρ 0 4).done) aF (Eq.symm hm)⟩
theorem SK:bg Tryz.prog jF vB zm :=
 dA dO (E:=Qz) (cs:=IZ) rfl Qy bX rfl SG (by kernel_rfl) (fun ρ _ p hp=>by cases hp) SH
def GZ (ρ:Env) (v:Nat):Prop:=(-1000000000000≤ρ.iv (v+2)∧ρ.iv (v+2)≤1000000000000)∧-1000000000000≤ρ.iv (v+3)∧ρ.iv (v+3)≤1000000000000
noncomputable def aal:Ex:={sched:=sched,loops:=[],cons:=[jX,iV],fin:=jY}
abbrev aea:List (Nat × CV):=[(143,yu 70 59 7 yN 0),(142,yu 69 70 7 yN 0),(141,yu 68 49 5 yW 0),(127,yl 54 9 5 50 yW 0)]
abbrev aeb:List (Nat × CV):=[(70,yu 70 59 7 yN 0),(69,yu 69 70 7 yN 0),(68,yu 68 49 5 yW 0),(54,yl 54 9 5 50 yW 0)]
abbrev aec:List (Nat × CV):=[(143,yu 143 132 7 yN 0),(142,yu 142 143 7 yN 0),(141,yu 141 122 5 yW 0),(127,yl 127 9 5 50 yW 0)]
def I4:Out :=
 .br (.aA (.var 22) (.lit 9))
 (.fin {lo:=77,ah:=4,iv:=yo [(143,yv 70)]<|yr 138 65 7<|yo [(130,yv 57),(129,yv 56),(126,yv 53),(125,yv 52),(142,yv 69),(123,yv 50),(122,yv 49),(120,yv 47)]<|yr 118 45 4<|yr 113 74 4<|yo [yz 108,yz 107,yz 106,yz 105,yz 103,yz 102,yz 101,yz 100,(99,.lit 24),yz 98,yz 97,(96,.lit 1),(95,.lit 10)]<|yr 94 21 4<|yr 89 16 4<|yr 84 11 8 [],bv:=[(140,yw 67),(139,yw 66),(131,yw 58),(128,yw 55),(124,yw 51),(121,yw 48),(119,yw 46),(114,yw 75),(109,.lit false),(104,.lit false),(90,yw 17),(85,yw 12)],ct:=aea,bk:=[(6,yc 3 7),(5,yc 2 7),(4,yc 1 5)]})
 (.br (.aA (.var 22) (.lit 10))
  (.call 0 {lo:=0,ah:=0,iv:=yo [(70,yv 70)]<|yr 65 65 7<|yo [(57,yv 57),(56,yv 56)]<|yr 3 3 4<|yo [(53,yv 53),(52,yv 52),(69,yv 69),(50,yv 50),(49,yv 49),(47,yv 47)]<|yr 45 74 4<|yr 40 40 4<|yr 35 35 4<|yr 30 30 13<|yr 16 16 4<|yr 11 11 8<|[(72,yv 74),(71,yv 40)],bv:=[(67,yw 67),(66,yw 66),(58,yw 58),(55,yw 55),(51,yw 51),(48,yw 48),(46,yw 75),(41,yw 41),(36,yw 36),(31,yw 31),(17,yw 17),(12,yw 12)],ct:=aeb,bk:=[(3,yc 3 7),(2,yc 2 7),(1,yc 1 5),(0,yb 0)]} 77 <|
   .br (.or (.aA (.var 0) (.lit 3)) (.aA (.var 0) (.lit 5)))
   (.ob (.inr .i64 (.add (.var 117) y1)) <|
    .ob (.inr .i64 (.add (.var 118) y1)) <|
    .fin {lo:=77,ah:=4,iv:=yo [(143,yv 143)]<|yr 138 138 7<|yo [(130,yv 130),(129,yv 129),(126,yv 126),(125,yv 125),(142,yv 142),(123,yv 123),(122,yv 122),(120,yv 120)]<|yr 118 118 4<|yr 113 113 4<|yo [(108,.add (.var 118) y1),(107,.add (.var 117) y1),yz 106,yz 105]<|yr 103 118 4<|yo [(99,.lit 24),yz 98,yz 97,(96,.lit 3),(95,.lit 11)]<|yr 94 94 4<|yr 89 89 4<|yr 84 84 8 [],bv:=[(140,yw 140),(139,yw 139),(131,yw 131),(128,yw 128),(124,yw 124),(121,yw 121),(119,yw 119),(114,yw 114),(109,.lit false),(104,yw 119),(90,yw 90),(85,yw 85)],ct:=aec,bk:=[(6,yc 7 7),(5,yc 6 7),(4,yc 5 5)]})
   (.call 1 {lo:=0,ah:=0,iv:=yo [(70,yv 143)]<|yr 65 138 7<|yo [(57,yv 130),(56,yv 129)]<|yr 3 3 4<|yo [(53,yv 126),(52,yv 125),(69,yv 142),(50,yv 123),(49,yv 122),(47,yv 120)]<|yr 45 118 4<|yr 40 113 4<|yr 35 108 4<|yr 30 103 13<|yr 16 89 4<|yr 11 84 8 [],bv:=[(67,yw 140),(66,yw 139),(58,yw 131),(55,yw 128),(51,yw 124),(48,yw 121),(46,yw 119),(41,yw 114),(36,yw 109),(31,yw 104),(17,yw 90),(12,yw 85)],ct:=[(70,yu 143 132 7 yN 0),(69,yu 142 143 7 yN 0),(68,yu 141 122 5 yW 0),(54,yl 127 9 5 50 yW 0)],bk:=[(3,yc 7 7),(2,yc 6 7),(1,yc 5 5),(0,yb 0)]} 144 <|
    .fin {lo:=77,ah:=4,iv:=yo [(143,yv 210)]<|yr 138 205 7<|yo [(130,yv 197),(129,yv 196),(126,yv 193),(125,yv 192),(142,yv 209),(123,yv 190),(122,yv 189),(120,yv 187)]<|yr 118 185 4<|yr 113 180 4<|yr 108 175 4<|yr 103 170 13<|yr 89 156 4<|yr 84 151 8 [],bv:=[(140,yw 207),(139,yw 206),(131,yw 198),(128,yw 195),(124,yw 191),(121,yw 188),(119,yw 186),(114,yw 181),(109,yw 176),(104,yw 171),(90,yw 157),(85,yw 152)],ct:=[(143,yu 210 199 7 yN 0),(142,yu 209 210 7 yN 0),(141,yu 208 189 5 yW 0),(127,yl 194 9 5 50 yW 0)],bk:=[(6,yc 10 7),(5,yc 9 7),(4,yc 8 5)]}))
  (.br (.aA (.var 22) (.lit 11))
   (.call 1 {lo:=0,ah:=0,iv:=yo [(70,yv 70)]<|yr 65 65 7<|yo [(57,yv 57),(56,yv 56)]<|yr 3 3 4<|yo [(53,yv 53),(52,yv 52),(69,yv 69),(50,yv 50),(49,yv 49),(47,yv 47)]<|yr 45 45 4<|yr 40 40 4<|yr 35 35 4<|yr 30 30 13<|yr 16 16 4<|yr 11 11 8 [],bv:=[(67,yw 67),(66,yw 66),(58,yw 58),(55,yw 55),(51,yw 51),(48,yw 48),(46,yw 46),(41,yw 41),(36,yw 36),(31,yw 31),(17,yw 17),(12,yw 12)],ct:=aeb,bk:=[(3,yc 3 7),(2,yc 2 7),(1,yc 1 5),(0,yb 0)]} 77 <|
    .fin {lo:=77,ah:=4,iv:=yo [(143,yv 143)]<|yr 138 138 7<|yo [(130,yv 130),(129,yv 129),(126,yv 126),(125,yv 125),(142,yv 142),(123,yv 123),(122,yv 122),(120,yv 120)]<|yr 118 118 4<|yr 113 113 4<|yr 108 108 4<|yr 103 103 13<|yr 89 89 4<|yr 84 84 8 [],bv:=[(140,yw 140),(139,yw 139),(131,yw 131),(128,yw 128),(124,yw 124),(121,yw 121),(119,yw 119),(114,yw 114),(109,yw 109),(104,yw 104),(90,yw 90),(85,yw 85)],ct:=aec,bk:=[(6,yc 7 7),(5,yc 6 7),(4,yc 5 5)]})
   (.fin {lo:=77,ah:=4,iv:=yo [(143,yv 70)]<|yr 138 65 7<|yo [(130,yv 57),(129,yv 56),(126,yv 53),(125,yv 52),(142,yv 69),(123,yv 50),(122,yv 49),(120,yv 47)]<|yr 118 45 4<|yr 113 40 4<|yr 108 35 4<|yr 103 30 13<|yr 89 16 4<|yr 84 11 8 [],bv:=[(140,yw 67),(139,yw 66),(131,yw 58),(128,yw 55),(124,yw 51),(121,yw 48),(119,yw 46),(114,yw 41),(109,yw 36),(104,yw 31),(90,yw 17),(85,yw 12)],ct:=aea,bk:=[(6,yc 3 7),(5,yc 2 7),(4,yc 1 5)]})))
theorem YC:exec tab aal 8000 [] (fE jY.f jY.nv [] jY.gl jY.hp jY.args)=I4:=by kernel_rfl
def Dc (ρ:Env):Prop:=bH ρ 4∧xz ρ∧Nu ρ 4∧GZ ρ 71
def EK (ρ:Env):Prop:=bH ρ 77∧aa ρ 0 77=(aa ρ 0 4).ek (aI ρ 71)
theorem YD (ρ:Env) (hpre:Dc ρ.num):Sat EK IZ [] ρ I4:=by
 replace hpre:Dc ρ:=hpre
 obtain ⟨⟨o1,o2,o3⟩,hs,hf,hw⟩:=hpre
 unfold I4
 refine Sat.br (fun c=>?_) (fun c=>?_)
 ·simp only [Da] at c
  have hm:(aa ρ 0 4).ek (aI ρ 71)=({aa ρ 0 4 with word:=az ρ 71}:RS).era 10:=if_pos c
  exact Sat.fin ⟨cu,Eq.trans (b:=({aa ρ 0 4 with word:=az ρ 71}:RS).era 10) aF (Eq.symm hm)⟩
 ·simp only [Da] at c
  refine Sat.br (fun c2=>?_) (fun c2=>?_)
  ·simp only [Da] at c2
   have hm:(aa ρ 0 4).ek (aI ρ 71)=if (aa ρ 0 4).bC then ((({aa ρ 0 4 with clock:=az ρ 71}:RS).note (ρ.iv 40) (ρ.iv 74))).advance 11 else (({aa ρ 0 4 with clock:=az ρ 71}:RS).note (ρ.iv 40) (ρ.iv 74)).bS:=(if_neg c).trans (if_pos c2)
   refine eU (c:=jX) rfl ({aa ρ 0 4 with clock:=az ρ 71}:RS) (({aa ρ 0 4 with clock:=az ρ 71}:RS).note (ρ.iv 40) (ρ.iv 74)) (by decide) (by decide) (jQ rfl rfl rfl rfl) ⟨⟨o1,o2,o3⟩,hf⟩ aF (fun e hq hr=>⟨hq.1,by rw [←hr];exact hq.2⟩) (fun q=>(bH q 77)∧xz q∧GZ q 71∧aa q 0 77=({aa q 0 4 with clock:=az q 71}:RS).note (q.iv 40) (q.iv 74)∧(aa q 0 4).ek (aI q 71)=if (aa q 0 4).bC then ((({aa q 0 4 with clock:=az q 71}:RS).note (q.iv 40) (q.iv 74))).advance 11 else (({aa q 0 4 with clock:=az q 71}:RS).note (q.iv 40) (q.iv 74)).bS) (fun e h1 h2=>⟨h1,hs,hw,h2,hm⟩) fun q hq=>?_
   obtain ⟨⟨o1,o2,o3⟩,hs,hw,hn,hm⟩:=hq
   rw [←hn] at hm
   have hc:az q 115=az q 71:=congrArg RS.clock hn
   have h3:q.iv 117=q.iv 73:=congrArg Wd.tag hc
   have h4:q.iv 118=q.iv 74:=congrArg Wd.num hc
   obtain ⟨⟨w1,w2⟩,w3,w4⟩:=hw
   simp only [Nat.reduceAdd] at w1 w2 w3 w4
   refine Sat.br (fun c3=>?_) (fun c3=>?_)
   ·simp only [Da] at c3
    rw [if_pos (show (aa q 0 4).bC from c3)] at hm
    refine Sat.ob (by simp only [Da];omega) (Sat.ob (by simp only [Da];omega) (Sat.fin ⟨cu,Eq.trans (b:=(aa q 0 77).advance 11) aF (Eq.symm hm)⟩))
   ·simp only [Da] at c3
    rw [if_neg (show ¬(aa q 0 4).bC from fun h:q.iv 0=3∨q.iv 0=5=>by omega)] at hm
    refine eU (c:=iV) rfl (aa q 0 77) (aa q 0 77).bS (by decide) (by decide) (jQ rfl rfl rfl rfl) ⟨⟨o1,o2,o3⟩,hs⟩ aF (fun e hq hr=>⟨hq.1,by rw [←hr];exact hq.2⟩) (fun u=>(bH u 144)∧aa u 0 144=(aa u 0 4).ek (aI u 71)) (fun e h1 h2=>⟨h1,h2.trans hm.symm⟩) fun u hu=>?_
    obtain ⟨⟨o1,o2,o3⟩,hm⟩:=hu
    exact Sat.fin ⟨cu,Eq.trans (b:=(aa u 0 144)) aF (Eq.symm hm.symm)⟩
  ·simp only [Da] at c2
   refine Sat.br (fun c3=>?_) (fun c3=>?_)
   ·simp only [Da] at c3
    have hm:(aa ρ 0 4).ek (aI ρ 71)=(aa ρ 0 4).bS:=(if_neg c).trans ((if_neg c2).trans (if_pos c3))
    refine eU (c:=iV) rfl (aa ρ 0 4) (aa ρ 0 4).bS (by decide) (by decide) (jQ rfl rfl rfl rfl) ⟨⟨o1,o2,o3⟩,hs⟩ aF (fun e hq hr=>⟨hq.1,by rw [←hr];exact hq.2⟩) (fun u=>(bH u 77)∧aa u 0 77=(aa u 0 4).ek (aI u 71)) (fun e h1 h2=>⟨h1,h2.trans hm.symm⟩) fun u hu=>?_
    obtain ⟨⟨o1,o2,o3⟩,hm⟩:=hu
    exact Sat.fin ⟨cu,Eq.trans (b:=(aa u 0 77)) aF (Eq.symm hm.symm)⟩
   ·simp only [Da] at c3
    have hm:(aa ρ 0 4).ek (aI ρ 71)=aa ρ 0 4:=(if_neg c).trans ((if_neg c2).trans (if_neg c3))
    exact Sat.fin ⟨cu,Eq.trans (b:=(aa ρ 0 4)) aF (Eq.symm hm)⟩
theorem YE:bg Tryz.prog jY Dc EK :=
 dA dO (E:=aal) (cs:=IZ) rfl Qy bX rfl YC (by kernel_rfl) (fun ρ _ p hp=>by cases hp) YD
noncomputable def VA:Ex:={sched:=sched,loops:=[],cons:=[gN,gY],fin:=jq}
abbrev YF:List (Nat × BE):=[(140,yw 67),(139,yw 66),(131,yw 58),(128,yw 55),(124,yw 51),(121,yw 48),(119,yw 46),(114,yw 41),(109,.lit false),(104,.lit false),(90,yw 17),(85,yw 12)]
abbrev Nv:List (Nat × CV):=[(143,yu 70 59 7 yN 0),(142,yu 69 70 7 yN 0),(141,yu 68 49 5 yW 0),(127,yl 54 9 5 50 yW 0)]
abbrev BO:List (Nat × SA):=[(6,yc 3 7),(5,yc 2 7),(4,yc 1 5)]
abbrev aed:List (Nat × BE):=[(140,yw 67),(139,yw 66),(131,yw 58),(128,yw 55),(124,yw 51),(121,yw 48),(119,yw 46),(114,yw 75),(109,.lit false),(104,.lit false),(90,yw 17),(85,yw 12)]
abbrev YG:List (Nat × IE):=yr 138 74 4<|yr 134 61 3<|[(130,yv 57),(129,yv 56),yz 126,yz 125,yz 123,yz 122,yz 120,yz 118,yz 117,yz 116,yz 115,yz 113,yz 112,yz 111,yz 110,yz 108,yz 107,yz 106,yz 105,yz 103,yz 102,yz 101,yz 100,yz 99,yz 98,yz 97,yz 96,yz 95,yz 94,yz 93,yz 92,yz 91,yz 89,yz 88,yz 87,yz 86,yz 84,yz 83,yz 82,yz 81,yz 80,yz 79,yz 78,yz 77]
abbrev YH:List (Nat × BE):=[(140,.lit true),(139,yw 75),(131,yw 58),(128,yw 55),(124,.lit true),(121,.lit true),(119,.lit false),(114,.lit false),(109,.lit false),(104,.lit false),(90,.lit false),(85,.lit false)]
abbrev Ny:List (Nat × CV):=[(143,yu 70 59 7 yN 0),(127,yl 54 9 5 50 yW 0)]
abbrev aee:List (Nat × IE):=yr 138 40 4<|yr 134 61 3<|[(130,yv 57),(129,yv 56),yz 126,yz 125,yz 123,yz 122,yz 120,yz 118,yz 117,yz 116,yz 115,yz 113,yz 112,yz 111,yz 110,yz 108,yz 107,yz 106,yz 105,yz 103,yz 102,yz 101,yz 100,yz 99,yz 98,yz 97,yz 96,yz 95,yz 94,yz 93,yz 92,yz 91,yz 89,yz 88,yz 87,yz 86,yz 84,yz 83,yz 82,yz 81,yz 80,yz 79,yz 78,yz 77]
abbrev aef:List (Nat × BE):=[(140,.lit true),(139,yw 41),(131,yw 58),(128,yw 55),(124,.lit true),(121,.lit true),(119,.lit false),(114,.lit false),(109,.lit false),(104,.lit false),(90,.lit false),(85,.lit false)]
abbrev aeg:List (Nat × IE):=yo [(143,yv 70)]<|yr 138 65 7<|yo [(130,yv 57),(129,yv 56),(126,yv 53),(125,yv 52),(142,yv 69),(123,yv 50),(122,yv 49),(120,yv 47)]<|yr 118 45 4<|yr 113 40 4<|yo [(108,yv 74),yz 107,yz 106,yz 105,yz 103,yz 102,yz 101,yz 100,(99,.add (.add (.lit 25) (.mul (.var 1) (.lit 9))) (.var 18)),yz 98,yz 97,(96,.lit 2),(95,.lit 7)]<|yr 94 21 4<|yr 89 16 4<|yr 84 11 8 []
abbrev aeh:List (Nat × CV):=[(143,yu 70 59 7 yN 0),(142,yu 69 70 7 yN 0),(141,yu 68 49 5 yW 0),(127,.up {r:=54,n1:=.lit 9,s1:=5,lo:=50,ks:=yW} 0 [⟨0,(.var 18),y0,4,.bool (.lit false)⟩,⟨0,(.var 18),y0,3,.int .i64 (.var 74)⟩,⟨0,(.var 18),y0,2,.int .i64 y0⟩,⟨0,(.var 18),y0,1,.int .i64 y0⟩,⟨0,(.var 18),y0,0,.int .i64 y0⟩] y0)]
abbrev aei:List (Nat × BE):=[(140,yw 67),(139,yw 66),(131,yw 58),(128,.lit true),(124,yw 51),(121,yw 48),(119,yw 46),(114,yw 41),(109,.lit true),(104,.lit false),(90,yw 17),(85,yw 12)]
def EL:Out :=
 .br (.aA (.var 22) (.lit 7))
 (.fin {lo:=77,ah:=4,iv:=yo [(143,yv 70)]<|yr 138 65 7<|yo [(130,yv 57),(129,yv 56),(126,yv 53),(125,yv 52),(142,yv 69),(123,yv 50),(122,yv 49),(120,yv 47)]<|yr 118 45 4<|yr 113 40 4<|yo [yz 108,yz 107,yz 106,yz 105,yz 103,yz 102,yz 101,yz 100]<|yr 99 7 3<|yo [(96,.lit 1),(95,.lit 5)]<|yr 94 21 4<|yr 89 16 4<|yr 84 11 8 [],bv:=YF,ct:=Nv,bk:=BO})
 (.br (.aA (.var 22) (.lit 5))
  (.br (.or (.aA (.var 0) (.lit 3)) (.aA (.var 0) (.lit 5)))
   (.fin {lo:=77,ah:=4,iv:=yo [(143,yv 70)]<|yr 138 65 7<|yo [(130,yv 57),(129,yv 56),(126,yv 53),(125,yv 52),(142,yv 69),(123,yv 50),(122,yv 49),(120,yv 47)]<|yr 118 45 4<|yr 113 74 4<|yo [yz 108,yz 107,yz 106,yz 105,yz 103,yz 102,yz 101,yz 100,(99,.lit 24),yz 98,yz 97,(96,.lit 1),(95,.lit 6)]<|yr 94 21 4<|yr 89 16 4<|yr 84 11 8 [],bv:=aed,ct:=Nv,bk:=BO})
   (.br (.aA (.var 0) (.lit 2))
    (.ob (.or (.aA (.var 71) y0) (.ai y0 (.var 18))) <|
     .ob (.or (.aA (.var 71) y0) (.bO (.var 18) (.lit 9))) <|
     .br (.not (.aA (.var 71) y0))
     (.br (.not (.and (.aA (.cell 54 (.var 18) y0 0) (.var 71)) (.and (.aA (.cell 54 (.var 18) y0 1) (.var 72)) (.and (.aA (.cell 54 (.var 18) y0 2) y0) (.and (.aA (.cell 54 (.var 18) y0 3) y0) (.not (.cell 54 (.var 18) y0 4)))))))
      (.ob (.ai y0 (.var 18)) <|
       .ob (.bO (.var 18) (.lit 9)) <|
       .call 0 {lo:=0,ah:=0,iv:=[(1,yv 18),(0,yv 1)]} 77 <|
       .fin {lo:=77,ah:=4,iv:=yo [(143,yv 70)]<|yr 138 65 7<|yo [(130,yv 57),(129,yv 56),(126,yv 53),(125,yv 52),(142,yv 69),(123,yv 50),(122,yv 49),(120,yv 47)]<|yr 118 45 4<|yr 113 74 4<|yo [yz 108,yz 107,(106,yv 72),(105,yv 71),yz 103,yz 102,yz 101,yz 100,(99,.add (.add (.lit 25) (.mul (.var 1) (.lit 9))) (.var 18)),yz 98,yz 97,(96,.lit 2),(95,.lit 7)]<|yr 94 21 4<|yr 89 16 4<|yr 84 11 8 [],bv:=aed,ct:=[(143,yu 70 59 7 yN 0),(142,yu 69 70 7 yN 0),(141,yu 68 49 5 yW 0),(127,.up {r:=54,n1:=.lit 9,s1:=5,lo:=50,ks:=yW} 0 [⟨0,(.var 18),y0,4,.bool (.lit false)⟩,⟨0,(.var 18),y0,3,.int .i64 y0⟩,⟨0,(.var 18),y0,2,.int .i64 y0⟩,⟨0,(.var 18),y0,1,.int .i64 (.var 72)⟩,⟨0,(.var 18),y0,0,.int .i64 (.var 71)⟩] y0)],bk:=BO})
      (.fin {lo:=77,ah:=4,iv:=YG,bv:=YH,ct:=Ny,bk:=[(6,yc 3 7)],nb:=[5,4,5,4]}))
     (.fin {lo:=77,ah:=4,iv:=YG,bv:=YH,ct:=Ny,bk:=[(6,yc 3 7)],nb:=[5,4,5,4]}))
    (.fin {lo:=77,ah:=4,iv:=YG,bv:=YH,ct:=Ny,bk:=[(6,yc 3 7)],nb:=[5,4,5,4]})))
  (.br (.aA (.var 22) (.lit 6))
   (.br (.aA (.var 0) (.lit 3))
    (.ob (.ai y0 (.var 18)) <|
     .ob (.bO (.var 18) (.lit 9)) <|
     .br (.not (.and (.aA (.cell 54 (.var 18) y0 0) y0) (.and (.aA (.cell 54 (.var 18) y0 1) y0) (.and (.aA (.cell 54 (.var 18) y0 2) y0) (.and (.aA (.cell 54 (.var 18) y0 3) y0) (.not (.cell 54 (.var 18) y0 4)))))))
     (.br (.aA (.cell 54 (.var 18) y0 3) (.var 74))
      (.fin {lo:=77,ah:=4,iv:=aee,bv:=aef,ct:=Ny,bk:=[(6,yc 3 7)],nb:=[5,4,5,4]})
      (.call 0 {lo:=0,ah:=0,iv:=[(1,yv 18),(0,yv 1)]} 77 <|
       .fin {lo:=77,ah:=4,iv:=aeg,bv:=YF,ct:=aeh,bk:=BO}))
     (.call 0 {lo:=0,ah:=0,iv:=[(1,yv 18),(0,yv 1)]} 77 <|
      .fin {lo:=77,ah:=4,iv:=aeg,bv:=YF,ct:=aeh,bk:=BO}))
    (.br (.and (.var 55) (.aA (.var 57) (.var 74)))
     (.fin {lo:=77,ah:=4,iv:=aee,bv:=aef,ct:=Ny,bk:=[(6,yc 3 7)],nb:=[5,4,5,4]})
     (.br (.var 55)
      (.call 1 {lo:=0,ah:=0,iv:=[(0,yv 1)]} 77 <|
       .fin {lo:=77,ah:=4,iv:=yo [(143,yv 70)]<|yr 138 65 7<|yo [(130,yv 74),(129,yv 56),(126,yv 53),(125,yv 52),(142,yv 69),(123,yv 50),(122,yv 49),(120,yv 47)]<|yr 118 45 4<|yr 113 40 4<|yo [(108,yv 56),(107,yv 74),yz 106,yz 105,yz 103,yz 102,yz 101,yz 100,(99,.add (.lit 79) (.var 1)),yz 98,yz 97,(96,.lit 2),(95,.lit 7)]<|yr 94 21 4<|yr 89 16 4<|yr 84 11 8 [],bv:=aei,ct:=Nv,bk:=BO})
      (.call 1 {lo:=0,ah:=0,iv:=[(0,yv 1)]} 77 <|
       .fin {lo:=77,ah:=4,iv:=yo [(143,yv 70)]<|yr 138 65 7<|yo [(130,yv 74),(129,yv 74),(126,yv 53),(125,yv 52),(142,yv 69),(123,yv 50),(122,yv 49),(120,yv 47)]<|yr 118 45 4<|yr 113 40 4<|yo [(108,yv 74),(107,yv 74),yz 106,yz 105,yz 103,yz 102,yz 101,yz 100,(99,.add (.lit 79) (.var 1)),yz 98,yz 97,(96,.lit 2),(95,.lit 7)]<|yr 94 21 4<|yr 89 16 4<|yr 84 11 8 [],bv:=aei,ct:=Nv,bk:=BO}))))
   (.fin {lo:=77,ah:=4,iv:=yo [(143,yv 70)]<|yr 138 65 7<|yo [(130,yv 57),(129,yv 56),(126,yv 53),(125,yv 52),(142,yv 69),(123,yv 50),(122,yv 49),(120,yv 47)]<|yr 118 45 4<|yr 113 40 4<|yr 108 35 4<|yr 103 30 13<|yr 89 16 4<|yr 84 11 8 [],bv:=[(140,yw 67),(139,yw 66),(131,yw 58),(128,yw 55),(124,yw 51),(121,yw 48),(119,yw 46),(114,yw 41),(109,yw 36),(104,yw 31),(90,yw 17),(85,yw 12)],ct:=Nv,bk:=BO})))
theorem VB:exec tab VA 8000 [] (fE jq.f jq.nv [] jq.gl jq.hp jq.args)=EL:=by kernel_rfl
def zn (ρ:Env):Prop:=bH ρ 4∧xz ρ∧0≤ρ.iv 18∧ρ.iv 18<9
def BQ (ρ:Env):Prop:=bH ρ 77∧aa ρ 0 77=(aa ρ 0 4).bB (aI ρ 71)
set_option maxHeartbeats 4000000 in
theorem VC (ρ:Env) (hpre:zn ρ.num):Sat BQ BK [] ρ EL:=by
 replace hpre:zn ρ:=hpre
 obtain ⟨⟨o1,o2,o3⟩,⟨s1,s2,s3,s4⟩,n1,n2⟩:=hpre
 unfold EL
 refine Sat.br (fun c=>?_) (fun c=>?_)
 ·simp only [Da] at c
  have hm:(aa ρ 0 4).bB (aI ρ 71)=(aa ρ 0 4).load 5 (ρ.iv 5) (ρ.iv 6) (ρ.iv 7):=if_pos c
  exact Sat.fin ⟨cu,Eq.trans (b:=(aa ρ 0 4).load 5 (ρ.iv 5) (ρ.iv 6) (ρ.iv 7)) aF (Eq.symm hm)⟩
 simp only [Da] at c
 refine Sat.br (fun c2=>?_) (fun c2=>?_)
 ·simp only [Da] at c2
  refine Sat.br (fun c3=>?_) (fun c3=>?_)
  ·simp only [Da] at c3
   have hm:(aa ρ 0 4).bB (aI ρ 71)=({aa ρ 0 4 with word:=az ρ 71}:RS).era 6:=(if_neg c).trans ((if_pos c2).trans (if_pos c3))
   exact Sat.fin ⟨cu,Eq.trans (b:=({aa ρ 0 4 with word:=az ρ 71}:RS).era 6) aF (Eq.symm hm)⟩
  simp only [Da] at c3
  have nd:¬(aa ρ 0 4).bC:=fun h:ρ.iv 0=3∨ρ.iv 0=5=>by omega
  refine Sat.br (fun c4=>?_) (fun c4=>?_)
  ·simp only [Da] at c4
   refine Sat.ob (by simp only [Da];omega) (Sat.ob (by simp only [Da];omega) (Sat.br (fun c5=>?_) (fun c5=>?_)))
   ·simp only [Da] at c5
    refine Sat.br (fun c6=>?_) (fun c6=>?_)
    ·simp only [Da] at c6
     have hne:(aa ρ 0 4).holds (ρ.iv 18).toNat≠Wd.gI (az ρ 71):=fun h=>by
      have h':=pX.1 h
      simp only [aa,aO,Wd.gI,az] at h'
      simp_all
     have hm:(aa ρ 0 4).bB (aI ρ 71)=({aa ρ 0 4 with word:=az ρ 71}:RS).post 7 (ρ.iv 18) (Wd.gI (az ρ 71)):=(if_neg c).trans ((if_pos c2).trans ((if_neg nd).trans (if_pos ⟨c4,c5,hne⟩)))
     refine Sat.ob (decide_eq_true n1) (Sat.ob (by simp only [Da];omega) (Sat.jk (c:=gN) rfl ⟨⟨s1,s2⟩,n1,n2⟩ (fun r=>((bH r 4)∧0≤r.iv 18)∧(aa r 0 4).bB (aI r 71)=({aa r 0 4 with word:=az r 71}:RS).post 7 (r.iv 18) (Wd.gI (az r 71))) (fun e _=>⟨⟨⟨o1,o2,o3⟩,n1⟩,hm⟩) fun r hr=>?_))
     obtain ⟨⟨⟨o1,o2,o3⟩,i1⟩,hm⟩:=hr
     refine Sat.fin ⟨cu,Eq.trans (b:=({aa r 0 4 with word:=az r 71}:RS).post 7 (r.iv 18) (Wd.gI (az r 71))) (RS.ext' rfl rfl rfl rfl rfl rfl vk GU rfl rfl rfl rfl ?_ rfl zX rfl rfl) (Eq.symm hm)⟩
     intro i
     show _=if i=(r.iv 18).toNat then Wd.gI (az r 71) else aO (r.ic 54 i 0) (r.bc 54 i 0)
     by_cases h:i=(r.iv 18).toNat
     ·subst h
      simp [aa,aO,Wd.gI,az,-Int.pred_toNat,Sub.ag,assoc,CV.I,CV.B,aj,ak,ae.I,ae.B,SC.I,SC.B,IE.den,BE.den]
     ·simp [aa,aO,-Int.pred_toNat,Sub.ag,assoc,CV.I,CV.B,aj,ak,ae.I,ae.B,SC.I,SC.B,IE.den,BE.den,h,Ne.symm h]
    ·simp only [Da] at c6
     have he:(aa ρ 0 4).holds (ρ.iv 18).toNat=Wd.gI (az ρ 71):=by
      apply pX.2
      simp only [aa,aO,Wd.gI,az]
      simp_all
     have hm:(aa ρ 0 4).bB (aI ρ 71)=(aa ρ 0 4).finish ⟨az ρ 71,true⟩:=(if_neg c).trans ((if_pos c2).trans ((if_neg nd).trans (if_neg (fun h=>h.2.2 he))))
     exact Sat.fin ⟨cu,Eq.trans (b:=(aa ρ 0 4).finish ⟨az ρ 71,true⟩) aF (Eq.symm hm)⟩
   ·simp only [Da] at c5
    have hm:(aa ρ 0 4).bB (aI ρ 71)=(aa ρ 0 4).finish ⟨az ρ 71,true⟩:=(if_neg c).trans ((if_pos c2).trans ((if_neg nd).trans (if_neg (fun h=>h.2.1 c5))))
    exact Sat.fin ⟨cu,Eq.trans (b:=(aa ρ 0 4).finish ⟨az ρ 71,true⟩) aF (Eq.symm hm)⟩
  ·simp only [Da] at c4
   have hm:(aa ρ 0 4).bB (aI ρ 71)=(aa ρ 0 4).finish ⟨az ρ 71,true⟩:=(if_neg c).trans ((if_pos c2).trans ((if_neg nd).trans (if_neg (fun h=>c4 h.1))))
   exact Sat.fin ⟨cu,Eq.trans (b:=(aa ρ 0 4).finish ⟨az ρ 71,true⟩) aF (Eq.symm hm)⟩
 simp only [Da] at c2
 refine Sat.br (fun c3=>?_) (fun c3=>?_)
 ·simp only [Da] at c3
  have h0:(aa ρ 0 4).bB (aI ρ 71)=if (aa ρ 0 4).dN (ρ.iv 18) (ρ.iv 74) then (aa ρ 0 4).finish ⟨az ρ 37,true⟩ else if (aa ρ 0 4).af=3 then (aa ρ 0 4).post 7 (ρ.iv 18) (Wd.dM (ρ.iv 74)) else (aa ρ 0 4).eF 7 ⟨true,if (aa ρ 0 4).span.is=true then (aa ρ 0 4).span.low else ρ.iv 74,ρ.iv 74⟩:=(if_neg c).trans ((if_neg c2).trans (if_pos c3))
  refine Sat.br (fun c4=>?_) (fun c4=>?_)
  ·simp only [Da] at c4
   refine Sat.ob (decide_eq_true n1) (Sat.ob (by simp only [Da];omega) (Sat.br (fun c5=>?_) (fun c5=>?_)))
   ·simp only [Da] at c5
    have hne:(aa ρ 0 4).holds (ρ.iv 18).toNat≠Wd.zero:=fun h=>by
     have h':=pX.1 h
     simp only [aa,aO,Wd.zero] at h'
     simp_all
    refine Sat.br (fun c6=>?_) (fun c6=>?_)
    ·simp only [Da] at c6
     have hcv:(aa ρ 0 4).dN (ρ.iv 18) (ρ.iv 74):=by unfold RS.dN;rw [if_pos (show (aa ρ 0 4).af=3 from c4)];exact ⟨hne,c6⟩
     have hm:(aa ρ 0 4).bB (aI ρ 71)=(aa ρ 0 4).finish ⟨az ρ 37,true⟩:=h0.trans (if_pos hcv)
     exact Sat.fin ⟨cu,Eq.trans (b:=(aa ρ 0 4).finish ⟨az ρ 37,true⟩) aF (Eq.symm hm)⟩
    ·simp only [Da] at c6
     have hcv:¬(aa ρ 0 4).dN (ρ.iv 18) (ρ.iv 74):=by unfold RS.dN;rw [if_pos (show (aa ρ 0 4).af=3 from c4)];exact fun h=>c6 h.2
     have hm:(aa ρ 0 4).bB (aI ρ 71)=(aa ρ 0 4).post 7 (ρ.iv 18) (Wd.dM (ρ.iv 74)):=h0.trans ((if_neg hcv).trans (if_pos c4))
     refine Sat.jk (c:=gN) rfl ⟨⟨s1,s2⟩,n1,n2⟩ (fun r=>((bH r 4)∧0≤r.iv 18)∧(aa r 0 4).bB (aI r 71)=(aa r 0 4).post 7 (r.iv 18) (Wd.dM (r.iv 74))) (fun e _=>⟨⟨⟨o1,o2,o3⟩,n1⟩,hm⟩) fun r hr=>?_
     obtain ⟨⟨⟨o1,o2,o3⟩,i1⟩,hm⟩:=hr
     refine Sat.fin ⟨cu,Eq.trans (b:=(aa r 0 4).post 7 (r.iv 18) (Wd.dM (r.iv 74))) (RS.ext' rfl rfl rfl rfl rfl rfl vk GU rfl rfl rfl rfl ?_ rfl zX rfl rfl) (Eq.symm hm)⟩
     intro i
     show _=if i=(r.iv 18).toNat then Wd.dM (r.iv 74) else aO (r.ic 54 i 0) (r.bc 54 i 0)
     by_cases h:i=(r.iv 18).toNat
     ·subst h
      simp [aa,aO,Wd.dM,az,-Int.pred_toNat,Sub.ag,assoc,CV.I,CV.B,aj,ak,ae.I,ae.B,SC.I,SC.B,IE.den,BE.den]
     ·simp [aa,aO,-Int.pred_toNat,Sub.ag,assoc,CV.I,CV.B,aj,ak,ae.I,ae.B,SC.I,SC.B,IE.den,BE.den,h,Ne.symm h]
   ·simp only [Da] at c5
    have he:(aa ρ 0 4).holds (ρ.iv 18).toNat=Wd.zero:=by
     apply pX.2
     simp only [aa,aO,Wd.zero]
     simp_all
    have hcv:¬(aa ρ 0 4).dN (ρ.iv 18) (ρ.iv 74):=by unfold RS.dN;rw [if_pos (show (aa ρ 0 4).af=3 from c4)];exact fun h=>h.1 he
    have hm:(aa ρ 0 4).bB (aI ρ 71)=(aa ρ 0 4).post 7 (ρ.iv 18) (Wd.dM (ρ.iv 74)):=h0.trans ((if_neg hcv).trans (if_pos c4))
    refine Sat.jk (c:=gN) rfl ⟨⟨s1,s2⟩,n1,n2⟩ (fun r=>((bH r 4)∧0≤r.iv 18)∧(aa r 0 4).bB (aI r 71)=(aa r 0 4).post 7 (r.iv 18) (Wd.dM (r.iv 74))) (fun e _=>⟨⟨⟨o1,o2,o3⟩,n1⟩,hm⟩) fun r hr=>?_
    obtain ⟨⟨⟨o1,o2,o3⟩,i1⟩,hm⟩:=hr
    refine Sat.fin ⟨cu,Eq.trans (b:=(aa r 0 4).post 7 (r.iv 18) (Wd.dM (r.iv 74))) (RS.ext' rfl rfl rfl rfl rfl rfl vk GU rfl rfl rfl rfl ?_ rfl zX rfl rfl) (Eq.symm hm)⟩
    intro i
    show _=if i=(r.iv 18).toNat then Wd.dM (r.iv 74) else aO (r.ic 54 i 0) (r.bc 54 i 0)
    by_cases h:i=(r.iv 18).toNat
    ·subst h
     simp [aa,aO,Wd.dM,az,-Int.pred_toNat,Sub.ag,assoc,CV.I,CV.B,aj,ak,ae.I,ae.B,SC.I,SC.B,IE.den,BE.den]
    ·simp [aa,aO,-Int.pred_toNat,Sub.ag,assoc,CV.I,CV.B,aj,ak,ae.I,ae.B,SC.I,SC.B,IE.den,BE.den,h,Ne.symm h]
  ·simp only [Da] at c4
   refine Sat.br (fun c5=>?_) (fun c5=>?_)
   ·simp only [Da] at c5
    have hcv:(aa ρ 0 4).dN (ρ.iv 18) (ρ.iv 74):=by unfold RS.dN;rw [if_neg (show ¬(aa ρ 0 4).af=3 from c4)];exact c5
    have hm:(aa ρ 0 4).bB (aI ρ 71)=(aa ρ 0 4).finish ⟨az ρ 37,true⟩:=h0.trans (if_pos hcv)
    exact Sat.fin ⟨cu,Eq.trans (b:=(aa ρ 0 4).finish ⟨az ρ 37,true⟩) aF (Eq.symm hm)⟩
   ·simp only [Da] at c5
    have hcv:¬(aa ρ 0 4).dN (ρ.iv 18) (ρ.iv 74):=by
     unfold RS.dN
     rw [if_neg (show ¬(aa ρ 0 4).af=3 from c4)]
     rintro ⟨h1,h2⟩
     rcases c5 with h | h
     ·rw [show ρ.bv 55=true from h1] at h;cases h
     ·exact h h2
    refine Sat.br (fun c6=>?_) (fun c6=>?_)
    ·simp only [Da] at c6
     have hm:(aa ρ 0 4).bB (aI ρ 71)=(aa ρ 0 4).eF 7 ⟨true,ρ.iv 56,ρ.iv 74⟩:=by
      rw [h0,if_neg hcv,if_neg (show ¬(aa ρ 0 4).af=3 from c4),if_pos (show (aa ρ 0 4).span.is=true from c6)]
      rfl
     refine Sat.jk (c:=gY) rfl ⟨s1,s2⟩ (fun r=>(bH r 4)∧(aa r 0 4).bB (aI r 71)=(aa r 0 4).eF 7 ⟨true,r.iv 56,r.iv 74⟩) (fun e _=>⟨⟨o1,o2,o3⟩,hm⟩) fun r hr=>?_
     obtain ⟨⟨o1,o2,o3⟩,hm⟩:=hr
     exact Sat.fin ⟨cu,Eq.trans (b:=(aa r 0 4).eF 7 ⟨true,r.iv 56,r.iv 74⟩) aF (Eq.symm hm)⟩
    ·simp only [Da] at c6
     have hm:(aa ρ 0 4).bB (aI ρ 71)=(aa ρ 0 4).eF 7 ⟨true,ρ.iv 74,ρ.iv 74⟩:=by
      rw [h0,if_neg hcv,if_neg (show ¬(aa ρ 0 4).af=3 from c4),if_neg (show ¬(aa ρ 0 4).span.is=true from fun h=>by rw [show ρ.bv 55=true from h] at c6;cases c6)]
     refine Sat.jk (c:=gY) rfl ⟨s1,s2⟩ (fun r=>(bH r 4)∧(aa r 0 4).bB (aI r 71)=(aa r 0 4).eF 7 ⟨true,r.iv 74,r.iv 74⟩) (fun e _=>⟨⟨o1,o2,o3⟩,hm⟩) fun r hr=>?_
     obtain ⟨⟨o1,o2,o3⟩,hm⟩:=hr
     exact Sat.fin ⟨cu,Eq.trans (b:=(aa r 0 4).eF 7 ⟨true,r.iv 74,r.iv 74⟩) aF (Eq.symm hm)⟩
 ·simp only [Da] at c3
  have hm:(aa ρ 0 4).bB (aI ρ 71)=aa ρ 0 4:=(if_neg c).trans ((if_neg c2).trans (if_neg c3))
  exact Sat.fin ⟨cu,Eq.trans (b:=(aa ρ 0 4)) aF (Eq.symm hm)⟩
theorem VD:bg Tryz.prog jq zn BQ :=
 dA dO (E:=VA) (cs:=BK) rfl IU bX rfl VB (by kernel_rfl) (fun ρ _ p hp=>by cases hp) VC
def SL:mO:=[(iU,oD,vz),(gN,xx,nO),(jI,zk,zl),(jF,vB,zm)]
theorem abS:∀k pre post,(k,pre,post)∈SL→ku k=true∧bg Tryz.prog k pre post:=by
 intro k pre post h
 simp only [SL,List.mem_cons,List.not_mem_nil,or_false,Prod.mk.injEq] at h
 rcases h with ⟨rfl,rfl,rfl⟩ | ⟨rfl,rfl,rfl⟩ | ⟨rfl,rfl,rfl⟩ | ⟨rfl,rfl,rfl⟩
 ·exact ⟨by kernel_rfl,Ki⟩
 ·exact ⟨by kernel_rfl,Nk⟩
 ·exact ⟨by kernel_rfl,Ns⟩
 ·exact ⟨by kernel_rfl,SK⟩
noncomputable def aam:Ex:={sched:=sched,loops:=[],cons:=[iU,gN,jI,jF],fin:=mi}
abbrev Nz:List (Nat × BE):=[(134,yw 67),(133,yw 66),(125,yw 58),(122,yw 55),(118,yw 51),(115,yw 48),(113,yw 46),(108,yw 41),(103,.lit false),(98,.lit false),(84,yw 17),(79,yw 12)]
abbrev zo:List (Nat × CV):=[(137,yu 70 59 7 yN 0),(136,yu 69 70 7 yN 0),(135,yu 68 49 5 yW 0),(121,yl 54 9 5 50 yW 0)]
abbrev wE:List (Nat × SA):=[(6,yc 3 7),(5,yc 2 7),(4,yc 1 5)]
abbrev aej:List (Nat × IE):=yo [yz 132,yz 131,yz 130,yz 129]<|yr 128 61 3<|[(124,yv 57),(123,yv 56),yz 120,yz 119,yz 117,yz 116,yz 114,yz 112,yz 111,yz 110,yz 109,yz 107,yz 106,yz 105,yz 104,yz 102,yz 101,yz 100,yz 99,yz 97,yz 96,yz 95,yz 94,yz 93,yz 92,yz 91,yz 90,yz 89,yz 88,yz 87,yz 86,yz 85,yz 83,yz 82,yz 81,yz 80,yz 78,yz 77,yz 76,yz 75,yz 74,yz 73,yz 72,yz 71]
abbrev aek:List (Nat × BE):=[(134,.lit true),(133,.lit false),(125,yw 58),(122,yw 55),(118,.lit true),(115,.lit true),(113,.lit false),(108,.lit false),(103,.lit false),(98,.lit false),(84,.lit false),(79,.lit false)]
abbrev YI:List (Nat × BE):=[(67,yw 67),(66,yw 66),(58,yw 58),(55,yw 55),(51,yw 51),(48,yw 48),(46,yw 46),(41,yw 41),(36,yw 36),(31,yw 31),(17,yw 17),(12,yw 12)]
abbrev YJ:List (Nat × CV):=[(70,yu 70 59 7 yN 0),(69,yu 69 70 7 yN 0),(68,yu 68 49 5 yW 0),(54,yl 54 9 5 50 yW 0)]
abbrev YK:List (Nat × SA):=[(3,yc 3 7),(2,yc 2 7),(1,yc 1 5),(0,yb 0)]
abbrev YL:List (Nat × IE):=yo [(137,yv 137)]<|yr 132 132 7<|yo [(124,yv 124),(123,yv 123),(120,yv 120),(119,yv 119),(136,yv 136),(117,yv 117),(116,yv 116),(114,yv 114)]<|yr 112 112 4<|yr 107 107 4<|yr 102 102 4<|yr 97 97 13<|yr 83 83 4<|yr 78 78 8 []
abbrev YM:List (Nat × BE):=[(134,yw 134),(133,yw 133),(125,yw 125),(122,yw 122),(118,yw 118),(115,yw 115),(113,yw 113),(108,yw 108),(103,yw 103),(98,yw 98),(84,yw 84),(79,yw 79)]
abbrev YN:List (Nat × CV):=[(137,yu 137 126 7 yN 0),(136,yu 136 137 7 yN 0),(135,yu 135 116 5 yW 0),(121,yl 121 9 5 50 yW 0)]
abbrev YO:List (Nat × SA):=[(6,yc 7 7),(5,yc 6 7),(4,yc 5 5)]
abbrev ael:List (Nat × BE):=[(134,yw 67),(133,yw 66),(125,yw 58),(122,yw 55),(118,yw 51),(115,yw 48),(113,yw 46),(108,yw 41),(103,yw 17),(98,yw 12),(84,yw 17),(79,yw 12)]
abbrev aem:List (Nat × IE):=yo [(70,yv 70)]<|yr 65 65 7<|yo [(57,yv 57),(56,yv 56)]<|yr 3 3 4<|yo [(53,yv 53),(52,yv 52),(69,yv 69),(50,yv 50),(49,yv 49),(47,yv 47)]<|yr 45 45 4<|yr 40 40 4<|yr 35 35 4<|yr 30 30 13<|yr 16 16 4<|yr 11 11 8 []
def I5:Out :=
 .br (.aA (.var 4) y1)
 (.br (.or (.aA (.var 0) (.lit 4)) (.aA (.var 0) (.lit 5)))
  (.fin {lo:=71,ah:=4,iv:=yo [(137,yv 70)]<|yr 132 65 7<|yo [(124,yv 57),(123,yv 56),(120,yv 53),(119,yv 52),(136,yv 69),(117,yv 50),(116,yv 49),(114,yv 47)]<|yr 112 45 4<|yr 107 40 4<|yo [yz 102,yz 101,yz 100,yz 99,yz 97,yz 96,yz 95,yz 94,(93,.lit 24),yz 92,yz 91,(90,.lit 1),(89,.lit 3)]<|yr 88 21 4<|yr 83 16 4<|yr 78 11 8 [],bv:=Nz,ct:=zo,bk:=wE})
  (.fin {lo:=71,ah:=4,iv:=aej,bv:=aek,ct:=[(137,yu 70 59 7 yN 0),(121,yl 54 9 5 50 yW 0)],bk:=[(6,yc 3 7)],nb:=[5,4,5,4]}))
 (.br (.aA (.var 4) (.lit 2))
  (.call 0 {lo:=0,ah:=0,iv:=yo [(70,yv 70)]<|yr 65 65 7<|yo [(57,yv 57),(56,yv 56)]<|yr 3 3 4<|yo [(53,yv 53),(52,yv 52),(69,yv 69),(50,yv 50),(49,yv 49),(47,yv 47)]<|yr 45 45 4<|yr 40 40 4<|yr 35 35 4<|yr 30 30 13<|yr 16 16 4<|yr 11 11 8<|[yz 71],bv:=YI,ct:=YJ,bk:=YK} 71 <|
   .fin {lo:=71,ah:=4,iv:=YL,bv:=YM,ct:=YN,bk:=YO})
  (.br (.aA (.var 4) (.lit 3))
   (.fin {lo:=71,ah:=4,iv:=yo [(137,yv 70)]<|yr 132 65 7<|yo [(124,yv 57),(123,yv 56),(120,yv 53),(119,yv 52),(136,yv 69),(117,yv 50),(116,yv 49),(114,yv 47)]<|yr 112 45 4<|yr 107 40 4<|yo [yz 102,yz 101,yz 100,yz 99,yz 97,yz 96,yz 95,yz 94]<|yr 93 7 3<|yo [(90,.lit 1),(89,.lit 1)]<|yr 88 21 4<|yr 83 16 4<|yr 78 11 8 [],bv:=Nz,ct:=zo,bk:=wE})
   (.br (.aA (.var 4) (.lit 4))
    (.fin {lo:=71,ah:=4,iv:=yo [(137,yv 70)]<|yr 132 65 7<|yo [(124,yv 57),(123,yv 56),(120,yv 53),(119,yv 52),(136,yv 69),(117,yv 50),(116,yv 49),(114,yv 47)]<|yr 112 45 4<|yr 107 40 4<|yr 102 16 4<|yr 97 11 7<|yo [(90,.lit 2),(89,.lit 1)]<|yr 88 21 4<|yr 83 16 4<|yr 78 11 8 [],bv:=ael,ct:=zo,bk:=wE})
    (.br (.aA (.var 4) (.lit 5))
     (.fin {lo:=71,ah:=4,iv:=yo [(137,yv 70)]<|yr 132 65 7<|yo [(124,yv 57),(123,yv 56),(120,yv 53),(119,yv 52),(136,yv 69),(117,yv 50),(116,yv 49),(114,yv 47)]<|yr 112 45 4<|yr 107 40 4<|yr 102 16 4<|yr 97 11 7<|yo [(90,.lit 3),(89,.lit 1)]<|yr 88 21 4<|yr 83 16 4<|yr 78 11 8 [],bv:=ael,ct:=zo,bk:=wE})
     (.br (.aA (.var 4) (.lit 6))
      (.fin {lo:=71,ah:=4,iv:=yo [(137,yv 70)]<|yr 132 65 7<|yo [(124,yv 57),(123,yv 56),(120,yv 53),(119,yv 52),(136,yv 69),(117,yv 50),(116,yv 49),(114,yv 47)]<|yr 112 45 4<|yr 107 40 4<|yo [yz 102,yz 101,yz 100,yz 99,yz 97,yz 96,yz 95,yz 94]<|yr 93 7 3<|yo [(90,.lit 1),(89,.lit 5)]<|yr 88 21 4<|yr 83 16 4<|yr 78 11 8 [],bv:=Nz,ct:=zo,bk:=wE})
      (.br (.aA (.var 4) (.lit 7))
       (.ob (.or (.not (.or (.aA (.var 0) (.lit 2)) (.aA (.var 0) (.lit 3)))) (.ai y0 (.var 18))) <|
        .ob (.or (.not (.or (.aA (.var 0) (.lit 2)) (.aA (.var 0) (.lit 3)))) (.bO (.var 18) (.lit 9))) <|
        .ob (.or (.not (.or (.aA (.var 0) (.lit 2)) (.aA (.var 0) (.lit 3)))) (.ai y0 (.var 19))) <|
        .ob (.or (.not (.or (.aA (.var 0) (.lit 2)) (.aA (.var 0) (.lit 3)))) (.bO (.var 19) (.lit 9))) <|
        .br (.and (.or (.aA (.var 0) (.lit 2)) (.aA (.var 0) (.lit 3))) (.not (.and (.aA (.cell 54 (.var 18) y0 0) (.cell 54 (.var 19) y0 0)) (.and (.aA (.cell 54 (.var 18) y0 1) (.cell 54 (.var 19) y0 1)) (.and (.aA (.cell 54 (.var 18) y0 2) (.cell 54 (.var 19) y0 2)) (.and (.aA (.cell 54 (.var 18) y0 3) (.cell 54 (.var 19) y0 3)) (.beq (.cell 54 (.var 18) y0 4) (.cell 54 (.var 19) y0 4))))))))
        (.ob (.ai y0 (.var 19)) <|
         .ob (.bO (.var 19) (.lit 9)) <|
         .ob (.ai y0 (.var 18)) <|
         .ob (.bO (.var 18) (.lit 9)) <|
         .call 1 {lo:=0,ah:=0,iv:=[(1,yv 18),(0,yv 1)]} 71 <|
         .fin {lo:=71,ah:=4,iv:=yo [(137,yv 70)]<|yr 132 65 7<|yo [(124,yv 57),(123,yv 56),(120,yv 53),(119,yv 52),(136,yv 69),(117,yv 50),(116,yv 49),(114,yv 47)]<|yr 112 45 4<|yr 107 40 4<|yo [(102,.cell 54 (.var 19) y0 3),(101,.cell 54 (.var 19) y0 2),(100,.cell 54 (.var 19) y0 1),(99,.cell 54 (.var 19) y0 0),yz 97,yz 96,yz 95,yz 94,(93,.add (.add (.lit 25) (.mul (.var 1) (.lit 9))) (.var 18)),yz 92,yz 91,(90,.lit 2),(89,.lit 2)]<|yr 88 21 4<|yr 83 16 4<|yr 78 11 8 [],bv:=[(134,yw 67),(133,yw 66),(125,yw 58),(122,yw 55),(118,yw 51),(115,yw 48),(113,yw 46),(108,yw 41),(103,.cell 54 (.var 19) y0 4),(98,.lit false),(84,yw 17),(79,yw 12)],ct:=[(137,yu 70 59 7 yN 0),(136,yu 69 70 7 yN 0),(135,yu 68 49 5 yW 0),(121,.up {r:=54,n1:=.lit 9,s1:=5,lo:=50,ks:=yW} 0 [⟨0,(.var 18),y0,4,.bool (.cell 54 (.var 19) y0 4)⟩,⟨0,(.var 18),y0,3,.int .i64 (.cell 54 (.var 19) y0 3)⟩,⟨0,(.var 18),y0,2,.int .i64 (.cell 54 (.var 19) y0 2)⟩,⟨0,(.var 18),y0,1,.int .i64 (.cell 54 (.var 19) y0 1)⟩,⟨0,(.var 18),y0,0,.int .i64 (.cell 54 (.var 19) y0 0)⟩] y0)],bk:=wE})
        (.fin {lo:=71,ah:=4,iv:=aej,bv:=aek,ct:=[(137,yu 70 59 7 yN 0),(121,yl 54 9 5 50 yW 0)],bk:=[(6,yc 3 7)],nb:=[5,4,5,4]}))
       (.br (.aA (.var 4) (.lit 8))
        (.br (.or (.aA (.var 0) (.lit 3)) (.aA (.var 0) (.lit 5)))
         (.fin {lo:=71,ah:=4,iv:=yo [(137,yv 70)]<|yr 132 65 7<|yo [(124,yv 57),(123,yv 56),(120,yv 53),(119,yv 52),(136,yv 69),(117,yv 50),(116,yv 49),(114,yv 47)]<|yr 112 45 4<|yr 107 40 4<|yo [yz 102,yz 101,yz 100,yz 99,yz 97,yz 96,yz 95,yz 94,(93,.lit 24),yz 92,yz 91,(90,.lit 1),(89,.lit 8)]<|yr 88 21 4<|yr 83 16 4<|yr 78 11 8 [],bv:=Nz,ct:=zo,bk:=wE})
         (.fin {lo:=71,ah:=4,iv:=yo [(137,yv 70)]<|yr 132 65 7<|yo [(124,yv 57),(123,yv 56),(120,yv 53),(119,yv 52),(136,yv 69),(117,yv 50),(116,yv 49),(114,yv 47)]<|yr 112 45 4<|yr 107 40 4<|yo [yz 102,yz 101,yz 100,yz 99,yz 97,yz 96,yz 95,yz 94,yz 93,yz 92,yz 91,(90,.lit 4),(89,.lit 1)]<|yr 88 21 4<|yr 83 16 4<|yr 78 11 8 [],bv:=Nz,ct:=zo,bk:=wE}))
        (.br (.aA (.var 4) (.lit 9))
         (.fin {lo:=71,ah:=4,iv:=yo [(137,yv 70)]<|yr 132 65 7<|yo [(124,yv 57),(123,yv 56),(120,yv 53),(119,yv 52),(136,yv 69),(117,yv 50),(116,yv 49),(114,yv 47)]<|yr 112 45 4<|yr 107 40 4<|yo [yz 102,yz 101,yz 100,yz 99]<|yr 97 11 4<|yo [yz 93,yz 92,yz 91,(90,.lit 5),(89,.lit 2)]<|yr 88 21 4<|yr 83 16 4<|yr 78 11 8 [],bv:=[(134,yw 67),(133,yw 66),(125,yw 58),(122,yw 55),(118,yw 51),(115,yw 48),(113,yw 46),(108,yw 41),(103,.lit false),(98,yw 12),(84,yw 17),(79,yw 12)],ct:=zo,bk:=wE})
         (.br (.aA (.var 4) (.lit 10))
          (.call 3 {lo:=0,ah:=0,iv:=aem,bv:=YI,ct:=YJ,bk:=YK} 71 <|
           .fin {lo:=71,ah:=4,iv:=YL,bv:=YM,ct:=YN,bk:=YO})
          (.br (.aA (.var 4) (.lit 11))
           (.call 2 {lo:=0,ah:=0,iv:=aem,bv:=YI,ct:=YJ,bk:=YK} 71 <|
            .fin {lo:=71,ah:=4,iv:=YL,bv:=YM,ct:=YN,bk:=YO})
           (.fin {lo:=71,ah:=4,iv:=yo [(137,yv 70)]<|yr 132 65 7<|yo [(124,yv 57),(123,yv 56),(120,yv 53),(119,yv 52),(136,yv 69),(117,yv 50),(116,yv 49),(114,yv 47)]<|yr 112 45 4<|yr 107 40 4<|yr 102 35 4<|yr 97 30 13<|yr 83 16 4<|yr 78 11 8 [],bv:=[(134,yw 67),(133,yw 66),(125,yw 58),(122,yw 55),(118,yw 51),(115,yw 48),(113,yw 46),(108,yw 41),(103,yw 36),(98,yw 31),(84,yw 17),(79,yw 12)],ct:=zo,bk:=wE})))))))))))
theorem YP:exec tab aam 8000 [] (fE mi.f mi.nv [] mi.gl mi.hp mi.args)=I5:=by kernel_rfl
def De (ρ:Env):Prop:=bH ρ 4∧xz ρ∧Nu ρ 4∧(0≤ρ.iv 18∧ρ.iv 18<9)∧0≤ρ.iv 19∧ρ.iv 19<9
def EM (ρ:Env):Prop:=bH ρ 71∧aa ρ 0 71=(aa ρ 0 4).opened
set_option maxHeartbeats 4000000 in
theorem YQ (ρ:Env) (hpre:De ρ.num):Sat EM SL [] ρ I5:=by
 replace hpre:De ρ:=hpre
 obtain ⟨⟨o1,o2,o3⟩,hs,hf,⟨n1,n2⟩,m1,m2⟩:=hpre
 unfold I5
 refine Sat.br (fun c1=>?_) (fun c1=>?_)
 ·simp only [Da] at c1
  have h0:(aa ρ 0 4).opened=if (aa ρ 0 4).bY then (aa ρ 0 4).era 3 else (aa ρ 0 4).done:=if_pos c1
  refine Sat.br (fun c=>?_) (fun c=>?_)
  ·simp only [Da] at c
   have hm:(aa ρ 0 4).opened=(aa ρ 0 4).era 3:=h0.trans (if_pos c)
   exact Sat.fin ⟨cu,Eq.trans (b:=(aa ρ 0 4).era 3) aF (Eq.symm hm)⟩
  ·simp only [Da] at c
   have hm:(aa ρ 0 4).opened=(aa ρ 0 4).done:=h0.trans (if_neg (fun h:ρ.iv 0=4∨ρ.iv 0=5=>by omega))
   exact Sat.fin ⟨cu,Eq.trans (b:=(aa ρ 0 4).done) aF (Eq.symm hm)⟩
 simp only [Da] at c1
 refine Sat.br (fun c2=>?_) (fun c2=>?_)
 ·simp only [Da] at c2
  have hm:(aa ρ 0 4).opened=(aa ρ 0 4).leave 0:=(if_neg c1).trans (if_pos c2)
  refine eU (c:=iU) rfl (aa ρ 0 4) ((aa ρ 0 4).leave 0) (by decide) (by decide) (jQ rfl rfl rfl rfl) ⟨⟨o1,o2,o3⟩,hs,Int.le_refl 0,(show (0:Int)≤9 by decide)⟩ aF (fun e hq hr=>⟨hq.1,by rw [←hr];exact hq.2⟩) (fun u=>(bH u 71)∧aa u 0 71=(aa u 0 4).opened) (fun e h1 h2=>⟨h1,h2.trans hm.symm⟩) fun u hu=>?_
  obtain ⟨⟨o1,o2,o3⟩,hm⟩:=hu
  exact Sat.fin ⟨cu,Eq.trans (b:=(aa u 0 71)) aF (Eq.symm hm.symm)⟩
 simp only [Da] at c2
 refine Sat.br (fun c3=>?_) (fun c3=>?_)
 ·simp only [Da] at c3
  have hm:(aa ρ 0 4).opened=(aa ρ 0 4).load 1 (ρ.iv 5) (ρ.iv 6) (ρ.iv 7):=(if_neg c1).trans ((if_neg c2).trans (if_pos c3))
  exact Sat.fin ⟨cu,Eq.trans (b:=(aa ρ 0 4).load 1 (ρ.iv 5) (ρ.iv 6) (ρ.iv 7)) aF (Eq.symm hm)⟩
 simp only [Da] at c3
 refine Sat.br (fun c4=>?_) (fun c4=>?_)
 ·simp only [Da] at c4
  have hm:(aa ρ 0 4).opened=(aa ρ 0 4).ask 1 ⟨2,ρ.iv 5,ρ.iv 6,ρ.iv 7,az ρ 8,az ρ 13⟩:=(if_neg c1).trans ((if_neg c2).trans ((if_neg c3).trans (if_pos c4)))
  exact Sat.fin ⟨cu,Eq.trans (b:=(aa ρ 0 4).ask 1 ⟨2,ρ.iv 5,ρ.iv 6,ρ.iv 7,az ρ 8,az ρ 13⟩) aF (Eq.symm hm)⟩
 simp only [Da] at c4
 refine Sat.br (fun c5=>?_) (fun c5=>?_)
 ·simp only [Da] at c5
  have hm:(aa ρ 0 4).opened=(aa ρ 0 4).ask 1 ⟨3,ρ.iv 5,ρ.iv 6,ρ.iv 7,az ρ 8,az ρ 13⟩:=(if_neg c1).trans ((if_neg c2).trans ((if_neg c3).trans ((if_neg c4).trans (if_pos c5))))
  exact Sat.fin ⟨cu,Eq.trans (b:=(aa ρ 0 4).ask 1 ⟨3,ρ.iv 5,ρ.iv 6,ρ.iv 7,az ρ 8,az ρ 13⟩) aF (Eq.symm hm)⟩
 simp only [Da] at c5
 refine Sat.br (fun c6=>?_) (fun c6=>?_)
 ·simp only [Da] at c6
  have hm:(aa ρ 0 4).opened=(aa ρ 0 4).load 5 (ρ.iv 5) (ρ.iv 6) (ρ.iv 7):=(if_neg c1).trans ((if_neg c2).trans ((if_neg c3).trans ((if_neg c4).trans ((if_neg c5).trans (if_pos c6)))))
  exact Sat.fin ⟨cu,Eq.trans (b:=(aa ρ 0 4).load 5 (ρ.iv 5) (ρ.iv 6) (ρ.iv 7)) aF (Eq.symm hm)⟩
 simp only [Da] at c6
 have hB:∀X:RS,(if ρ.iv 4=7 then (if (aa ρ 0 4).bL∧(aa ρ 0 4).holds (ρ.iv 18).toNat≠(aa ρ 0 4).holds (ρ.iv 19).toNat then (aa ρ 0 4).post 2 (ρ.iv 18) ((aa ρ 0 4).holds (ρ.iv 19).toNat) else (aa ρ 0 4).done)
     else if ρ.iv 4=8 then (if (aa ρ 0 4).bC then (aa ρ 0 4).era 8 else (aa ρ 0 4).ask 1 ⟨4,0,0,0,Wd.zero,Wd.zero⟩)
     else if ρ.iv 4=9 then (aa ρ 0 4).ask 2 ⟨5,0,0,0,az ρ 8,Wd.zero⟩ else if ρ.iv 4=10 then (aa ρ 0 4).eQ else if ρ.iv 4=11 then (aa ρ 0 4).scan else aa ρ 0 4)=X→(aa ρ 0 4).opened=X :=
  fun X h=>((if_neg c1).trans ((if_neg c2).trans ((if_neg c3).trans ((if_neg c4).trans ((if_neg c5).trans (if_neg c6)))))).trans h
 refine Sat.br (fun c7=>?_) (fun c7=>?_)
 ·simp only [Da] at c7
  refine Sat.ob (by simp only [Da];omega) (Sat.ob (by simp only [Da];omega) (Sat.ob (by simp only [Da];omega) (Sat.ob (by simp only [Da];omega) (Sat.br (fun c=>?_) (fun c=>?_)))))
  ·simp only [Da] at c
   have hne:(aa ρ 0 4).holds (ρ.iv 18).toNat≠(aa ρ 0 4).holds (ρ.iv 19).toNat:=fun h=>by
    have h':=pX.1 h
    simp only [aa,aO] at h'
    simp_all
   have hm:(aa ρ 0 4).opened=(aa ρ 0 4).post 2 (ρ.iv 18) ((aa ρ 0 4).holds (ρ.iv 19).toNat):=hB _ ((if_pos c7).trans (if_pos ⟨c.1,hne⟩))
   refine Sat.ob (decide_eq_true m1) (Sat.ob (by simp only [Da];omega) (Sat.ob (decide_eq_true n1) (Sat.ob (by simp only [Da];omega) (Sat.jk (c:=gN) rfl ⟨⟨hs.1,hs.2.1⟩,n1,n2⟩ (fun r=>((bH r 4)∧0≤r.iv 18)∧(aa r 0 4).opened=(aa r 0 4).post 2 (r.iv 18) ((aa r 0 4).holds (r.iv 19).toNat)) (fun e _=>⟨⟨⟨o1,o2,o3⟩,n1⟩,hm⟩) fun r hr=>?_))))
   obtain ⟨⟨⟨o1,o2,o3⟩,i1⟩,hm⟩:=hr
   refine Sat.fin ⟨cu,Eq.trans (b:=(aa r 0 4).post 2 (r.iv 18) ((aa r 0 4).holds (r.iv 19).toNat)) (RS.ext' rfl rfl rfl rfl rfl rfl vk GU rfl rfl rfl rfl ?_ rfl zX rfl rfl) (Eq.symm hm)⟩
   intro i
   show _=if i=(r.iv 18).toNat then aO (r.ic 54 (r.iv 19).toNat 0) (r.bc 54 (r.iv 19).toNat 0) else aO (r.ic 54 i 0) (r.bc 54 i 0)
   by_cases h:i=(r.iv 18).toNat
   ·subst h
    simp [aa,aO,Wd.gI,az,-Int.pred_toNat,Sub.ag,assoc,CV.I,CV.B,aj,ak,ae.I,ae.B,SC.I,SC.B,IE.den,BE.den]
   ·simp [aa,aO,-Int.pred_toNat,Sub.ag,assoc,CV.I,CV.B,aj,ak,ae.I,ae.B,SC.I,SC.B,IE.den,BE.den,h,Ne.symm h]
  ·simp only [Da] at c
   have he:¬((aa ρ 0 4).bL∧(aa ρ 0 4).holds (ρ.iv 18).toNat≠(aa ρ 0 4).holds (ρ.iv 19).toNat):=by
    rintro ⟨h1,h2⟩
    have h1:ρ.iv 0=2∨ρ.iv 0=3:=h1
    apply h2
    apply pX.2
    simp only [aa,aO]
    rcases c with c | c
    ·omega
    ·exact c
   have hm:(aa ρ 0 4).opened=(aa ρ 0 4).done:=hB _ ((if_pos c7).trans (if_neg he))
   exact Sat.fin ⟨cu,Eq.trans (b:=(aa ρ 0 4).done) aF (Eq.symm hm)⟩
 simp only [Da] at c7
 refine Sat.br (fun c8=>?_) (fun c8=>?_)
 ·simp only [Da] at c8
  refine Sat.br (fun c=>?_) (fun c=>?_)
  ·simp only [Da] at c
   have hm:(aa ρ 0 4).opened=(aa ρ 0 4).era 8:=hB _ ((if_neg c7).trans ((if_pos c8).trans (if_pos c)))
   exact Sat.fin ⟨cu,Eq.trans (b:=(aa ρ 0 4).era 8) aF (Eq.symm hm)⟩
  ·simp only [Da] at c
   have hm:(aa ρ 0 4).opened=(aa ρ 0 4).ask 1 ⟨4,0,0,0,Wd.zero,Wd.zero⟩:=hB _ ((if_neg c7).trans ((if_pos c8).trans (if_neg (fun h:ρ.iv 0=3∨ρ.iv 0=5=>by omega))))
   exact Sat.fin ⟨cu,Eq.trans (b:=(aa ρ 0 4).ask 1 ⟨4,0,0,0,Wd.zero,Wd.zero⟩) aF (Eq.symm hm)⟩
 simp only [Da] at c8
 refine Sat.br (fun c9=>?_) (fun c9=>?_)
 ·simp only [Da] at c9
  have hm:(aa ρ 0 4).opened=(aa ρ 0 4).ask 2 ⟨5,0,0,0,az ρ 8,Wd.zero⟩:=hB _ ((if_neg c7).trans ((if_neg c8).trans (if_pos c9)))
  exact Sat.fin ⟨cu,Eq.trans (b:=(aa ρ 0 4).ask 2 ⟨5,0,0,0,az ρ 8,Wd.zero⟩) aF (Eq.symm hm)⟩
 simp only [Da] at c9
 refine Sat.br (fun c10=>?_) (fun c10=>?_)
 ·simp only [Da] at c10
  have hm:(aa ρ 0 4).opened=(aa ρ 0 4).eQ:=hB _ ((if_neg c7).trans ((if_neg c8).trans ((if_neg c9).trans (if_pos c10))))
  refine eU (c:=jF) rfl (aa ρ 0 4) (aa ρ 0 4).eQ (by decide) (by decide) (jQ rfl rfl rfl rfl) ⟨⟨o1,o2,o3⟩,hs,hf⟩ aF (fun e hq hr=>⟨hq.1,by rw [←hr];exact hq.2⟩) (fun u=>(bH u 71)∧aa u 0 71=(aa u 0 4).opened) (fun e h1 h2=>⟨h1,h2.trans hm.symm⟩) fun u hu=>?_
  obtain ⟨⟨o1,o2,o3⟩,hm⟩:=hu
  exact Sat.fin ⟨cu,Eq.trans (b:=(aa u 0 71)) aF (Eq.symm hm.symm)⟩
 simp only [Da] at c10
 refine Sat.br (fun c11=>?_) (fun c11=>?_)
 ·simp only [Da] at c11
  have hm:(aa ρ 0 4).opened=(aa ρ 0 4).scan:=hB _ ((if_neg c7).trans ((if_neg c8).trans ((if_neg c9).trans ((if_neg c10).trans (if_pos c11)))))
  refine eU (c:=jI) rfl (aa ρ 0 4) (aa ρ 0 4).scan (by decide) (by decide) (jQ rfl rfl rfl rfl) ⟨⟨o1,o2,o3⟩,hs⟩ aF (fun e hq hr=>⟨hq.1,by rw [←hr];exact hq.2⟩) (fun u=>(bH u 71)∧aa u 0 71=(aa u 0 4).opened) (fun e h1 h2=>⟨h1,h2.trans hm.symm⟩) fun u hu=>?_
  obtain ⟨⟨o1,o2,o3⟩,hm⟩:=hu
  exact Sat.fin ⟨cu,Eq.trans (b:=(aa u 0 71)) aF (Eq.symm hm.symm)⟩
 ·simp only [Da] at c11
  have hm:(aa ρ 0 4).opened=aa ρ 0 4:=hB _ ((if_neg c7).trans ((if_neg c8).trans ((if_neg c9).trans ((if_neg c10).trans (if_neg c11)))))
  exact Sat.fin ⟨cu,Eq.trans (b:=(aa ρ 0 4)) aF (Eq.symm hm)⟩
theorem YR:bg Tryz.prog mi De EM :=
 dA dO (E:=aam) (cs:=SL) rfl abS bX rfl YP (by kernel_rfl) (fun ρ _ p hp=>by cases hp) YQ
def KZ:mO:=[(mi,De,EM)]
theorem YS:∀k pre post,(k,pre,post)∈KZ→ku k=true∧bg Tryz.prog k pre post:=by
 intro k pre post h
 simp only [KZ,List.mem_cons,List.not_mem_nil,or_false,Prod.mk.injEq] at h
 obtain ⟨rfl,rfl,rfl⟩:=h
 exact ⟨by kernel_rfl,YR⟩
def knB:Kn:=[(.aA (.var 22) (.lit 0),true),(.bO (.var 71) (.lit 1),false),(.bO (.lit 11) (.var 71),false),(.bO (.var 85) (.lit 0),false),(.ai (.lit 9) (.var 85),false),(.bO (.var 86) (.lit 0),false),(.ai (.lit 9) (.var 86),false)]
noncomputable def VE:Ex:={sched:=sched,loops:=[],cons:=[mi],fin:=lU}
abbrev aen:List (Nat × IE):=yr 65 65 7<|yo [(57,yv 57),(56,yv 56)]<|yr 3 3 4<|yo [yz 53,yz 52,yz 50,yz 49,yz 47,yz 45,yz 44,yz 43,yz 42,yz 40,yz 39,yz 38,yz 37,yz 35,yz 34,yz 33,yz 32,yz 30,yz 29,yz 28,yz 27,yz 26,yz 25,yz 24,yz 23,yz 22]<|yr 21 88 4<|yr 16 83 4<|yr 11 78 8 []
abbrev aeo:List (Nat × BE):=[(67,yw 67),(66,yw 66),(58,yw 58),(55,yw 55),(51,.lit true),(48,.lit true),(46,.lit false),(41,.lit false),(36,.lit false),(31,.lit false),(17,yw 84),(12,yw 79)]
abbrev aep:List (Nat × IE):=yo [(155,yv 155)]<|yr 150 150 7<|yo [(142,yv 142),(141,yv 141),(138,yv 138),(137,yv 137),(154,yv 154),(135,yv 135),(134,yv 134),(132,yv 132)]<|yr 130 130 4<|yr 125 125 4<|yr 120 120 4<|yr 115 115 13<|yr 101 101 4<|yr 96 96 8 []
abbrev aeq:List (Nat × BE):=[(152,yw 152),(151,yw 151),(143,yw 143),(140,yw 140),(136,yw 136),(133,yw 133),(131,yw 131),(126,yw 126),(121,yw 121),(116,yw 116),(102,yw 102),(97,yw 97)]
abbrev aer:List (Nat × CV):=[(155,yu 155 144 7 yN 0),(154,yu 154 155 7 yN 0),(153,yu 153 134 5 yW 0),(139,yl 139 9 5 50 yW 0)]
def EN:Out :=
 .br (.or (.aA (.var 71) (.lit 6)) (.aA (.var 71) (.lit 7)))
 (.call 0 {lo:=0,ah:=0,iv:=aen,bv:=aeo,ct:=[(70,yu 70 59 7 yN 0),(54,yl 54 9 5 50 yW 0)],bk:=[(3,yc 3 7),(0,yb 0)],nb:=[2,1,2,1]} 89 <|
  .fin {lo:=89,ah:=4,iv:=aep,bv:=aeq,ct:=aer,bk:=[(6,yc 7 7),(5,yc 6 7),(4,yc 5 5)]})
 (.call 0 {lo:=0,ah:=0,iv:=aen,bv:=aeo,ct:=[(70,yu 70 59 7 yN 0),(54,yl 54 9 5 50 yW 0)],bk:=[(3,yc 3 7),(0,yb 0)],nb:=[2,1,2,1]} 89 <|
  .fin {lo:=89,ah:=4,iv:=aep,bv:=aeq,ct:=aer,bk:=[(6,yc 7 7),(5,yc 6 7),(4,yc 5 5)]})
theorem VF:exec tab VE 8000 [] (fE lU.f lU.nv knB lU.gl lU.hp lU.args)=EN:=by kernel_rfl
def zq (ρ:Env):Prop:=(bH ρ 4∧xz ρ∧Nu ρ 4)∧ρ.iv 22=0∧(jr ρ 71).OK
def Kj (ρ:Env):Prop:=bH ρ 89∧aa ρ 0 89=((aa ρ 0 4).begin (jr ρ 71)).1
theorem YT {r:RS} {c:Ca} (h:r.step=0) (hc:c.OK):(r.begin c).1=({r with call:=c,step:=0,acc:=Ac.zero,word:=Wd.zero,clock:=Wd.zero,index:=0,seen:=[],bD:=[]}:RS).opened∧(r.begin c).2=true:=by
 obtain ⟨c1,c2,c3,c4,c5,c6⟩:=hc
 unfold RS.begin
 rw [if_neg (by omega),if_neg (by omega),if_neg (by omega)]
 exact ⟨rfl,rfl⟩
theorem VG (ρ:Env) (hpre:zq ρ.num):Sat Kj KZ [] ρ EN:=by
 replace hpre:zq ρ:=hpre
 obtain ⟨⟨⟨o1,o2,o3⟩,hs,hf⟩,h0,hc⟩:=hpre
 have hm:((aa ρ 0 4).begin (jr ρ 71)).1=({aa ρ 0 4 with call:=jr ρ 71,step:=0,acc:=Ac.zero,word:=Wd.zero,clock:=Wd.zero,index:=0,seen:=[],bD:=[]}:RS).opened:=(YT h0 hc).1
 obtain ⟨-,-,c3,c4,c5,c6⟩:=hc
 unfold EN
 refine Sat.br (fun _=>?_) (fun _=>?_)
 all_goals
  refine eU (c:=mi) rfl ({aa ρ 0 4 with call:=jr ρ 71,step:=0,acc:=Ac.zero,word:=Wd.zero,clock:=Wd.zero,index:=0,seen:=[],bD:=[]}:RS) ({aa ρ 0 4 with call:=jr ρ 71,step:=0,acc:=Ac.zero,word:=Wd.zero,clock:=Wd.zero,index:=0,seen:=[],bD:=[]}:RS).opened (by decide) (by decide) (jQ rfl rfl rfl rfl) ⟨⟨by exact qQ rfl rfl,by exact ⟨qQ rfl rfl,Int.le_refl 0,.inl rfl⟩,o3⟩,hs,hf,⟨c3,c4⟩,c5,c6⟩ aF (fun e hq hr=>⟨hq.1,by rw [←hr];exact hq.2⟩) (fun u=>(bH u 89)∧aa u 0 89=((aa u 0 4).begin (jr u 71)).1) (fun e h1 h2=>⟨h1,h2.trans hm.symm⟩) fun u hu=>?_
  obtain ⟨⟨o1,o2,o3⟩,hm⟩:=hu
  exact Sat.fin ⟨cu,Eq.trans (b:=(aa u 0 89)) aF (Eq.symm hm.symm)⟩
theorem VH:bg Tryz.prog lU zq Kj :=
 dA dO (E:=VE) (cs:=KZ) rfl YS bX rfl VF (by kernel_rfl) (fun ρ h p hp=>by
   obtain ⟨-,h0,c1,c2,c3,c4,c5,c6⟩:=h
   replace h0:ρ.iv 22=0:=h0
   replace c1:1≤ρ.iv 71:=c1
   replace c2:ρ.iv 71≤11:=c2
   replace c3:0≤ρ.iv 85:=c3
   replace c4:ρ.iv 85<9:=c4
   replace c5:0≤ρ.iv 86:=c5
   replace c6:ρ.iv 86<9:=c6
   simp only [knB,List.mem_cons,List.not_mem_nil,or_false] at hp
   rcases hp with rfl | rfl | rfl | rfl | rfl | rfl | rfl
   · exact beq_iff_eq.2 h0
   · exact decide_eq_false (by show ¬ρ.iv 71<1;omega)
   · exact decide_eq_false (by show ¬11<ρ.iv 71;omega)
   · exact decide_eq_false (by show ¬ρ.iv 85<0;omega)
   · exact decide_eq_false (by show ¬9≤ρ.iv 85;omega)
   · exact decide_eq_false (by show ¬ρ.iv 86<0;omega)
   · exact decide_eq_false (by show ¬9≤ρ.iv 86;omega)) VG
theorem zt {P:Program} {k:dQ} {pre post post':Env→Prop} (h:bg P k pre post) (hp:∀ρ,post ρ→post' ρ):bg P k pre post' :=
 ⟨h.fn,fun ρ ν w h1 h2 h3=>(h.run ρ ν w h1 h2 h3).mono fun e w' he=>by
   obtain ⟨ρ',aK,a,b,c,d,f,g⟩:=he
   exact ⟨ρ',aK,a,b,c,d,f,hp _ g⟩⟩
def Nt.sv (n:Nt):Sv.wC:=⟨n.ref.slot,n.ref.gen,n.ref.tag,n.ref.num,n.ref.mark,n.kZ,n.lS⟩
theorem Nt.aes {a b:Nt} (h:a.sv=b.sv):a=b:=by
 obtain ⟨⟨a1,a2,a3,a4,a5⟩,a6,a7⟩:=a
 obtain ⟨⟨b1,b2,b3,b4,b5⟩,b6,b7⟩:=b
 simp only [Nt.sv,Sv.wC.mk.injEq] at h
 obtain ⟨rfl,rfl,rfl,rfl,rfl,rfl,rfl⟩:=h
 rfl
theorem ng (ρ:Env) (b:Nat):Sv.notes ρ b=(aT ρ (b+3) (ρ.iv (b+1))).map Nt.sv:=by
 unfold Sv.notes aT
 rw [List.map_map]
 rfl
theorem vC {l m:List Nt} {p:Sv.wC→Bool} {q:Nt→Bool} (hq:∀n,p n.sv=q n) (h:m.map Nt.sv=(l.map Nt.sv).filter p):m=l.filter q:=by
 rw [List.filter_map] at h
 have e:p ∘ Nt.sv=q:=funext hq
 rw [e] at h
 have:∀{x y:List Nt},x.map Nt.sv=y.map Nt.sv→x=y:=by
  intro x
  induction x with
  | nil=>intro y h;cases y with | nil=>rfl | cons=>cases h
  | cons a x ih =>
   intro y h
   cases y with
   | nil=>cases h
   | cons b y =>
    simp only [List.map_cons,List.cons.injEq] at h
    rw [Nt.aes h.1,ih h.2]
 exact this h
def pY (ρ:Env) (r:Nat) (n:Int):List Int:=(List.range n.toNat).map fun i=>ρ.ic r i 0 0
def lG (ρ:Env) (r:Nat) (i:Nat):Sp:=⟨ρ.bc r i 0 0,ρ.ic r i 0 1,ρ.ic r i 0 2⟩
def iB (ρ:Env) (r:Nat) (n:Int):List Sp:=(List.range n.toNat).map (lG ρ r)
def NA (ρ:Env):Prop:=bz ρ 8∧aT ρ 11 (ρ.iv 9)=(aT ρ 3 (ρ.iv 1)).filter fun n=>!((dJ ρ 7 (ρ.iv 5)).any fun w=>RS.yS w n)
def SN (ρ:Env):Prop:=bz ρ 8∧aT ρ 11 (ρ.iv 9)=(aT ρ 3 (ρ.iv 1)).filter fun n=>!((pY ρ 7 (ρ.iv 5)).any fun e=>RS.xm e n)
def NB (ρ:Env):Prop:=bz ρ 8∧aT ρ 11 (ρ.iv 9)=(aT ρ 3 (ρ.iv 1)).filter fun n=>!((iB ρ 7 (ρ.iv 5)).any fun s=>RS.uf s n)
def I6 (ρ:Env):Prop:=bz ρ 8∧aT ρ 11 (ρ.iv 9)=(aT ρ 3 (ρ.iv 1)).filter fun n=>!(RS.ry (ρ.iv 4) n)
theorem SQ:bg Tryz.prog lW Sv.mY NA:=zt Sv.Vo fun ρ h=>by
 obtain ⟨h1,h2,-⟩:=h
 refine ⟨h1,vC (fun n=>?_) ((ng ρ 8).symm.trans (h2.trans (congrArg _ (ng ρ 0))))⟩
 congr 1
 show (((List.range (ρ.iv 5).toNat).map fun j=>ρ.ic 7 j 0 0).any fun s=>decide (s=n.ref.slot))=_
 unfold dJ
 rw [List.any_map,List.any_map]
 rfl
theorem VI:bg Tryz.prog nK Sv.oW SN:=zt Sv.Yj fun ρ h=>by
 obtain ⟨h1,h2,-⟩:=h
 refine ⟨h1,vC (fun n=>?_) ((ng ρ 8).symm.trans (h2.trans (congrArg _ (ng ρ 0))))⟩
 congr 1
 show (((List.range (ρ.iv 5).toNat).map fun j=>ρ.ic 7 j 0 0).any fun e=>decide ((0<e∧n.kZ≤e)∧e≤n.lS))=_
 unfold pY
 rw [List.any_map,List.any_map]
 congr 1
 funext j
 simp only [Function.comp,RS.xm]
 exact decide_eq_decide.2 and_assoc
theorem SS:bg Tryz.prog lX Sv.mZ NB:=zt Sv.Vs fun ρ h=>by
 obtain ⟨h1,h2,-⟩:=h
 refine ⟨h1,vC (fun n=>?_) ((ng ρ 8).symm.trans (h2.trans (congrArg _ (ng ρ 0))))⟩
 congr 1
 show (((List.range (ρ.iv 5).toNat).map fun j=>(ρ.bc 7 j 0 0,ρ.ic 7 j 0 1,ρ.ic 7 j 0 2)).any fun s=>decide ((s.1=true∧s.2.1≤n.lS)∧n.kZ≤s.2.2))=_
 unfold iB
 rw [List.any_map,List.any_map]
 congr 1
 funext j
 simp only [Function.comp,RS.uf,lG]
 rw [Bool.eq_iff_iff]
 simp [and_assoc]
theorem O9:bg Tryz.prog ky Sv.lM I6:=zt Sv.Su fun ρ h=>by
 obtain ⟨h1,h2,-⟩:=h
 refine ⟨h1,vC (fun n=>?_) ((ng ρ 8).symm.trans (h2.trans (congrArg _ (ng ρ 0))))⟩
 refine congrArg (fun b=>!b) ?_
 show decide (ρ.iv 4 < -9223372036854775806∨ρ.iv 4-2<n.lS)=RS.ry (ρ.iv 4) n
 unfold RS.ry
 exact decide_eq_decide.2 (by omega)
noncomputable def aet:Ex:={sched:=sched,loops:=[ahO],fin:=mV}
def NC:Out :=
 .ob (.or (.not (.var 1)) (.aA (.var 2) y0)) <|
 .ob (.ai y0 (.var 2)) <|
 .loop 5 {lo:=5,ah:=1,iv:=[yz 5]} <|
 .br (.bO (.var 5) (.var 2))
 (.ob (.not (.var 1)) <|
  .ob (.ai y0 (.var 5)) <|
  .br (.and (.cell 4 (.var 5) y0 0) (.not (.aA (.cell 4 (.var 5) y0 1) (.var 0))))
  (.fin {lo:=5,ah:=1,bv:=[(5,.lit false)]})
  (.ob (.inr .i64 (.add (.var 5) y1)) <|
   .back 0 {lo:=5,ah:=1,iv:=[(5,.add (.var 5) y1)]}))
 (.fin {lo:=5,ah:=1,bv:=[(5,.lit true)]})
theorem abT:exec tab aet 8000 [] (fE mV.f mV.nv [] mV.gl mV.hp mV.args)=NC:=by kernel_rfl
def BS (ρ:Env):Prop:=bz ρ 1∧ρ.iv 2≤1000000
def Df (ρ:Env):Prop:=ρ.bv 5=RS.may (ρ.iv 0) (iB ρ 4 (ρ.iv 2))
def VJ (ρ:Env):Prop:=BS ρ∧(0≤ρ.iv 5∧ρ.iv 5≤ρ.iv 2)∧RS.may (ρ.iv 0) (iB ρ 4 (ρ.iv 5))=true
theorem SX {ρ:Env} {r:Nat} {n:Int} (h:0≤n):iB ρ r (n+1)=iB ρ r n ++ [lG ρ r n.toNat]:=by
 unfold iB
 rw [show (n+1).toNat=n.toNat+1 by omega,List.range_succ,List.map_append]
 rfl
theorem abU (ρ:Env) (hpre:BS ρ.num):Sat Df [] [] ρ NC:=by
 replace hpre:BS ρ:=hpre
 have hpre':=hpre
 obtain ⟨o1,h2⟩:=hpre
 unfold NC
 refine Sat.ob (df o1) (Sat.ob (decide_eq_true o1.2.1) (Sat.zb VJ (fun r=>(r.iv 2-r.iv 5).toNat) (fun _=>True) ⟨hpre',⟨Int.le_refl 0,o1.2.1⟩,rfl⟩ (fun _=>trivial) fun q _ hI=>?_))
 replace hI:VJ q:=hI
 obtain ⟨⟨o1,h2⟩,⟨i1,i2⟩,hI⟩:=hI
 refine Sat.br (fun c=>?_) (fun c=>?_)
 ·simp only [Da] at c
  refine Sat.ob (ve o1 (by simp only [Nat.reduceAdd];omega)) (Sat.ob (decide_eq_true i1) (Sat.br (fun c2=>?_) (fun c2=>?_)))
  ·simp only [Da] at c2
   refine Sat.fin ?_
   show false=RS.may (q.iv 0) (iB q 4 (q.iv 2))
   refine Eq.symm (List.all_eq_false.2 ⟨lG q 4 (q.iv 5).toNat,List.mem_map.2 ⟨(q.iv 5).toNat,List.mem_range.2 (by omega),rfl⟩,?_⟩)
   show ¬(!(q.bc 4 (q.iv 5).toNat 0 0 && q.ic 4 (q.iv 5).toNat 0 1 != q.iv 0))=true
   simp [c2.1,c2.2]
  ·simp only [Da] at c2
   refine Sat.ob (by simp only [Da];omega) (Sat.back rfl ⟨⟨⟨o1,h2⟩,⟨?_,?_⟩,?_⟩,?_⟩)
   ·show 0≤q.iv 5+1;omega
   ·show q.iv 5+1≤q.iv 2;omega
   ·show RS.may (q.iv 0) (iB q 4 (q.iv 5+1))=true
    rw [SX i1]
    unfold RS.may at hI ⊢
    rw [List.all_append,hI,Bool.true_and,List.all_cons,List.all_nil,Bool.and_true]
    show (!(q.bc 4 (q.iv 5).toNat 0 0 && q.ic 4 (q.iv 5).toNat 0 1 != q.iv 0))=true
    rcases c2 with c2 | c2
    ·simp [c2]
    ·simp [c2]
   ·show (q.iv 2-(q.iv 5+1)).toNat<(q.iv 2-q.iv 5).toNat
    omega
 ·simp only [Da] at c
  refine Sat.fin ?_
  show true=RS.may (q.iv 0) (iB q 4 (q.iv 2))
  rw [show q.iv 2=q.iv 5 by omega]
  exact hI.symm
theorem abV:bg Tryz.prog mV BS Df :=
 dA dO (E:=aet) (cs:=[]) rfl (fun k pre post h=>by cases h) bX rfl abT (by kernel_rfl) (fun ρ _ p hp=>by cases hp) abU
end Go.Proofs.YthomdlajobnmnaaGreatDoor
