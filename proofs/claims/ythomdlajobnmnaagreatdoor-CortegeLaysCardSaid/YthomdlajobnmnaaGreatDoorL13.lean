/- part 13 of the proof -/
import Derived.Test.YthomdlajobnmnaaGreatDoorL12
set_option linter.unusedSimpArgs false
set_option linter.unusedVariables false
namespace Go.Proofs.YthomdlajobnmnaaGreatDoor
open Go.Rex
noncomputable def QB:Ex:={sched:=sched,loops:=[YK],cons:=[fV,gI],fin:=iH}
def Cy:Out :=
 .br (.and (.or (.aB (.var 0) (.lit 4)) (.aB (.var 0) (.lit 5))) (.not (.and (.not (.var 55)) (.and (.aB (.var 56) (.lit 0)) (.aB (.var 57) (.lit 0))))))
 (.call 1 {lo:=0,az:=0,iv:=[(0,yv 1)]} 72 <|
  .fin {lo:=72,az:=4,iv:=yo [(138,yv 70)]<|yr 133 65 7<|yo [(125,.lit 0),(124,.lit 0),(121,yv 53),(120,yv 52),(137,yv 69),(118,yv 50),(117,yv 49),(115,yv 47)]<|yr 113 45 4<|yr 108 40 4<|yo [(103,.lit 0),(102,.lit 0),(101,.lit 0),(100,.lit 0),(98,.lit 0),(97,.lit 0),(96,.lit 0),(95,.lit 0),(94,.add (.lit 79) (.var 1)),(93,.lit 0),(92,.lit 0),(91,.lit 2),(90,.lit 2)]<|yr 89 21 4<|yr 84 16 4<|yr 79 11 8 [],bv:=[(135,yw 67),(134,yw 66),(126,yw 58),(123,.lit false),(119,yw 51),(116,yw 48),(114,yw 46),(109,yw 41),(104,.lit false),(99,.lit false),(85,yw 17),(80,yw 12)],ct:=[(138,yu 70 59 7 yN 0),(137,yu 69 70 7 yN 0),(136,yu 68 49 5 yW 0),(122,yl 54 9 5 50 yW 0)],bk:=[(6,yc 3 7),(5,yc 2 7),(4,yc 1 5)]})
 (.br (.or (.aB (.var 0) (.lit 2)) (.aB (.var 0) (.lit 3)))
  (.loop 72 {lo:=72,az:=4,iv:=[(72,yv 71)]} <|
   .br (.bS (.var 72) (.lit 9))
   (.ob (.aA (.lit 0) (.var 72)) <|
    .br (.not (.and (.aB (.cell 54 (.var 72) (.lit 0) 0) (.lit 0)) (.and (.aB (.cell 54 (.var 72) (.lit 0) 1) (.lit 0)) (.and (.aB (.cell 54 (.var 72) (.lit 0) 2) (.lit 0)) (.and (.aB (.cell 54 (.var 72) (.lit 0) 3) (.lit 0)) (.not (.cell 54 (.var 72) (.lit 0) 4)))))))
    (.call 0 {lo:=0,az:=0,iv:=[(1,yv 72),(0,yv 1)]} 73 <|
     .fin {lo:=72,az:=4,iv:=yo [(138,yv 70)]<|yr 133 65 7<|yo [(125,yv 57),(124,yv 56),(121,yv 53),(120,yv 52),(137,yv 69),(118,yv 50),(117,yv 49),(115,yv 72)]<|yr 113 45 4<|yr 108 40 4<|yo [(103,.lit 0),(102,.lit 0),(101,.lit 0),(100,.lit 0),(98,.lit 0),(97,.lit 0),(96,.lit 0),(95,.lit 0),(94,.add (.add (.lit 25) (.mul (.var 1) (.lit 9))) (.var 72)),(93,.lit 0),(92,.lit 0),(91,.lit 2),(90,.lit 4)]<|yr 89 21 4<|yr 84 16 4<|yr 79 11 8 [],bv:=[(135,yw 67),(134,yw 66),(126,yw 58),(123,yw 55),(119,yw 51),(116,yw 48),(114,yw 46),(109,yw 41),(104,.lit false),(99,.lit false),(85,yw 17),(80,yw 12)],ct:=[(138,yu 70 59 7 yN 0),(137,yu 69 70 7 yN 0),(136,yu 68 49 5 yW 0),(122,.up {r:=54,n1:=.lit 9,s1:=5,lo:=50,ks:=yW} 0 [⟨0,(.var 72),(.lit 0),4,.bool (.lit false)⟩,⟨0,(.var 72),(.lit 0),3,.int .i64 (.lit 0)⟩,⟨0,(.var 72),(.lit 0),2,.int .i64 (.lit 0)⟩,⟨0,(.var 72),(.lit 0),1,.int .i64 (.lit 0)⟩,⟨0,(.var 72),(.lit 0),0,.int .i64 (.lit 0)⟩] (.lit 0))],bk:=[(6,yc 3 7),(5,yc 2 7),(4,yc 1 5)]})
    (.ob (.inr .i64 (.add (.var 72) (.lit 1))) <|
     .back 0 {lo:=72,az:=4,iv:=[(72,.add (.var 72) (.lit 1))]}))
   (.fin {lo:=72,az:=4,iv:=yo [(133,.lit 0),(132,.lit 0),(131,.lit 0),(130,.lit 0)]<|yr 129 61 3<|[(125,yv 57),(124,yv 56),(121,.lit 0),(120,.lit 0),(118,.lit 0),(117,.lit 0),(115,.lit 0),(113,.lit 0),(112,.lit 0),(111,.lit 0),(110,.lit 0),(108,.lit 0),(107,.lit 0),(106,.lit 0),(105,.lit 0),(103,.lit 0),(102,.lit 0),(101,.lit 0),(100,.lit 0),(98,.lit 0),(97,.lit 0),(96,.lit 0),(95,.lit 0),(94,.lit 0),(93,.lit 0),(92,.lit 0),(91,.lit 0),(90,.lit 0),(89,.lit 0),(88,.lit 0),(87,.lit 0),(86,.lit 0),(84,.lit 0),(83,.lit 0),(82,.lit 0),(81,.lit 0),(79,.lit 0),(78,.lit 0),(77,.lit 0),(76,.lit 0),(75,.lit 0),(74,.lit 0),(73,.lit 0),(72,.lit 0)],bv:=[(135,.lit true),(134,.lit false),(126,yw 58),(123,yw 55),(119,.lit true),(116,.lit true),(114,.lit false),(109,.lit false),(104,.lit false),(99,.lit false),(85,.lit false),(80,.lit false)],ct:=[(138,yu 70 59 7 yN 0),(122,yl 54 9 5 50 yW 0)],bk:=[(6,yc 3 7)],nb:=[5,4,5,4]}))
  (.fin {lo:=72,az:=4,iv:=yo [(133,.lit 0),(132,.lit 0),(131,.lit 0),(130,.lit 0)]<|yr 129 61 3<|[(125,yv 57),(124,yv 56),(121,.lit 0),(120,.lit 0),(118,.lit 0),(117,.lit 0),(115,.lit 0),(113,.lit 0),(112,.lit 0),(111,.lit 0),(110,.lit 0),(108,.lit 0),(107,.lit 0),(106,.lit 0),(105,.lit 0),(103,.lit 0),(102,.lit 0),(101,.lit 0),(100,.lit 0),(98,.lit 0),(97,.lit 0),(96,.lit 0),(95,.lit 0),(94,.lit 0),(93,.lit 0),(92,.lit 0),(91,.lit 0),(90,.lit 0),(89,.lit 0),(88,.lit 0),(87,.lit 0),(86,.lit 0),(84,.lit 0),(83,.lit 0),(82,.lit 0),(81,.lit 0),(79,.lit 0),(78,.lit 0),(77,.lit 0),(76,.lit 0),(75,.lit 0),(74,.lit 0),(73,.lit 0),(72,.lit 0)],bv:=[(135,.lit true),(134,.lit false),(126,yw 58),(123,yw 55),(119,.lit true),(116,.lit true),(114,.lit false),(109,.lit false),(104,.lit false),(99,.lit false),(85,.lit false),(80,.lit false)],ct:=[(138,yu 70 59 7 yN 0),(122,yl 54 9 5 50 yW 0)],bk:=[(6,yc 3 7)],nb:=[5,4,5,4]}))
theorem QC:exec tab QB 8000 [] (dZ iH.f iH.nv [] iH.gl iH.hp iH.args)=Cy:=by kernel_rfl
def nN (ρ:Env):Prop:=bK ρ 4∧vL ρ∧0≤ρ.iv 71∧ρ.iv 71≤9
def uh (ρ:Env):Prop:=bK ρ 72∧aa ρ 0 72=(aa ρ 0 4).leave (ρ.iv 71)
def Km (ρ:Env):Prop:=nN ρ∧(0≤ρ.iv 72∧ρ.iv 72≤9)∧((¬((aa ρ 0 4).bZ∧(aa ρ 0 4).span≠Sp.zero))∧(aa ρ 0 4).bP)∧RS.first (aa ρ 0 4).holds (ρ.iv 71).toNat (9-(ρ.iv 71).toNat)=RS.first (aa ρ 0 4).holds (ρ.iv 72).toNat (9-(ρ.iv 72).toNat)
theorem QD (ρ:Env) (hpre:nN ρ.num):Sat uh zJ [] ρ Cy:=by
 replace hpre:nN ρ:=hpre
 have hpre':=hpre
 obtain ⟨⟨o1,o2,o3⟩,⟨s1,s2,s3,s4⟩,n1,n2⟩:=hpre
 unfold Cy
 refine Sat.br (fun c=>?_) (fun c=>?_)
 ·simp only [Da] at c
  have hA:(aa ρ 0 4).bZ∧(aa ρ 0 4).span≠Sp.zero:=by
   refine ⟨c.1,fun h=>?_⟩
   have h':(⟨ρ.bv 55,ρ.iv 56,ρ.iv 57⟩:Sp)=⟨false,0,0⟩:=h
   simp only [Sp.mk.injEq] at h'
   simp_all
  have hm:(aa ρ 0 4).leave (ρ.iv 71)=(aa ρ 0 4).ed 2 Sp.zero:=if_pos hA
  refine Sat.iT (c:=gI) rfl ⟨s1,s2⟩ (fun q=>(bK q 4)∧(aa q 0 4).leave (q.iv 71)=(aa q 0 4).ed 2 Sp.zero) (fun e _=>⟨⟨o1,o2,o3⟩,hm⟩) fun q hq=>?_
  obtain ⟨⟨o1,o2,o3⟩,hm⟩:=hq
  exact Sat.fin ⟨⟨(by first | exact o1 | exact o2 | exact o3 | exact aj rfl rfl | assumption),(by first | exact o2 | exact ⟨aj rfl rfl,Int.le_refl 0,.inl rfl⟩ | assumption),(by first | exact o1 | exact o2 | exact o3 | exact aj rfl rfl | assumption)⟩,Eq.trans (b:=(aa q 0 4).ed 2 Sp.zero) (RS.ext' rfl rfl rfl rfl rfl rfl bA bF rfl rfl rfl rfl bE rfl bB rfl rfl) (Eq.symm (hm))⟩
 ·simp only [Da] at c
  have hA:¬((aa ρ 0 4).bZ∧(aa ρ 0 4).span≠Sp.zero):=by
   rintro ⟨h1,h2⟩
   apply h2
   show (⟨ρ.bv 55,ρ.iv 56,ρ.iv 57⟩:Sp)=⟨false,0,0⟩
   have h1:ρ.iv 0=4∨ρ.iv 0=5:=h1
   rcases c with c | ⟨a,b,c⟩
   ·omega
   ·rw [a,b,c]
  refine Sat.br (fun c2=>?_) (fun c2=>?_)
  ·simp only [Da] at c2
   have hk:(aa ρ 0 4).bP:=c2
   refine Sat.xk Km (fun r=>(9-r.iv 72).toNat) (fun _=>True) ⟨hpre',⟨n1,n2⟩,⟨hA,hk⟩,rfl⟩ (fun _=>trivial) fun q _ hI=>?_
   replace hI:Km q:=hI
   obtain ⟨⟨⟨o1,o2,o3⟩,⟨s1,s2,s3,s4⟩,n1,n2⟩,⟨i1,i2⟩,⟨hA,hk⟩,hf⟩:=hI
   have hpre':nN q:=⟨⟨o1,o2,o3⟩,⟨s1,s2,s3,s4⟩,n1,n2⟩
   refine Sat.br (fun c=>?_) (fun c=>?_)
   ·simp only [Da] at c
    have hs:9-(q.iv 72).toNat=(9-(q.iv 72+1).toNat)+1:=by omega
    rw [hs] at hf
    refine Sat.ob (decide_eq_true i1) (Sat.br (fun c3=>?_) (fun c3=>?_))
    ·simp only [Da] at c3
     have hne:(aa q 0 4).holds (q.iv 72).toNat≠Wd.zero:=fun h=>by
      have h':=oU.1 h
      simp only [aa,aF,Wd.zero] at h'
      simp_all
     have hm:(aa q 0 4).leave (q.iv 71)=({aa q 0 4 with index:=q.iv 72}:RS).post 4 (q.iv 72) Wd.zero:=by
      have e:RS.first (aa q 0 4).holds (q.iv 71).toNat (9-(q.iv 71).toNat)=some (q.iv 72).toNat:=by rw [hf];exact if_pos hne
      unfold RS.leave
      rw [if_neg hA,if_pos hk,e]
      simp only [Int.toNat_of_nonneg i1]
     refine Sat.iT (c:=fV) rfl ⟨⟨s1,s2⟩,i1,c⟩ (fun r=>((bK r 4)∧0≤r.iv 72)∧(aa r 0 4).leave (r.iv 71)=({aa r 0 4 with index:=r.iv 72}:RS).post 4 (r.iv 72) Wd.zero) (fun e _=>⟨⟨⟨o1,o2,o3⟩,i1⟩,hm⟩) fun r hr=>?_
     obtain ⟨⟨⟨o1,o2,o3⟩,i1⟩,hm⟩:=hr
     refine Sat.fin ⟨⟨(by first | exact o1 | exact o2 | exact o3 | exact aj rfl rfl | assumption),(by first | exact o2 | exact ⟨aj rfl rfl,Int.le_refl 0,.inl rfl⟩ | assumption),(by first | exact o1 | exact o2 | exact o3 | exact aj rfl rfl | assumption)⟩,Eq.trans (b:=({aa r 0 4 with index:=r.iv 72}:RS).post 4 (r.iv 72) Wd.zero) (RS.ext' rfl rfl rfl rfl rfl rfl bA bF rfl rfl rfl rfl ?_ rfl bB rfl rfl) (Eq.symm (hm))⟩
     intro i
     show _=if i=(r.iv 72).toNat then Wd.zero else aF (r.ic 54 i 0) (r.bc 54 i 0)
     by_cases h:i=(r.iv 72).toNat
     ·subst h
      simp [aa,aF,Wd.zero,-Int.pred_toNat,Sub.ag,assoc,CV.I,CV.B,ah,ai,ae.I,ae.B,SC.I,SC.B,IE.den,BE.den]
     ·simp [aa,aF,-Int.pred_toNat,Sub.ag,assoc,CV.I,CV.B,ah,ai,ae.I,ae.B,SC.I,SC.B,IE.den,BE.den,h,Ne.symm h]
    ·simp only [Da] at c3
     have he:(aa q 0 4).holds (q.iv 72).toNat=Wd.zero:=by
      apply oU.2
      simp only [aa,aF,Wd.zero]
      simp_all
     refine Sat.ob (by simp only [Da];omega) (Sat.back rfl ⟨⟨hpre',⟨?_,?_⟩,⟨hA,hk⟩,?_⟩,?_⟩)
     ·show 0≤q.iv 72+1;omega
     ·show q.iv 72+1≤9;omega
     ·show RS.first (aa q 0 4).holds (q.iv 71).toNat (9-(q.iv 71).toNat)=RS.first (aa q 0 4).holds (q.iv 72+1).toNat (9-(q.iv 72+1).toNat)
      rw [hf,show (q.iv 72+1).toNat=(q.iv 72).toNat+1 by omega]
      exact if_neg (fun h=>h he)
     ·show (9-(q.iv 72+1)).toNat<(9-q.iv 72).toNat
      omega
   ·simp only [Da] at c
    have hm:(aa q 0 4).leave (q.iv 71)=(aa q 0 4).done:=by
     have e:RS.first (aa q 0 4).holds (q.iv 71).toNat (9-(q.iv 71).toNat)=none:=by rw [hf,show 9-(q.iv 72).toNat=0 by omega];rfl
     unfold RS.leave
     rw [if_neg hA,if_pos hk,e]
    exact Sat.fin ⟨⟨(by first | exact o1 | exact o2 | exact o3 | exact aj rfl rfl | assumption),(by first | exact o2 | exact ⟨aj rfl rfl,Int.le_refl 0,.inl rfl⟩ | assumption),(by first | exact o1 | exact o2 | exact o3 | exact aj rfl rfl | assumption)⟩,Eq.trans (b:=(aa q 0 4).done) (RS.ext' rfl rfl rfl rfl rfl rfl bA bF rfl rfl rfl rfl bE rfl bB rfl rfl) (Eq.symm (hm))⟩
  ·simp only [Da] at c2
   have hk:¬(aa ρ 0 4).bP:=fun h:ρ.iv 0=2∨ρ.iv 0=3=>by omega
   have hm:(aa ρ 0 4).leave (ρ.iv 71)=(aa ρ 0 4).done:=by
    unfold RS.leave
    rw [if_neg hA,if_neg hk]
   exact Sat.fin ⟨⟨(by first | exact o1 | exact o2 | exact o3 | exact aj rfl rfl | assumption),(by first | exact o2 | exact ⟨aj rfl rfl,Int.le_refl 0,.inl rfl⟩ | assumption),(by first | exact o1 | exact o2 | exact o3 | exact aj rfl rfl | assumption)⟩,Eq.trans (b:=(aa ρ 0 4).done) (RS.ext' rfl rfl rfl rfl rfl rfl bA bF rfl rfl rfl rfl bE rfl bB rfl rfl) (Eq.symm (hm))⟩
theorem Hq:aV Tryz.prog iH nN uh :=
 cK dF (E:=QB) (cs:=zJ) rfl FU bO rfl QC (by kernel_rfl) (fun ρ _ p hp=>by cases hp) QD
def xx (ρ:Env):Prop:=bK ρ 4∧vL ρ
def Ot:mY:=[(iR,rO,sO)]
theorem WZ:∀k pre post,(k,pre,post)∈Ot→jM k=true∧aV Tryz.prog k pre post:=by
 intro k pre post h
 simp only [Ot,List.mem_cons,List.not_mem_nil,or_false,Prod.mk.injEq] at h
 obtain ⟨rfl,rfl,rfl⟩:=h
 exact ⟨by kernel_rfl,Kl⟩
noncomputable def VF:Ex:={sched:=sched,loops:=[],cons:=[iR],fin:=ji}
def FX:Out :=
 .br (.aB (.var 0) (.lit 1))
 (.fin {lo:=71,az:=4,iv:=yo [(132,.lit 0),(131,.lit 0),(130,.lit 0),(129,.lit 0)]<|yr 128 61 3<|[(124,yv 57),(123,yv 56),(120,.lit 0),(119,.lit 0),(117,.lit 0),(116,.lit 0),(114,.lit 0),(112,.lit 0),(111,.lit 0),(110,.lit 0),(109,.lit 0),(107,.lit 0),(106,.lit 0),(105,.lit 0),(104,.lit 0),(102,.lit 0),(101,.lit 0),(100,.lit 0),(99,.lit 0),(97,.lit 0),(96,.lit 0),(95,.lit 0),(94,.lit 0),(93,.lit 0),(92,.lit 0),(91,.lit 0),(90,.lit 0),(89,.lit 0),(88,.lit 0),(87,.lit 0),(86,.lit 0),(85,.lit 0),(83,.lit 0),(82,.lit 0),(81,.lit 0),(80,.lit 0),(78,.lit 0),(77,.lit 0),(76,.lit 0),(75,.lit 0),(74,.lit 0),(73,.lit 0),(72,.lit 0),(71,.lit 0)],bv:=[(134,.lit true),(133,.lit false),(125,yw 58),(122,yw 55),(118,.lit true),(115,.lit true),(113,.lit false),(108,.lit false),(103,.lit false),(98,.lit false),(84,.lit false),(79,.lit false)],ct:=[(137,yu 70 59 7 yN 0),(121,yl 54 9 5 50 yW 0)],bk:=[(6,yc 3 7)],nb:=[5,4,5,4]})
 (.br (.aB (.var 0) (.lit 4))
  (.fin {lo:=71,az:=4,iv:=yo [(137,yv 70)]<|yr 132 65 7<|yo [(124,yv 57),(123,yv 56),(120,yv 53),(119,yv 52),(136,yv 69),(117,yv 50),(116,yv 49),(114,yv 47)]<|yr 112 45 4<|yr 107 40 4<|yo [(102,.lit 0),(101,.lit 0),(100,.lit 0),(99,.lit 0),(97,.lit 0),(96,.lit 0),(95,.lit 0),(94,.lit 0),(93,.lit 24),(92,.lit 0),(91,.lit 0),(90,.lit 1),(89,.lit 12)]<|yr 88 21 4<|yr 83 16 4<|yr 78 11 8 [],bv:=[(134,yw 67),(133,yw 66),(125,yw 58),(122,yw 55),(118,yw 51),(115,yw 48),(113,yw 46),(108,yw 41),(103,.lit false),(98,.lit false),(84,yw 17),(79,yw 12)],ct:=[(137,yu 70 59 7 yN 0),(136,yu 69 70 7 yN 0),(135,yu 68 49 5 yW 0),(121,yl 54 9 5 50 yW 0)],bk:=[(6,yc 3 7),(5,yc 2 7),(4,yc 1 5)]})
  (.call 0 {lo:=0,az:=0,iv:=yo [(70,yv 70)]<|yr 65 65 7<|yo [(57,yv 57),(56,yv 56)]<|yr 3 3 4<|yo [(53,yv 53),(52,yv 52),(69,yv 69),(50,yv 50),(49,yv 49),(47,yv 47)]<|yr 45 45 4<|yr 40 40 4<|yr 35 35 4<|yr 30 30 13<|yr 16 16 4<|yr 11 11 8<|[(71,.lit 0)],bv:=[(67,yw 67),(66,yw 66),(58,yw 58),(55,yw 55),(51,yw 51),(48,yw 48),(46,yw 46),(41,yw 41),(36,yw 36),(31,yw 31),(17,yw 17),(12,yw 12)],ct:=[(70,yu 70 59 7 yN 0),(69,yu 69 70 7 yN 0),(68,yu 68 49 5 yW 0),(54,yl 54 9 5 50 yW 0)],bk:=[(3,yc 3 7),(2,yc 2 7),(1,yc 1 5),(0,yb 0)]} 71 <|
   .fin {lo:=71,az:=4,iv:=yo [(137,yv 137)]<|yr 132 132 7<|yo [(124,yv 124),(123,yv 123),(120,yv 120),(119,yv 119),(136,yv 136),(117,yv 117),(116,yv 116),(114,yv 114)]<|yr 112 112 4<|yr 107 107 4<|yr 102 102 4<|yr 97 97 13<|yr 83 83 4<|yr 78 78 8 [],bv:=[(134,yw 134),(133,yw 133),(125,yw 125),(122,yw 122),(118,yw 118),(115,yw 115),(113,yw 113),(108,yw 108),(103,yw 103),(98,yw 98),(84,yw 84),(79,yw 79)],ct:=[(137,yu 137 126 7 yN 0),(136,yu 136 137 7 yN 0),(135,yu 135 116 5 yW 0),(121,yl 121 9 5 50 yW 0)],bk:=[(6,yc 6 7),(5,yc 5 7),(4,yc 4 5)]}))
theorem TP:exec tab VF 8000 [] (dZ ji.f ji.nv [] ji.gl ji.hp ji.args)=FX:=by kernel_rfl
def xy (ρ:Env):Prop:=bK ρ 71∧aa ρ 0 71=(aa ρ 0 4).scan
theorem TQ (ρ:Env) (hpre:xx ρ.num):Sat xy Ot [] ρ FX:=by
 replace hpre:xx ρ:=hpre
 obtain ⟨⟨o1,o2,o3⟩,hs⟩:=hpre
 unfold FX
 refine Sat.br (fun c=>?_) (fun c=>?_)
 ·simp only [Da] at c
  have hm:(aa ρ 0 4).scan=(aa ρ 0 4).done:=if_pos c
  exact Sat.fin ⟨⟨(by first | exact o1 | exact o2 | exact o3 | exact aj rfl rfl | assumption),(by first | exact o2 | exact ⟨aj rfl rfl,Int.le_refl 0,.inl rfl⟩ | assumption),(by first | exact o1 | exact o2 | exact o3 | exact aj rfl rfl | assumption)⟩,Eq.trans (b:=(aa ρ 0 4).done) (RS.ext' rfl rfl rfl rfl rfl rfl bA bF rfl rfl rfl rfl bE rfl bB rfl rfl) (Eq.symm (hm))⟩
 ·simp only [Da] at c
  refine Sat.br (fun c2=>?_) (fun c2=>?_)
  ·simp only [Da] at c2
   have hm:(aa ρ 0 4).scan=(aa ρ 0 4).era 12:=(if_neg c).trans (if_pos c2)
   exact Sat.fin ⟨⟨(by first | exact o1 | exact o2 | exact o3 | exact aj rfl rfl | assumption),(by first | exact o2 | exact ⟨aj rfl rfl,Int.le_refl 0,.inl rfl⟩ | assumption),(by first | exact o1 | exact o2 | exact o3 | exact aj rfl rfl | assumption)⟩,Eq.trans (b:=(aa ρ 0 4).era 12) (RS.ext' rfl rfl rfl rfl rfl rfl bA bF rfl rfl rfl rfl bE rfl bB rfl rfl) (Eq.symm (hm))⟩
  ·simp only [Da] at c2
   have hm:(aa ρ 0 4).scan=((aa ρ 0 4).look 0).getD (aa ρ 0 4):=(if_neg c).trans (if_neg c2)
   refine eB (c:=iR) rfl (aa ρ 0 4) (((aa ρ 0 4).look 0).getD (aa ρ 0 4)) (by decide) (by decide) (jq rfl rfl rfl rfl) ⟨⟨o1,o2,o3⟩,hs,Int.le_refl 0,(show (0:Int)≤1000000 by decide)⟩ (RS.ext' rfl rfl rfl rfl rfl rfl bA bF rfl rfl rfl rfl bE rfl bB rfl rfl) (fun e hq hr=>⟨hq.1,by
     have h2:=hq.2.2
     rw [hr] at h2
     exact h2⟩) (fun q=>(bK q 71)∧aa q 0 71=(aa q 0 4).scan) (fun e h1 h2=>⟨h1,h2.trans hm.symm⟩) fun q hq=>?_
   obtain ⟨⟨o1,o2,o3⟩,hm⟩:=hq
   exact Sat.fin ⟨⟨(by first | exact o1 | exact o2 | exact o3 | exact aj rfl rfl | assumption),(by first | exact o2 | exact ⟨aj rfl rfl,Int.le_refl 0,.inl rfl⟩ | assumption),(by first | exact o1 | exact o2 | exact o3 | exact aj rfl rfl | assumption)⟩,Eq.trans (b:=(aa q 0 71)) (RS.ext' rfl rfl rfl rfl rfl rfl bA bF rfl rfl rfl rfl bE rfl bB rfl rfl) (Eq.symm (hm.symm))⟩
theorem Ko:aV Tryz.prog ji xx xy :=
 cK dF (E:=VF) (cs:=Ot) rfl WZ bO rfl TP (by kernel_rfl) (fun ρ _ p hp=>by cases hp) TQ
def Kq (ρ:Env) (v:Nat):Prop:=ρ.iv (v+55)≤1000000
noncomputable def VG:Ex:={sched:=sched,loops:=[],fin:=jE}
def FY:Out :=
 .ob (.aA (.mul (.add (.var 59) (.lit 1)) (.lit 56)) (.lit 140737488355328)) <|
 .ob (.aA (.lit 0) (.var 59)) <|
 .ob (.aA (.var 59) (.var 60)) <|
 .ob (.aA (.var 60) (.lit 9223372036854775807)) <|
 .ob (.or (.not (.var 58)) (.aB (.var 59) (.lit 0))) <|
 .new 73 [.be (.and (.aA (.add (.var 59) (.lit 1)) (.var 73)) (.aA (.var 73) (.lit 9223372036854775807)))] <|
 .fin {lo:=73,az:=4,iv:=yo [(139,yv 70)]<|yr 134 65 5<|yo [(129,yv 73),(128,.add (.var 59) (.lit 1)),(126,yv 57),(125,yv 56),(122,yv 53),(121,yv 52),(138,yv 69),(119,yv 50),(118,yv 49),(116,yv 47)]<|yr 114 45 4<|yr 109 40 4<|yr 104 35 4<|yr 99 30 13<|yr 85 16 4<|yr 80 11 8 [],bv:=[(136,yw 67),(135,yw 66),(127,.lit false),(124,yw 55),(120,yw 51),(117,yw 48),(115,yw 46),(110,yw 41),(105,yw 36),(100,yw 31),(86,yw 17),(81,yw 12)],ct:=[(139,.up {r:=70,n1:=.add (.var 59) (.lit 1),s1:=7,ks:=yN} 0 [⟨0,(.var 59),(.lit 0),0,.int .i64 (.var 8)⟩,⟨0,(.var 59),(.lit 0),1,.int .i64 (.var 9)⟩,⟨0,(.var 59),(.lit 0),2,.int .i64 (.lit 0)⟩,⟨0,(.var 59),(.lit 0),3,.int .i64 (.lit 0)⟩,⟨0,(.var 59),(.lit 0),4,.bool (.lit false)⟩,⟨0,(.var 59),(.lit 0),5,.int .i64 (.var 71)⟩,⟨0,(.var 59),(.lit 0),6,.int .i64 (.var 72)⟩] (.lit 0)),(138,yu 69 70 7 yN 0),(137,yu 68 49 5 yW 0),(123,yl 54 9 5 50 yW 0)],bk:=[(6,yc 7 7),(5,yc 2 7),(4,yc 1 5)]}
theorem TR:exec tab VG 8000 [] (dZ jE.f jE.nv [] jE.gl jE.hp jE.args)=FY:=by kernel_rfl
def AA (ρ:Env):Prop:=bK ρ 4∧Kq ρ 4
def Cz (ρ:Env):Prop:=bK ρ 73∧aa ρ 0 73=(aa ρ 0 4).note (ρ.iv 71) (ρ.iv 72)
theorem TS (ρ:Env) (hpre:AA ρ.num):Sat Cz [] [] ρ FY:=by
 replace hpre:AA ρ:=hpre
 obtain ⟨⟨o1,o2,o3⟩,hf⟩:=hpre
 have MK:=o3
 obtain ⟨p1,p2,p3,p4⟩:=o3
 replace hf:ρ.iv 59≤1000000:=hf
 unfold FY
 refine Sat.ob (by simp only [Da];omega) (Sat.ob (decide_eq_true p2) (Sat.ob (decide_eq_true p3) (Sat.ob (decide_eq_true p4) (Sat.ob (aK MK) (Sat.zD (fun q=>bK q 4∧0≤q.iv 59) (fun e=>⟨⟨o1,o2,MK⟩,p2⟩) fun q hq hb=>?_)))))
 obtain ⟨⟨o1,o2,o3⟩,p2⟩:=hq
 simp only [Da] at hb
 have hn:∀i:Nat,(i:Int)<q.iv 59→¬(q.iv 59).toNat=i:=fun i hi h=>by omega
 refine Sat.fin ⟨⟨(by first | exact o1 | exact o2 | exact o3 | exact aj rfl rfl | assumption),(by first | exact o2 | exact ⟨aj rfl rfl,Int.le_refl 0,.inl rfl⟩ | assumption),?_⟩,Eq.trans (b:=(aa q 0 4).note (q.iv 71) (q.iv 72)) (RS.ext' rfl rfl rfl rfl rfl rfl bA bF rfl rfl rfl rfl bE rfl ?_ rfl rfl) (Eq.symm (rfl))⟩
 ·refine ⟨fun h=>(by cases h),?_,?_,?_⟩
  ·show 0≤q.iv 59+1;omega
  ·exact hb.1
  ·exact hb.2
 ·refine (Ol (ρ:=q) (r:=70) (n:=q.iv 59) (w:=⟨Wd.gF (ak q 8),q.iv 71,q.iv 72⟩) p2 rfl (fun i hi=>?_) ?_)
  ·simp [bR,aF,-Int.pred_toNat,Sub.ag,assoc,CV.I,CV.B,ah,ai,ae.I,ae.B,SC.I,SC.B,IE.den,BE.den,hn i hi]
  ·simp [bR,aF,ak,Wd.gF,-Int.pred_toNat,Sub.ag,assoc,CV.I,CV.B,ah,ai,ae.I,ae.B,SC.I,SC.B,IE.den,BE.den]
theorem TT:aV Tryz.prog jE AA Cz :=
 cK dF (E:=VG) (cs:=[]) rfl (fun k pre post h=>by cases h) bO rfl TR (by kernel_rfl) (fun ρ _ p hp=>by cases hp) TS
def Iz:mY:=[(ji,xx,xy)]
theorem TU:∀k pre post,(k,pre,post)∈Iz→jM k=true∧aV Tryz.prog k pre post:=by
 intro k pre post h
 simp only [Iz,List.mem_cons,List.not_mem_nil,or_false,Prod.mk.injEq] at h
 obtain ⟨rfl,rfl,rfl⟩:=h
 exact ⟨by kernel_rfl,Ko⟩
noncomputable def QE:Ex:={sched:=sched,loops:=[],cons:=[ji],fin:=iI}
def CB:Out :=
 .ob (.or (.not (.var 58)) (.aB (.var 59) (.lit 0))) <|
 .ob (.aA (.lit 0) (.var 59)) <|
 .br (.aA (.var 3) (.var 59))
 (.call 0 {lo:=0,az:=0,iv:=yo [(70,yv 70)]<|yr 65 65 7<|yo [(57,yv 57),(56,yv 56)]<|yr 3 3 4<|yo [(53,yv 53),(52,yv 52),(69,yv 69),(50,yv 50),(49,yv 49),(47,yv 47)]<|yr 45 45 4<|yr 40 40 4<|yr 35 35 4<|yr 30 30 13<|yr 16 16 4<|yr 11 11 8 [],bv:=[(67,yw 67),(66,yw 66),(58,yw 58),(55,yw 55),(51,yw 51),(48,yw 48),(46,yw 46),(41,yw 41),(36,yw 36),(31,yw 31),(17,yw 17),(12,yw 12)],ct:=[(70,yu 70 59 7 yN 0),(69,yu 69 70 7 yN 0),(68,yu 68 49 5 yW 0),(54,yl 54 9 5 50 yW 0)],bk:=[(3,yc 3 7),(2,yc 2 7),(1,yc 1 5),(0,yb 0)]} 71 <|
  .fin {lo:=71,az:=4,iv:=yo [(137,yv 137)]<|yr 132 132 7<|yo [(124,yv 124),(123,yv 123),(120,yv 120),(119,yv 119),(136,yv 136),(117,yv 117),(116,yv 116),(114,yv 114)]<|yr 112 112 4<|yr 107 107 4<|yr 102 102 4<|yr 97 97 13<|yr 83 83 4<|yr 78 78 8 [],bv:=[(134,yw 134),(133,yw 133),(125,yw 125),(122,yw 122),(118,yw 118),(115,yw 115),(113,yw 113),(108,yw 108),(103,yw 103),(98,yw 98),(84,yw 84),(79,yw 79)],ct:=[(137,yu 137 126 7 yN 0),(136,yu 136 137 7 yN 0),(135,yu 135 116 5 yW 0),(121,yl 121 9 5 50 yW 0)],bk:=[(6,yc 6 7),(5,yc 5 7),(4,yc 4 5)]})
 (.fin {lo:=71,az:=4,iv:=yo [(132,.lit 0),(131,.lit 0),(130,.lit 0),(129,.lit 0)]<|yr 128 61 3<|[(124,yv 57),(123,yv 56),(120,.lit 0),(119,.lit 0),(117,.lit 0),(116,.lit 0),(114,.lit 0),(112,.lit 0),(111,.lit 0),(110,.lit 0),(109,.lit 0),(107,.lit 0),(106,.lit 0),(105,.lit 0),(104,.lit 0),(102,.lit 0),(101,.lit 0),(100,.lit 0),(99,.lit 0),(97,.lit 0),(96,.lit 0),(95,.lit 0),(94,.lit 0),(93,.lit 0),(92,.lit 0),(91,.lit 0),(90,.lit 0),(89,.lit 0),(88,.lit 0),(87,.lit 0),(86,.lit 0),(85,.lit 0),(83,.lit 0),(82,.lit 0),(81,.lit 0),(80,.lit 0),(78,.lit 0),(77,.lit 0),(76,.lit 0),(75,.lit 0),(74,.lit 0),(73,.lit 0),(72,.lit 0),(71,.lit 0)],bv:=[(134,.lit true),(133,.lit false),(125,yw 58),(122,yw 55),(118,.lit true),(115,.lit true),(113,.lit false),(108,.lit false),(103,.lit false),(98,.lit false),(84,.lit false),(79,.lit false)],ct:=[(137,yu 70 59 7 yN 0),(121,yl 54 9 5 50 yW 0)],bk:=[(6,yc 3 7)],nb:=[5,4,5,4]})
theorem QG:exec tab QE 8000 [] (dZ iI.f iI.nv [] iI.gl iI.hp iI.args)=CB:=by kernel_rfl
def zK (ρ:Env):Prop:=bK ρ 71∧aa ρ 0 71=(aa ρ 0 4).dO
theorem QH (ρ:Env) (hpre:xx ρ.num):Sat zK Iz [] ρ CB:=by
 replace hpre:xx ρ:=hpre
 obtain ⟨⟨o1,o2,o3⟩,hs⟩:=hpre
 unfold CB
 have hl:((aa ρ 0 4).notes.length:Int)=ρ.iv 59:=by
  have:=o3.2.1
  show ((aT ρ 70 (ρ.iv 59)).length:Int)=_
  rw [jP]
  exact Int.toNat_of_nonneg this
 refine Sat.ob (aK o3) (Sat.ob (decide_eq_true o3.2.1) (Sat.br (fun c=>?_) (fun c=>?_)))
 ·simp only [Da] at c
  have hm:(aa ρ 0 4).dO=(aa ρ 0 4).scan:=if_pos (by rw [hl];exact c)
  refine eB (c:=ji) rfl (aa ρ 0 4) (aa ρ 0 4).scan (by decide) (by decide) (jq rfl rfl rfl rfl) ⟨⟨o1,o2,o3⟩,hs⟩ (RS.ext' rfl rfl rfl rfl rfl rfl bA bF rfl rfl rfl rfl bE rfl bB rfl rfl) (fun e hq hr=>⟨hq.1,by rw [←hr];exact hq.2⟩) (fun q=>(bK q 71)∧aa q 0 71=(aa q 0 4).dO) (fun e h1 h2=>⟨h1,h2.trans hm.symm⟩) fun q hq=>?_
  obtain ⟨⟨o1,o2,o3⟩,hm⟩:=hq
  exact Sat.fin ⟨⟨(by first | exact o1 | exact o2 | exact o3 | exact aj rfl rfl | assumption),(by first | exact o2 | exact ⟨aj rfl rfl,Int.le_refl 0,.inl rfl⟩ | assumption),(by first | exact o1 | exact o2 | exact o3 | exact aj rfl rfl | assumption)⟩,Eq.trans (b:=(aa q 0 71)) (RS.ext' rfl rfl rfl rfl rfl rfl bA bF rfl rfl rfl rfl bE rfl bB rfl rfl) (Eq.symm (hm.symm))⟩
 ·simp only [Da] at c
  have hm:(aa ρ 0 4).dO=(aa ρ 0 4).done:=if_neg (by rw [hl];show ¬ρ.iv 59≥ρ.iv 3;omega)
  exact Sat.fin ⟨⟨(by first | exact o1 | exact o2 | exact o3 | exact aj rfl rfl | assumption),(by first | exact o2 | exact ⟨aj rfl rfl,Int.le_refl 0,.inl rfl⟩ | assumption),(by first | exact o1 | exact o2 | exact o3 | exact aj rfl rfl | assumption)⟩,Eq.trans (b:=(aa ρ 0 4).done) (RS.ext' rfl rfl rfl rfl rfl rfl bA bF rfl rfl rfl rfl bE rfl bB rfl rfl) (Eq.symm (hm))⟩
theorem QI:aV Tryz.prog iI xx zK :=
 cK dF (E:=QE) (cs:=Iz) rfl TU bO rfl QG (by kernel_rfl) (fun ρ _ p hp=>by cases hp) QH
def FZ:mY:=[(jE,AA,Cz),(iI,xx,zK)]
theorem ML:∀k pre post,(k,pre,post)∈FZ→jM k=true∧aV Tryz.prog k pre post:=by
 intro k pre post h
 simp only [FZ,List.mem_cons,List.not_mem_nil,or_false,Prod.mk.injEq] at h
 rcases h with ⟨rfl,rfl,rfl⟩ | ⟨rfl,rfl,rfl⟩
 ·exact ⟨by kernel_rfl,TT⟩
 ·exact ⟨by kernel_rfl,QI⟩
noncomputable def MM:Ex:={sched:=sched,loops:=[],cons:=[jE,iI],fin:=jh}
def zL:Out :=
 .br (.aB (.var 0) (.lit 2))
 (.call 0 {lo:=0,az:=0,iv:=yo [(70,yv 70)]<|yr 65 65 7<|yo [(57,yv 57),(56,yv 56)]<|yr 3 3 4<|yo [(53,yv 53),(52,yv 52),(69,yv 69),(50,yv 50),(49,yv 49),(47,yv 47)]<|yr 45 45 4<|yr 40 40 4<|yr 35 35 4<|yr 30 30 13<|yr 16 16 4<|yr 11 11 8<|[(72,.lit 0),(71,.lit 0)],bv:=[(67,yw 67),(66,yw 66),(58,yw 58),(55,yw 55),(51,yw 51),(48,yw 48),(46,yw 46),(41,yw 41),(36,yw 36),(31,yw 31),(17,yw 17),(12,yw 12)],ct:=[(70,yu 70 59 7 yN 0),(69,yu 69 70 7 yN 0),(68,yu 68 49 5 yW 0),(54,yl 54 9 5 50 yW 0)],bk:=[(3,yc 3 7),(2,yc 2 7),(1,yc 1 5),(0,yb 0)]} 71 <|
  .call 1 {lo:=0,az:=0,iv:=yo [(70,yv 137)]<|yr 65 132 7<|yo [(57,yv 124),(56,yv 123)]<|yr 3 3 4<|yo [(53,yv 120),(52,yv 119),(69,yv 136),(50,yv 117),(49,yv 116),(47,yv 114)]<|yr 45 112 4<|yr 40 107 4<|yr 35 102 4<|yr 30 97 13<|yr 16 83 4<|yr 11 78 8 [],bv:=[(67,yw 134),(66,yw 133),(58,yw 125),(55,yw 122),(51,yw 118),(48,yw 115),(46,yw 113),(41,yw 108),(36,yw 103),(31,yw 98),(17,yw 84),(12,yw 79)],ct:=[(70,yu 137 126 7 yN 0),(69,yu 136 137 7 yN 0),(68,yu 135 116 5 yW 0),(54,yl 121 9 5 50 yW 0)],bk:=[(3,yc 6 7),(2,yc 5 7),(1,yc 4 5),(0,yb 0)]} 138 <|
  .fin {lo:=71,az:=4,iv:=yo [(137,yv 204)]<|yr 132 199 7<|yo [(124,yv 191),(123,yv 190),(120,yv 187),(119,yv 186),(136,yv 203),(117,yv 184),(116,yv 183),(114,yv 181)]<|yr 112 179 4<|yr 107 174 4<|yr 102 169 4<|yr 97 164 13<|yr 83 150 4<|yr 78 145 8 [],bv:=[(134,yw 201),(133,yw 200),(125,yw 192),(122,yw 189),(118,yw 185),(115,yw 182),(113,yw 180),(108,yw 175),(103,yw 170),(98,yw 165),(84,yw 151),(79,yw 146)],ct:=[(137,yu 204 193 7 yN 0),(136,yu 203 204 7 yN 0),(135,yu 202 183 5 yW 0),(121,yl 188 9 5 50 yW 0)],bk:=[(6,yc 9 7),(5,yc 8 7),(4,yc 7 5)]})
 (.br (.aB (.var 0) (.lit 4))
  (.fin {lo:=71,az:=4,iv:=yo [(137,yv 70)]<|yr 132 65 7<|yo [(124,yv 57),(123,yv 56),(120,yv 53),(119,yv 52),(136,yv 69),(117,yv 50),(116,yv 49),(114,yv 47)]<|yr 112 45 4<|yr 107 40 4<|yo [(102,.lit 0),(101,.lit 0),(100,.lit 0),(99,.lit 0),(97,.lit 0),(96,.lit 0),(95,.lit 0),(94,.lit 0),(93,.lit 24),(92,.lit 0),(91,.lit 0),(90,.lit 1),(89,.lit 10)]<|yr 88 21 4<|yr 83 16 4<|yr 78 11 8 [],bv:=[(134,yw 67),(133,yw 66),(125,yw 58),(122,yw 55),(118,yw 51),(115,yw 48),(113,yw 46),(108,yw 41),(103,.lit false),(98,.lit false),(84,yw 17),(79,yw 12)],ct:=[(137,yu 70 59 7 yN 0),(136,yu 69 70 7 yN 0),(135,yu 68 49 5 yW 0),(121,yl 54 9 5 50 yW 0)],bk:=[(6,yc 3 7),(5,yc 2 7),(4,yc 1 5)]})
  (.br (.aB (.var 0) (.lit 3))
   (.fin {lo:=71,az:=4,iv:=yo [(137,yv 70)]<|yr 132 65 7<|yo [(124,yv 57),(123,yv 56),(120,yv 53),(119,yv 52),(136,yv 69),(117,yv 50),(116,yv 49),(114,yv 47)]<|yr 112 45 4<|yr 107 40 4<|yo [(102,.lit 0),(101,.lit 0),(100,.lit 0),(99,.lit 0),(97,.lit 0),(96,.lit 0),(95,.lit 0),(94,.lit 0),(93,.lit 9),(92,yv 9),(91,yv 8),(90,.lit 1),(89,.lit 9)]<|yr 88 21 4<|yr 83 16 4<|yr 78 11 8 [],bv:=[(134,yw 67),(133,yw 66),(125,yw 58),(122,yw 55),(118,yw 51),(115,yw 48),(113,yw 46),(108,yw 41),(103,.lit false),(98,.lit false),(84,yw 17),(79,yw 12)],ct:=[(137,yu 70 59 7 yN 0),(136,yu 69 70 7 yN 0),(135,yu 68 49 5 yW 0),(121,yl 54 9 5 50 yW 0)],bk:=[(6,yc 3 7),(5,yc 2 7),(4,yc 1 5)]})
   (.br (.aB (.var 0) (.lit 5))
    (.fin {lo:=71,az:=4,iv:=yo [(137,yv 70)]<|yr 132 65 7<|yo [(124,yv 57),(123,yv 56),(120,yv 53),(119,yv 52),(136,yv 69),(117,yv 50),(116,yv 49),(114,yv 47)]<|yr 112 45 4<|yr 107 40 4<|yo [(102,.lit 0),(101,.lit 0),(100,.lit 0),(99,.lit 0),(97,.lit 0),(96,.lit 0),(95,.lit 0),(94,.lit 0),(93,.lit 9),(92,yv 9),(91,yv 8),(90,.lit 1),(89,.lit 9)]<|yr 88 21 4<|yr 83 16 4<|yr 78 11 8 [],bv:=[(134,yw 67),(133,yw 66),(125,yw 58),(122,yw 55),(118,yw 51),(115,yw 48),(113,yw 46),(108,yw 41),(103,.lit false),(98,.lit false),(84,yw 17),(79,yw 12)],ct:=[(137,yu 70 59 7 yN 0),(136,yu 69 70 7 yN 0),(135,yu 68 49 5 yW 0),(121,yl 54 9 5 50 yW 0)],bk:=[(6,yc 3 7),(5,yc 2 7),(4,yc 1 5)]})
    (.fin {lo:=71,az:=4,iv:=yo [(132,.lit 0),(131,.lit 0),(130,.lit 0),(129,.lit 0)]<|yr 128 61 3<|[(124,yv 57),(123,yv 56),(120,.lit 0),(119,.lit 0),(117,.lit 0),(116,.lit 0),(114,.lit 0),(112,.lit 0),(111,.lit 0),(110,.lit 0),(109,.lit 0),(107,.lit 0),(106,.lit 0),(105,.lit 0),(104,.lit 0),(102,.lit 0),(101,.lit 0),(100,.lit 0),(99,.lit 0),(97,.lit 0),(96,.lit 0),(95,.lit 0),(94,.lit 0),(93,.lit 0),(92,.lit 0),(91,.lit 0),(90,.lit 0),(89,.lit 0),(88,.lit 0),(87,.lit 0),(86,.lit 0),(85,.lit 0),(83,.lit 0),(82,.lit 0),(81,.lit 0),(80,.lit 0),(78,.lit 0),(77,.lit 0),(76,.lit 0),(75,.lit 0),(74,.lit 0),(73,.lit 0),(72,.lit 0),(71,.lit 0)],bv:=[(134,.lit true),(133,.lit false),(125,yw 58),(122,yw 55),(118,.lit true),(115,.lit true),(113,.lit false),(108,.lit false),(103,.lit false),(98,.lit false),(84,.lit false),(79,.lit false)],ct:=[(137,yu 70 59 7 yN 0),(121,yl 54 9 5 50 yW 0)],bk:=[(6,yc 3 7)],nb:=[5,4,5,4]}))))
theorem Ou:exec tab MM 8000 [] (dZ jh.f jh.nv [] jh.gl jh.hp jh.args)=zL:=by kernel_rfl
def ui (ρ:Env):Prop:=bK ρ 4∧vL ρ∧Kq ρ 4
def xz (ρ:Env):Prop:=bK ρ 71∧aa ρ 0 71=(aa ρ 0 4).fU
theorem Ov (ρ:Env) (hpre:ui ρ.num):Sat xz FZ [] ρ zL:=by
 replace hpre:ui ρ:=hpre
 obtain ⟨⟨o1,o2,o3⟩,hs,hf⟩:=hpre
 unfold zL
 refine Sat.br (fun c=>?_) (fun c=>?_)
 ·simp only [Da] at c
  have hm:(aa ρ 0 4).fU=((aa ρ 0 4).note 0 0).dO:=if_pos c
  refine eB (c:=jE) rfl (aa ρ 0 4) ((aa ρ 0 4).note 0 0) (by decide) (by decide) (jq rfl rfl rfl rfl) ⟨⟨o1,o2,o3⟩,hf⟩ (RS.ext' rfl rfl rfl rfl rfl rfl bA bF rfl rfl rfl rfl bE rfl bB rfl rfl) (fun e hq hr=>⟨hq.1,by rw [←hr];exact hq.2⟩) (fun q=>(bK q 71)∧vL q∧aa q 0 71=(aa q 0 4).note 0 0∧(aa q 0 4).fU=((aa q 0 4).note 0 0).dO) (fun e h1 h2=>⟨h1,hs,h2,hm⟩) fun q hq=>?_
  obtain ⟨⟨o1,o2,o3⟩,hs,hn,hm⟩:=hq
  refine eB (c:=iI) rfl (aa q 0 71) (aa q 0 71).dO (by decide) (by decide) (jq rfl rfl rfl rfl) ⟨⟨o1,o2,o3⟩,hs⟩ (RS.ext' rfl rfl rfl rfl rfl rfl bA bF rfl rfl rfl rfl bE rfl bB rfl rfl) (fun e hq hr=>⟨hq.1,by rw [←hr];exact hq.2⟩) (fun u=>(bK u 138)∧aa u 0 138=(aa u 0 4).fU) (fun e h1 h2=>⟨h1,h2.trans ((congrArg RS.dO hn).trans hm.symm)⟩) fun u hu=>?_
  obtain ⟨⟨o1,o2,o3⟩,hm⟩:=hu
  exact Sat.fin ⟨⟨(by first | exact o1 | exact o2 | exact o3 | exact aj rfl rfl | assumption),(by first | exact o2 | exact ⟨aj rfl rfl,Int.le_refl 0,.inl rfl⟩ | assumption),(by first | exact o1 | exact o2 | exact o3 | exact aj rfl rfl | assumption)⟩,Eq.trans (b:=(aa u 0 138)) (RS.ext' rfl rfl rfl rfl rfl rfl bA bF rfl rfl rfl rfl bE rfl bB rfl rfl) (Eq.symm (hm.symm))⟩
 ·simp only [Da] at c
  refine Sat.br (fun c2=>?_) (fun c2=>?_)
  ·simp only [Da] at c2
   have hm:(aa ρ 0 4).fU=(aa ρ 0 4).era 10:=(if_neg c).trans (if_pos c2)
   exact Sat.fin ⟨⟨(by first | exact o1 | exact o2 | exact o3 | exact aj rfl rfl | assumption),(by first | exact o2 | exact ⟨aj rfl rfl,Int.le_refl 0,.inl rfl⟩ | assumption),(by first | exact o1 | exact o2 | exact o3 | exact aj rfl rfl | assumption)⟩,Eq.trans (b:=(aa ρ 0 4).era 10) (RS.ext' rfl rfl rfl rfl rfl rfl bA bF rfl rfl rfl rfl bE rfl bB rfl rfl) (Eq.symm (hm))⟩
  ·simp only [Da] at c2
   refine Sat.br (fun c3=>?_) (fun c3=>?_)
   ·simp only [Da] at c3
    have hm:(aa ρ 0 4).fU=(aa ρ 0 4).load 9 (ρ.iv 8) (ρ.iv 9) 9:=(if_neg c).trans ((if_neg c2).trans (if_pos (.inl c3)))
    exact Sat.fin ⟨⟨(by first | exact o1 | exact o2 | exact o3 | exact aj rfl rfl | assumption),(by first | exact o2 | exact ⟨aj rfl rfl,Int.le_refl 0,.inl rfl⟩ | assumption),(by first | exact o1 | exact o2 | exact o3 | exact aj rfl rfl | assumption)⟩,Eq.trans (b:=(aa ρ 0 4).load 9 (ρ.iv 8) (ρ.iv 9) 9) (RS.ext' rfl rfl rfl rfl rfl rfl bA bF rfl rfl rfl rfl bE rfl bB rfl rfl) (Eq.symm (hm))⟩
   ·simp only [Da] at c3
    refine Sat.br (fun c4=>?_) (fun c4=>?_)
    ·simp only [Da] at c4
     have hm:(aa ρ 0 4).fU=(aa ρ 0 4).load 9 (ρ.iv 8) (ρ.iv 9) 9:=(if_neg c).trans ((if_neg c2).trans (if_pos (.inr c4)))
     exact Sat.fin ⟨⟨(by first | exact o1 | exact o2 | exact o3 | exact aj rfl rfl | assumption),(by first | exact o2 | exact ⟨aj rfl rfl,Int.le_refl 0,.inl rfl⟩ | assumption),(by first | exact o1 | exact o2 | exact o3 | exact aj rfl rfl | assumption)⟩,Eq.trans (b:=(aa ρ 0 4).load 9 (ρ.iv 8) (ρ.iv 9) 9) (RS.ext' rfl rfl rfl rfl rfl rfl bA bF rfl rfl rfl rfl bE rfl bB rfl rfl) (Eq.symm (hm))⟩
    ·simp only [Da] at c4
     have hm:(aa ρ 0 4).fU=(aa ρ 0 4).done:=(if_neg c).trans ((if_neg c2).trans (if_neg (fun h=>h.elim c3 c4)))
     exact Sat.fin ⟨⟨(by first | exact o1 | exact o2 | exact o3 | exact aj rfl rfl | assumption),(by first | exact o2 | exact ⟨aj rfl rfl,Int.le_refl 0,.inl rfl⟩ | assumption),(by first | exact o1 | exact o2 | exact o3 | exact aj rfl rfl | assumption)⟩,Eq.trans (b:=(aa ρ 0 4).done) (RS.ext' rfl rfl rfl rfl rfl rfl bA bF rfl rfl rfl rfl bE rfl bB rfl rfl) (Eq.symm (hm))⟩
theorem Ow:aV Tryz.prog jh ui xz :=
 cK dF (E:=MM) (cs:=FZ) rfl ML bO rfl Ou (by kernel_rfl) (fun ρ _ p hp=>by cases hp) Ov
def ED (ρ:Env) (v:Nat):Prop:=(-1000000000000≤ρ.iv (v+2)∧ρ.iv (v+2)≤1000000000000)∧-1000000000000≤ρ.iv (v+3)∧ρ.iv (v+3)≤1000000000000
noncomputable def VH:Ex:={sched:=sched,loops:=[],cons:=[jE,iI],fin:=jF}
def F3:Out :=
 .br (.aB (.var 22) (.lit 9))
 (.fin {lo:=77,az:=4,iv:=yo [(143,yv 70)]<|yr 138 65 7<|yo [(130,yv 57),(129,yv 56),(126,yv 53),(125,yv 52),(142,yv 69),(123,yv 50),(122,yv 49),(120,yv 47)]<|yr 118 45 4<|yr 113 74 4<|yo [(108,.lit 0),(107,.lit 0),(106,.lit 0),(105,.lit 0),(103,.lit 0),(102,.lit 0),(101,.lit 0),(100,.lit 0),(99,.lit 24),(98,.lit 0),(97,.lit 0),(96,.lit 1),(95,.lit 10)]<|yr 94 21 4<|yr 89 16 4<|yr 84 11 8 [],bv:=[(140,yw 67),(139,yw 66),(131,yw 58),(128,yw 55),(124,yw 51),(121,yw 48),(119,yw 46),(114,yw 75),(109,.lit false),(104,.lit false),(90,yw 17),(85,yw 12)],ct:=[(143,yu 70 59 7 yN 0),(142,yu 69 70 7 yN 0),(141,yu 68 49 5 yW 0),(127,yl 54 9 5 50 yW 0)],bk:=[(6,yc 3 7),(5,yc 2 7),(4,yc 1 5)]})
 (.br (.aB (.var 22) (.lit 10))
  (.call 0 {lo:=0,az:=0,iv:=yo [(70,yv 70)]<|yr 65 65 7<|yo [(57,yv 57),(56,yv 56)]<|yr 3 3 4<|yo [(53,yv 53),(52,yv 52),(69,yv 69),(50,yv 50),(49,yv 49),(47,yv 47)]<|yr 45 74 4<|yr 40 40 4<|yr 35 35 4<|yr 30 30 13<|yr 16 16 4<|yr 11 11 8<|[(72,yv 74),(71,yv 40)],bv:=[(67,yw 67),(66,yw 66),(58,yw 58),(55,yw 55),(51,yw 51),(48,yw 48),(46,yw 75),(41,yw 41),(36,yw 36),(31,yw 31),(17,yw 17),(12,yw 12)],ct:=[(70,yu 70 59 7 yN 0),(69,yu 69 70 7 yN 0),(68,yu 68 49 5 yW 0),(54,yl 54 9 5 50 yW 0)],bk:=[(3,yc 3 7),(2,yc 2 7),(1,yc 1 5),(0,yb 0)]} 77 <|
   .br (.or (.aB (.var 0) (.lit 3)) (.aB (.var 0) (.lit 5)))
   (.ob (.inr .i64 (.add (.var 117) (.lit 1))) <|
    .ob (.inr .i64 (.add (.var 118) (.lit 1))) <|
    .fin {lo:=77,az:=4,iv:=yo [(143,yv 143)]<|yr 138 138 7<|yo [(130,yv 130),(129,yv 129),(126,yv 126),(125,yv 125),(142,yv 142),(123,yv 123),(122,yv 122),(120,yv 120)]<|yr 118 118 4<|yr 113 113 4<|yo [(108,.add (.var 118) (.lit 1)),(107,.add (.var 117) (.lit 1)),(106,.lit 0),(105,.lit 0)]<|yr 103 118 4<|yo [(99,.lit 24),(98,.lit 0),(97,.lit 0),(96,.lit 3),(95,.lit 11)]<|yr 94 94 4<|yr 89 89 4<|yr 84 84 8 [],bv:=[(140,yw 140),(139,yw 139),(131,yw 131),(128,yw 128),(124,yw 124),(121,yw 121),(119,yw 119),(114,yw 114),(109,.lit false),(104,yw 119),(90,yw 90),(85,yw 85)],ct:=[(143,yu 143 132 7 yN 0),(142,yu 142 143 7 yN 0),(141,yu 141 122 5 yW 0),(127,yl 127 9 5 50 yW 0)],bk:=[(6,yc 7 7),(5,yc 6 7),(4,yc 5 5)]})
   (.call 1 {lo:=0,az:=0,iv:=yo [(70,yv 143)]<|yr 65 138 7<|yo [(57,yv 130),(56,yv 129)]<|yr 3 3 4<|yo [(53,yv 126),(52,yv 125),(69,yv 142),(50,yv 123),(49,yv 122),(47,yv 120)]<|yr 45 118 4<|yr 40 113 4<|yr 35 108 4<|yr 30 103 13<|yr 16 89 4<|yr 11 84 8 [],bv:=[(67,yw 140),(66,yw 139),(58,yw 131),(55,yw 128),(51,yw 124),(48,yw 121),(46,yw 119),(41,yw 114),(36,yw 109),(31,yw 104),(17,yw 90),(12,yw 85)],ct:=[(70,yu 143 132 7 yN 0),(69,yu 142 143 7 yN 0),(68,yu 141 122 5 yW 0),(54,yl 127 9 5 50 yW 0)],bk:=[(3,yc 7 7),(2,yc 6 7),(1,yc 5 5),(0,yb 0)]} 144 <|
    .fin {lo:=77,az:=4,iv:=yo [(143,yv 210)]<|yr 138 205 7<|yo [(130,yv 197),(129,yv 196),(126,yv 193),(125,yv 192),(142,yv 209),(123,yv 190),(122,yv 189),(120,yv 187)]<|yr 118 185 4<|yr 113 180 4<|yr 108 175 4<|yr 103 170 13<|yr 89 156 4<|yr 84 151 8 [],bv:=[(140,yw 207),(139,yw 206),(131,yw 198),(128,yw 195),(124,yw 191),(121,yw 188),(119,yw 186),(114,yw 181),(109,yw 176),(104,yw 171),(90,yw 157),(85,yw 152)],ct:=[(143,yu 210 199 7 yN 0),(142,yu 209 210 7 yN 0),(141,yu 208 189 5 yW 0),(127,yl 194 9 5 50 yW 0)],bk:=[(6,yc 10 7),(5,yc 9 7),(4,yc 8 5)]}))
  (.br (.aB (.var 22) (.lit 11))
   (.call 1 {lo:=0,az:=0,iv:=yo [(70,yv 70)]<|yr 65 65 7<|yo [(57,yv 57),(56,yv 56)]<|yr 3 3 4<|yo [(53,yv 53),(52,yv 52),(69,yv 69),(50,yv 50),(49,yv 49),(47,yv 47)]<|yr 45 45 4<|yr 40 40 4<|yr 35 35 4<|yr 30 30 13<|yr 16 16 4<|yr 11 11 8 [],bv:=[(67,yw 67),(66,yw 66),(58,yw 58),(55,yw 55),(51,yw 51),(48,yw 48),(46,yw 46),(41,yw 41),(36,yw 36),(31,yw 31),(17,yw 17),(12,yw 12)],ct:=[(70,yu 70 59 7 yN 0),(69,yu 69 70 7 yN 0),(68,yu 68 49 5 yW 0),(54,yl 54 9 5 50 yW 0)],bk:=[(3,yc 3 7),(2,yc 2 7),(1,yc 1 5),(0,yb 0)]} 77 <|
    .fin {lo:=77,az:=4,iv:=yo [(143,yv 143)]<|yr 138 138 7<|yo [(130,yv 130),(129,yv 129),(126,yv 126),(125,yv 125),(142,yv 142),(123,yv 123),(122,yv 122),(120,yv 120)]<|yr 118 118 4<|yr 113 113 4<|yr 108 108 4<|yr 103 103 13<|yr 89 89 4<|yr 84 84 8 [],bv:=[(140,yw 140),(139,yw 139),(131,yw 131),(128,yw 128),(124,yw 124),(121,yw 121),(119,yw 119),(114,yw 114),(109,yw 109),(104,yw 104),(90,yw 90),(85,yw 85)],ct:=[(143,yu 143 132 7 yN 0),(142,yu 142 143 7 yN 0),(141,yu 141 122 5 yW 0),(127,yl 127 9 5 50 yW 0)],bk:=[(6,yc 7 7),(5,yc 6 7),(4,yc 5 5)]})
   (.fin {lo:=77,az:=4,iv:=yo [(143,yv 70)]<|yr 138 65 7<|yo [(130,yv 57),(129,yv 56),(126,yv 53),(125,yv 52),(142,yv 69),(123,yv 50),(122,yv 49),(120,yv 47)]<|yr 118 45 4<|yr 113 40 4<|yr 108 35 4<|yr 103 30 13<|yr 89 16 4<|yr 84 11 8 [],bv:=[(140,yw 67),(139,yw 66),(131,yw 58),(128,yw 55),(124,yw 51),(121,yw 48),(119,yw 46),(114,yw 41),(109,yw 36),(104,yw 31),(90,yw 17),(85,yw 12)],ct:=[(143,yu 70 59 7 yN 0),(142,yu 69 70 7 yN 0),(141,yu 68 49 5 yW 0),(127,yl 54 9 5 50 yW 0)],bk:=[(6,yc 3 7),(5,yc 2 7),(4,yc 1 5)]})))
theorem TV:exec tab VH 8000 [] (dZ jF.f jF.nv [] jF.gl jF.hp jF.args)=F3:=by kernel_rfl
def AB (ρ:Env):Prop:=bK ρ 4∧vL ρ∧Kq ρ 4∧ED ρ 71
def CE (ρ:Env):Prop:=bK ρ 77∧aa ρ 0 77=(aa ρ 0 4).dY (aG ρ 71)
theorem TW (ρ:Env) (hpre:AB ρ.num):Sat CE FZ [] ρ F3:=by
 replace hpre:AB ρ:=hpre
 obtain ⟨⟨o1,o2,o3⟩,hs,hf,hw⟩:=hpre
 unfold F3
 refine Sat.br (fun c=>?_) (fun c=>?_)
 ·simp only [Da] at c
  have hm:(aa ρ 0 4).dY (aG ρ 71)=({aa ρ 0 4 with word:=ak ρ 71}:RS).era 10:=if_pos c
  exact Sat.fin ⟨⟨(by first | exact o1 | exact o2 | exact o3 | exact aj rfl rfl | assumption),(by first | exact o2 | exact ⟨aj rfl rfl,Int.le_refl 0,.inl rfl⟩ | assumption),(by first | exact o1 | exact o2 | exact o3 | exact aj rfl rfl | assumption)⟩,Eq.trans (b:=({aa ρ 0 4 with word:=ak ρ 71}:RS).era 10) (RS.ext' rfl rfl rfl rfl rfl rfl bA bF rfl rfl rfl rfl bE rfl bB rfl rfl) (Eq.symm (hm))⟩
 ·simp only [Da] at c
  refine Sat.br (fun c2=>?_) (fun c2=>?_)
  ·simp only [Da] at c2
   have hm:(aa ρ 0 4).dY (aG ρ 71)=if (aa ρ 0 4).bN then ((({aa ρ 0 4 with clock:=ak ρ 71}:RS).note (ρ.iv 40) (ρ.iv 74))).advance 11 else (({aa ρ 0 4 with clock:=ak ρ 71}:RS).note (ρ.iv 40) (ρ.iv 74)).dO:=(if_neg c).trans (if_pos c2)
   refine eB (c:=jE) rfl ({aa ρ 0 4 with clock:=ak ρ 71}:RS) (({aa ρ 0 4 with clock:=ak ρ 71}:RS).note (ρ.iv 40) (ρ.iv 74)) (by decide) (by decide) (jq rfl rfl rfl rfl) ⟨⟨o1,o2,o3⟩,hf⟩ (RS.ext' rfl rfl rfl rfl rfl rfl bA bF rfl rfl rfl rfl bE rfl bB rfl rfl) (fun e hq hr=>⟨hq.1,by rw [←hr];exact hq.2⟩) (fun q=>(bK q 77)∧vL q∧ED q 71∧aa q 0 77=({aa q 0 4 with clock:=ak q 71}:RS).note (q.iv 40) (q.iv 74)∧(aa q 0 4).dY (aG q 71)=if (aa q 0 4).bN then ((({aa q 0 4 with clock:=ak q 71}:RS).note (q.iv 40) (q.iv 74))).advance 11 else (({aa q 0 4 with clock:=ak q 71}:RS).note (q.iv 40) (q.iv 74)).dO) (fun e h1 h2=>⟨h1,hs,hw,h2,hm⟩) fun q hq=>?_
   obtain ⟨⟨o1,o2,o3⟩,hs,hw,hn,hm⟩:=hq
   rw [←hn] at hm
   have hc:ak q 115=ak q 71:=congrArg RS.clock hn
   have h3:q.iv 117=q.iv 73:=congrArg Wd.tag hc
   have h4:q.iv 118=q.iv 74:=congrArg Wd.num hc
   obtain ⟨⟨w1,w2⟩,w3,w4⟩:=hw
   simp only [Nat.reduceAdd] at w1 w2 w3 w4
   refine Sat.br (fun c3=>?_) (fun c3=>?_)
   ·simp only [Da] at c3
    rw [if_pos (show (aa q 0 4).bN from c3)] at hm
    refine Sat.ob (by simp only [Da];omega) (Sat.ob (by simp only [Da];omega) (Sat.fin ⟨⟨(by first | exact o1 | exact o2 | exact o3 | exact aj rfl rfl | assumption),(by first | exact o2 | exact ⟨aj rfl rfl,Int.le_refl 0,.inl rfl⟩ | assumption),(by first | exact o1 | exact o2 | exact o3 | exact aj rfl rfl | assumption)⟩,Eq.trans (b:=(aa q 0 77).advance 11) (RS.ext' rfl rfl rfl rfl rfl rfl bA bF rfl rfl rfl rfl bE rfl bB rfl rfl) (Eq.symm (hm))⟩))
   ·simp only [Da] at c3
    rw [if_neg (show ¬(aa q 0 4).bN from fun h:q.iv 0=3∨q.iv 0=5=>by omega)] at hm
    refine eB (c:=iI) rfl (aa q 0 77) (aa q 0 77).dO (by decide) (by decide) (jq rfl rfl rfl rfl) ⟨⟨o1,o2,o3⟩,hs⟩ (RS.ext' rfl rfl rfl rfl rfl rfl bA bF rfl rfl rfl rfl bE rfl bB rfl rfl) (fun e hq hr=>⟨hq.1,by rw [←hr];exact hq.2⟩) (fun u=>(bK u 144)∧aa u 0 144=(aa u 0 4).dY (aG u 71)) (fun e h1 h2=>⟨h1,h2.trans hm.symm⟩) fun u hu=>?_
    obtain ⟨⟨o1,o2,o3⟩,hm⟩:=hu
    exact Sat.fin ⟨⟨(by first | exact o1 | exact o2 | exact o3 | exact aj rfl rfl | assumption),(by first | exact o2 | exact ⟨aj rfl rfl,Int.le_refl 0,.inl rfl⟩ | assumption),(by first | exact o1 | exact o2 | exact o3 | exact aj rfl rfl | assumption)⟩,Eq.trans (b:=(aa u 0 144)) (RS.ext' rfl rfl rfl rfl rfl rfl bA bF rfl rfl rfl rfl bE rfl bB rfl rfl) (Eq.symm (hm.symm))⟩
  ·simp only [Da] at c2
   refine Sat.br (fun c3=>?_) (fun c3=>?_)
   ·simp only [Da] at c3
    have hm:(aa ρ 0 4).dY (aG ρ 71)=(aa ρ 0 4).dO:=(if_neg c).trans ((if_neg c2).trans (if_pos c3))
    refine eB (c:=iI) rfl (aa ρ 0 4) (aa ρ 0 4).dO (by decide) (by decide) (jq rfl rfl rfl rfl) ⟨⟨o1,o2,o3⟩,hs⟩ (RS.ext' rfl rfl rfl rfl rfl rfl bA bF rfl rfl rfl rfl bE rfl bB rfl rfl) (fun e hq hr=>⟨hq.1,by rw [←hr];exact hq.2⟩) (fun u=>(bK u 77)∧aa u 0 77=(aa u 0 4).dY (aG u 71)) (fun e h1 h2=>⟨h1,h2.trans hm.symm⟩) fun u hu=>?_
    obtain ⟨⟨o1,o2,o3⟩,hm⟩:=hu
    exact Sat.fin ⟨⟨(by first | exact o1 | exact o2 | exact o3 | exact aj rfl rfl | assumption),(by first | exact o2 | exact ⟨aj rfl rfl,Int.le_refl 0,.inl rfl⟩ | assumption),(by first | exact o1 | exact o2 | exact o3 | exact aj rfl rfl | assumption)⟩,Eq.trans (b:=(aa u 0 77)) (RS.ext' rfl rfl rfl rfl rfl rfl bA bF rfl rfl rfl rfl bE rfl bB rfl rfl) (Eq.symm (hm.symm))⟩
   ·simp only [Da] at c3
    have hm:(aa ρ 0 4).dY (aG ρ 71)=aa ρ 0 4:=(if_neg c).trans ((if_neg c2).trans (if_neg c3))
    exact Sat.fin ⟨⟨(by first | exact o1 | exact o2 | exact o3 | exact aj rfl rfl | assumption),(by first | exact o2 | exact ⟨aj rfl rfl,Int.le_refl 0,.inl rfl⟩ | assumption),(by first | exact o1 | exact o2 | exact o3 | exact aj rfl rfl | assumption)⟩,Eq.trans (b:=(aa ρ 0 4)) (RS.ext' rfl rfl rfl rfl rfl rfl bA bF rfl rfl rfl rfl bE rfl bB rfl rfl) (Eq.symm (hm))⟩
theorem TY:aV Tryz.prog jF AB CE :=
 cK dF (E:=VH) (cs:=FZ) rfl ML bO rfl TV (by kernel_rfl) (fun ρ _ p hp=>by cases hp) TW
noncomputable def QJ:Ex:={sched:=sched,loops:=[],cons:=[fV,gI],fin:=iV}
def CF:Out :=
 .br (.aB (.var 22) (.lit 7))
 (.fin {lo:=77,az:=4,iv:=yo [(143,yv 70)]<|yr 138 65 7<|yo [(130,yv 57),(129,yv 56),(126,yv 53),(125,yv 52),(142,yv 69),(123,yv 50),(122,yv 49),(120,yv 47)]<|yr 118 45 4<|yr 113 40 4<|yo [(108,.lit 0),(107,.lit 0),(106,.lit 0),(105,.lit 0),(103,.lit 0),(102,.lit 0),(101,.lit 0),(100,.lit 0)]<|yr 99 7 3<|yo [(96,.lit 1),(95,.lit 5)]<|yr 94 21 4<|yr 89 16 4<|yr 84 11 8 [],bv:=[(140,yw 67),(139,yw 66),(131,yw 58),(128,yw 55),(124,yw 51),(121,yw 48),(119,yw 46),(114,yw 41),(109,.lit false),(104,.lit false),(90,yw 17),(85,yw 12)],ct:=[(143,yu 70 59 7 yN 0),(142,yu 69 70 7 yN 0),(141,yu 68 49 5 yW 0),(127,yl 54 9 5 50 yW 0)],bk:=[(6,yc 3 7),(5,yc 2 7),(4,yc 1 5)]})
 (.br (.aB (.var 22) (.lit 5))
  (.br (.or (.aB (.var 0) (.lit 3)) (.aB (.var 0) (.lit 5)))
   (.fin {lo:=77,az:=4,iv:=yo [(143,yv 70)]<|yr 138 65 7<|yo [(130,yv 57),(129,yv 56),(126,yv 53),(125,yv 52),(142,yv 69),(123,yv 50),(122,yv 49),(120,yv 47)]<|yr 118 45 4<|yr 113 74 4<|yo [(108,.lit 0),(107,.lit 0),(106,.lit 0),(105,.lit 0),(103,.lit 0),(102,.lit 0),(101,.lit 0),(100,.lit 0),(99,.lit 24),(98,.lit 0),(97,.lit 0),(96,.lit 1),(95,.lit 6)]<|yr 94 21 4<|yr 89 16 4<|yr 84 11 8 [],bv:=[(140,yw 67),(139,yw 66),(131,yw 58),(128,yw 55),(124,yw 51),(121,yw 48),(119,yw 46),(114,yw 75),(109,.lit false),(104,.lit false),(90,yw 17),(85,yw 12)],ct:=[(143,yu 70 59 7 yN 0),(142,yu 69 70 7 yN 0),(141,yu 68 49 5 yW 0),(127,yl 54 9 5 50 yW 0)],bk:=[(6,yc 3 7),(5,yc 2 7),(4,yc 1 5)]})
   (.br (.aB (.var 0) (.lit 2))
    (.ob (.or (.aB (.var 71) (.lit 0)) (.aA (.lit 0) (.var 18))) <|
     .ob (.or (.aB (.var 71) (.lit 0)) (.bS (.var 18) (.lit 9))) <|
     .br (.not (.aB (.var 71) (.lit 0)))
     (.br (.not (.and (.aB (.cell 54 (.var 18) (.lit 0) 0) (.var 71)) (.and (.aB (.cell 54 (.var 18) (.lit 0) 1) (.var 72)) (.and (.aB (.cell 54 (.var 18) (.lit 0) 2) (.lit 0)) (.and (.aB (.cell 54 (.var 18) (.lit 0) 3) (.lit 0)) (.not (.cell 54 (.var 18) (.lit 0) 4)))))))
      (.ob (.aA (.lit 0) (.var 18)) <|
       .ob (.bS (.var 18) (.lit 9)) <|
       .call 0 {lo:=0,az:=0,iv:=[(1,yv 18),(0,yv 1)]} 77 <|
       .fin {lo:=77,az:=4,iv:=yo [(143,yv 70)]<|yr 138 65 7<|yo [(130,yv 57),(129,yv 56),(126,yv 53),(125,yv 52),(142,yv 69),(123,yv 50),(122,yv 49),(120,yv 47)]<|yr 118 45 4<|yr 113 74 4<|yo [(108,.lit 0),(107,.lit 0),(106,yv 72),(105,yv 71),(103,.lit 0),(102,.lit 0),(101,.lit 0),(100,.lit 0),(99,.add (.add (.lit 25) (.mul (.var 1) (.lit 9))) (.var 18)),(98,.lit 0),(97,.lit 0),(96,.lit 2),(95,.lit 7)]<|yr 94 21 4<|yr 89 16 4<|yr 84 11 8 [],bv:=[(140,yw 67),(139,yw 66),(131,yw 58),(128,yw 55),(124,yw 51),(121,yw 48),(119,yw 46),(114,yw 75),(109,.lit false),(104,.lit false),(90,yw 17),(85,yw 12)],ct:=[(143,yu 70 59 7 yN 0),(142,yu 69 70 7 yN 0),(141,yu 68 49 5 yW 0),(127,.up {r:=54,n1:=.lit 9,s1:=5,lo:=50,ks:=yW} 0 [⟨0,(.var 18),(.lit 0),4,.bool (.lit false)⟩,⟨0,(.var 18),(.lit 0),3,.int .i64 (.lit 0)⟩,⟨0,(.var 18),(.lit 0),2,.int .i64 (.lit 0)⟩,⟨0,(.var 18),(.lit 0),1,.int .i64 (.var 72)⟩,⟨0,(.var 18),(.lit 0),0,.int .i64 (.var 71)⟩] (.lit 0))],bk:=[(6,yc 3 7),(5,yc 2 7),(4,yc 1 5)]})
      (.fin {lo:=77,az:=4,iv:=yr 138 74 4<|yr 134 61 3<|[(130,yv 57),(129,yv 56),(126,.lit 0),(125,.lit 0),(123,.lit 0),(122,.lit 0),(120,.lit 0),(118,.lit 0),(117,.lit 0),(116,.lit 0),(115,.lit 0),(113,.lit 0),(112,.lit 0),(111,.lit 0),(110,.lit 0),(108,.lit 0),(107,.lit 0),(106,.lit 0),(105,.lit 0),(103,.lit 0),(102,.lit 0),(101,.lit 0),(100,.lit 0),(99,.lit 0),(98,.lit 0),(97,.lit 0),(96,.lit 0),(95,.lit 0),(94,.lit 0),(93,.lit 0),(92,.lit 0),(91,.lit 0),(89,.lit 0),(88,.lit 0),(87,.lit 0),(86,.lit 0),(84,.lit 0),(83,.lit 0),(82,.lit 0),(81,.lit 0),(80,.lit 0),(79,.lit 0),(78,.lit 0),(77,.lit 0)],bv:=[(140,.lit true),(139,yw 75),(131,yw 58),(128,yw 55),(124,.lit true),(121,.lit true),(119,.lit false),(114,.lit false),(109,.lit false),(104,.lit false),(90,.lit false),(85,.lit false)],ct:=[(143,yu 70 59 7 yN 0),(127,yl 54 9 5 50 yW 0)],bk:=[(6,yc 3 7)],nb:=[5,4,5,4]}))
     (.fin {lo:=77,az:=4,iv:=yr 138 74 4<|yr 134 61 3<|[(130,yv 57),(129,yv 56),(126,.lit 0),(125,.lit 0),(123,.lit 0),(122,.lit 0),(120,.lit 0),(118,.lit 0),(117,.lit 0),(116,.lit 0),(115,.lit 0),(113,.lit 0),(112,.lit 0),(111,.lit 0),(110,.lit 0),(108,.lit 0),(107,.lit 0),(106,.lit 0),(105,.lit 0),(103,.lit 0),(102,.lit 0),(101,.lit 0),(100,.lit 0),(99,.lit 0),(98,.lit 0),(97,.lit 0),(96,.lit 0),(95,.lit 0),(94,.lit 0),(93,.lit 0),(92,.lit 0),(91,.lit 0),(89,.lit 0),(88,.lit 0),(87,.lit 0),(86,.lit 0),(84,.lit 0),(83,.lit 0),(82,.lit 0),(81,.lit 0),(80,.lit 0),(79,.lit 0),(78,.lit 0),(77,.lit 0)],bv:=[(140,.lit true),(139,yw 75),(131,yw 58),(128,yw 55),(124,.lit true),(121,.lit true),(119,.lit false),(114,.lit false),(109,.lit false),(104,.lit false),(90,.lit false),(85,.lit false)],ct:=[(143,yu 70 59 7 yN 0),(127,yl 54 9 5 50 yW 0)],bk:=[(6,yc 3 7)],nb:=[5,4,5,4]}))
    (.fin {lo:=77,az:=4,iv:=yr 138 74 4<|yr 134 61 3<|[(130,yv 57),(129,yv 56),(126,.lit 0),(125,.lit 0),(123,.lit 0),(122,.lit 0),(120,.lit 0),(118,.lit 0),(117,.lit 0),(116,.lit 0),(115,.lit 0),(113,.lit 0),(112,.lit 0),(111,.lit 0),(110,.lit 0),(108,.lit 0),(107,.lit 0),(106,.lit 0),(105,.lit 0),(103,.lit 0),(102,.lit 0),(101,.lit 0),(100,.lit 0),(99,.lit 0),(98,.lit 0),(97,.lit 0),(96,.lit 0),(95,.lit 0),(94,.lit 0),(93,.lit 0),(92,.lit 0),(91,.lit 0),(89,.lit 0),(88,.lit 0),(87,.lit 0),(86,.lit 0),(84,.lit 0),(83,.lit 0),(82,.lit 0),(81,.lit 0),(80,.lit 0),(79,.lit 0),(78,.lit 0),(77,.lit 0)],bv:=[(140,.lit true),(139,yw 75),(131,yw 58),(128,yw 55),(124,.lit true),(121,.lit true),(119,.lit false),(114,.lit false),(109,.lit false),(104,.lit false),(90,.lit false),(85,.lit false)],ct:=[(143,yu 70 59 7 yN 0),(127,yl 54 9 5 50 yW 0)],bk:=[(6,yc 3 7)],nb:=[5,4,5,4]})))
  (.br (.aB (.var 22) (.lit 6))
   (.br (.aB (.var 0) (.lit 3))
    (.ob (.aA (.lit 0) (.var 18)) <|
     .ob (.bS (.var 18) (.lit 9)) <|
     .br (.not (.and (.aB (.cell 54 (.var 18) (.lit 0) 0) (.lit 0)) (.and (.aB (.cell 54 (.var 18) (.lit 0) 1) (.lit 0)) (.and (.aB (.cell 54 (.var 18) (.lit 0) 2) (.lit 0)) (.and (.aB (.cell 54 (.var 18) (.lit 0) 3) (.lit 0)) (.not (.cell 54 (.var 18) (.lit 0) 4)))))))
     (.br (.aB (.cell 54 (.var 18) (.lit 0) 3) (.var 74))
      (.fin {lo:=77,az:=4,iv:=yr 138 40 4<|yr 134 61 3<|[(130,yv 57),(129,yv 56),(126,.lit 0),(125,.lit 0),(123,.lit 0),(122,.lit 0),(120,.lit 0),(118,.lit 0),(117,.lit 0),(116,.lit 0),(115,.lit 0),(113,.lit 0),(112,.lit 0),(111,.lit 0),(110,.lit 0),(108,.lit 0),(107,.lit 0),(106,.lit 0),(105,.lit 0),(103,.lit 0),(102,.lit 0),(101,.lit 0),(100,.lit 0),(99,.lit 0),(98,.lit 0),(97,.lit 0),(96,.lit 0),(95,.lit 0),(94,.lit 0),(93,.lit 0),(92,.lit 0),(91,.lit 0),(89,.lit 0),(88,.lit 0),(87,.lit 0),(86,.lit 0),(84,.lit 0),(83,.lit 0),(82,.lit 0),(81,.lit 0),(80,.lit 0),(79,.lit 0),(78,.lit 0),(77,.lit 0)],bv:=[(140,.lit true),(139,yw 41),(131,yw 58),(128,yw 55),(124,.lit true),(121,.lit true),(119,.lit false),(114,.lit false),(109,.lit false),(104,.lit false),(90,.lit false),(85,.lit false)],ct:=[(143,yu 70 59 7 yN 0),(127,yl 54 9 5 50 yW 0)],bk:=[(6,yc 3 7)],nb:=[5,4,5,4]})
      (.call 0 {lo:=0,az:=0,iv:=[(1,yv 18),(0,yv 1)]} 77 <|
       .fin {lo:=77,az:=4,iv:=yo [(143,yv 70)]<|yr 138 65 7<|yo [(130,yv 57),(129,yv 56),(126,yv 53),(125,yv 52),(142,yv 69),(123,yv 50),(122,yv 49),(120,yv 47)]<|yr 118 45 4<|yr 113 40 4<|yo [(108,yv 74),(107,.lit 0),(106,.lit 0),(105,.lit 0),(103,.lit 0),(102,.lit 0),(101,.lit 0),(100,.lit 0),(99,.add (.add (.lit 25) (.mul (.var 1) (.lit 9))) (.var 18)),(98,.lit 0),(97,.lit 0),(96,.lit 2),(95,.lit 7)]<|yr 94 21 4<|yr 89 16 4<|yr 84 11 8 [],bv:=[(140,yw 67),(139,yw 66),(131,yw 58),(128,yw 55),(124,yw 51),(121,yw 48),(119,yw 46),(114,yw 41),(109,.lit false),(104,.lit false),(90,yw 17),(85,yw 12)],ct:=[(143,yu 70 59 7 yN 0),(142,yu 69 70 7 yN 0),(141,yu 68 49 5 yW 0),(127,.up {r:=54,n1:=.lit 9,s1:=5,lo:=50,ks:=yW} 0 [⟨0,(.var 18),(.lit 0),4,.bool (.lit false)⟩,⟨0,(.var 18),(.lit 0),3,.int .i64 (.var 74)⟩,⟨0,(.var 18),(.lit 0),2,.int .i64 (.lit 0)⟩,⟨0,(.var 18),(.lit 0),1,.int .i64 (.lit 0)⟩,⟨0,(.var 18),(.lit 0),0,.int .i64 (.lit 0)⟩] (.lit 0))],bk:=[(6,yc 3 7),(5,yc 2 7),(4,yc 1 5)]}))
     (.call 0 {lo:=0,az:=0,iv:=[(1,yv 18),(0,yv 1)]} 77 <|
      .fin {lo:=77,az:=4,iv:=yo [(143,yv 70)]<|yr 138 65 7<|yo [(130,yv 57),(129,yv 56),(126,yv 53),(125,yv 52),(142,yv 69),(123,yv 50),(122,yv 49),(120,yv 47)]<|yr 118 45 4<|yr 113 40 4<|yo [(108,yv 74),(107,.lit 0),(106,.lit 0),(105,.lit 0),(103,.lit 0),(102,.lit 0),(101,.lit 0),(100,.lit 0),(99,.add (.add (.lit 25) (.mul (.var 1) (.lit 9))) (.var 18)),(98,.lit 0),(97,.lit 0),(96,.lit 2),(95,.lit 7)]<|yr 94 21 4<|yr 89 16 4<|yr 84 11 8 [],bv:=[(140,yw 67),(139,yw 66),(131,yw 58),(128,yw 55),(124,yw 51),(121,yw 48),(119,yw 46),(114,yw 41),(109,.lit false),(104,.lit false),(90,yw 17),(85,yw 12)],ct:=[(143,yu 70 59 7 yN 0),(142,yu 69 70 7 yN 0),(141,yu 68 49 5 yW 0),(127,.up {r:=54,n1:=.lit 9,s1:=5,lo:=50,ks:=yW} 0 [⟨0,(.var 18),(.lit 0),4,.bool (.lit false)⟩,⟨0,(.var 18),(.lit 0),3,.int .i64 (.var 74)⟩,⟨0,(.var 18),(.lit 0),2,.int .i64 (.lit 0)⟩,⟨0,(.var 18),(.lit 0),1,.int .i64 (.lit 0)⟩,⟨0,(.var 18),(.lit 0),0,.int .i64 (.lit 0)⟩] (.lit 0))],bk:=[(6,yc 3 7),(5,yc 2 7),(4,yc 1 5)]}))
    (.br (.and (.var 55) (.aB (.var 57) (.var 74)))
     (.fin {lo:=77,az:=4,iv:=yr 138 40 4<|yr 134 61 3<|[(130,yv 57),(129,yv 56),(126,.lit 0),(125,.lit 0),(123,.lit 0),(122,.lit 0),(120,.lit 0),(118,.lit 0),(117,.lit 0),(116,.lit 0),(115,.lit 0),(113,.lit 0),(112,.lit 0),(111,.lit 0),(110,.lit 0),(108,.lit 0),(107,.lit 0),(106,.lit 0),(105,.lit 0),(103,.lit 0),(102,.lit 0),(101,.lit 0),(100,.lit 0),(99,.lit 0),(98,.lit 0),(97,.lit 0),(96,.lit 0),(95,.lit 0),(94,.lit 0),(93,.lit 0),(92,.lit 0),(91,.lit 0),(89,.lit 0),(88,.lit 0),(87,.lit 0),(86,.lit 0),(84,.lit 0),(83,.lit 0),(82,.lit 0),(81,.lit 0),(80,.lit 0),(79,.lit 0),(78,.lit 0),(77,.lit 0)],bv:=[(140,.lit true),(139,yw 41),(131,yw 58),(128,yw 55),(124,.lit true),(121,.lit true),(119,.lit false),(114,.lit false),(109,.lit false),(104,.lit false),(90,.lit false),(85,.lit false)],ct:=[(143,yu 70 59 7 yN 0),(127,yl 54 9 5 50 yW 0)],bk:=[(6,yc 3 7)],nb:=[5,4,5,4]})
     (.br (.var 55)
      (.call 1 {lo:=0,az:=0,iv:=[(0,yv 1)]} 77 <|
       .fin {lo:=77,az:=4,iv:=yo [(143,yv 70)]<|yr 138 65 7<|yo [(130,yv 74),(129,yv 56),(126,yv 53),(125,yv 52),(142,yv 69),(123,yv 50),(122,yv 49),(120,yv 47)]<|yr 118 45 4<|yr 113 40 4<|yo [(108,yv 56),(107,yv 74),(106,.lit 0),(105,.lit 0),(103,.lit 0),(102,.lit 0),(101,.lit 0),(100,.lit 0),(99,.add (.lit 79) (.var 1)),(98,.lit 0),(97,.lit 0),(96,.lit 2),(95,.lit 7)]<|yr 94 21 4<|yr 89 16 4<|yr 84 11 8 [],bv:=[(140,yw 67),(139,yw 66),(131,yw 58),(128,.lit true),(124,yw 51),(121,yw 48),(119,yw 46),(114,yw 41),(109,.lit true),(104,.lit false),(90,yw 17),(85,yw 12)],ct:=[(143,yu 70 59 7 yN 0),(142,yu 69 70 7 yN 0),(141,yu 68 49 5 yW 0),(127,yl 54 9 5 50 yW 0)],bk:=[(6,yc 3 7),(5,yc 2 7),(4,yc 1 5)]})
      (.call 1 {lo:=0,az:=0,iv:=[(0,yv 1)]} 77 <|
       .fin {lo:=77,az:=4,iv:=yo [(143,yv 70)]<|yr 138 65 7<|yo [(130,yv 74),(129,yv 74),(126,yv 53),(125,yv 52),(142,yv 69),(123,yv 50),(122,yv 49),(120,yv 47)]<|yr 118 45 4<|yr 113 40 4<|yo [(108,yv 74),(107,yv 74),(106,.lit 0),(105,.lit 0),(103,.lit 0),(102,.lit 0),(101,.lit 0),(100,.lit 0),(99,.add (.lit 79) (.var 1)),(98,.lit 0),(97,.lit 0),(96,.lit 2),(95,.lit 7)]<|yr 94 21 4<|yr 89 16 4<|yr 84 11 8 [],bv:=[(140,yw 67),(139,yw 66),(131,yw 58),(128,.lit true),(124,yw 51),(121,yw 48),(119,yw 46),(114,yw 41),(109,.lit true),(104,.lit false),(90,yw 17),(85,yw 12)],ct:=[(143,yu 70 59 7 yN 0),(142,yu 69 70 7 yN 0),(141,yu 68 49 5 yW 0),(127,yl 54 9 5 50 yW 0)],bk:=[(6,yc 3 7),(5,yc 2 7),(4,yc 1 5)]}))))
   (.fin {lo:=77,az:=4,iv:=yo [(143,yv 70)]<|yr 138 65 7<|yo [(130,yv 57),(129,yv 56),(126,yv 53),(125,yv 52),(142,yv 69),(123,yv 50),(122,yv 49),(120,yv 47)]<|yr 118 45 4<|yr 113 40 4<|yr 108 35 4<|yr 103 30 13<|yr 89 16 4<|yr 84 11 8 [],bv:=[(140,yw 67),(139,yw 66),(131,yw 58),(128,yw 55),(124,yw 51),(121,yw 48),(119,yw 46),(114,yw 41),(109,yw 36),(104,yw 31),(90,yw 17),(85,yw 12)],ct:=[(143,yu 70 59 7 yN 0),(142,yu 69 70 7 yN 0),(141,yu 68 49 5 yW 0),(127,yl 54 9 5 50 yW 0)],bk:=[(6,yc 3 7),(5,yc 2 7),(4,yc 1 5)]})))
theorem QK:exec tab QJ 8000 [] (dZ iV.f iV.nv [] iV.gl iV.hp iV.args)=CF:=by kernel_rfl
def xA (ρ:Env):Prop:=bK ρ 4∧vL ρ∧0≤ρ.iv 18∧ρ.iv 18<9
def zM (ρ:Env):Prop:=bK ρ 77∧aa ρ 0 77=(aa ρ 0 4).bD (aG ρ 71)
set_option maxHeartbeats 4000000 in
theorem QM (ρ:Env) (hpre:xA ρ.num):Sat zM zJ [] ρ CF:=by
 replace hpre:xA ρ:=hpre
 obtain ⟨⟨o1,o2,o3⟩,⟨s1,s2,s3,s4⟩,n1,n2⟩:=hpre
 unfold CF
 refine Sat.br (fun c=>?_) (fun c=>?_)
 ·simp only [Da] at c
  have hm:(aa ρ 0 4).bD (aG ρ 71)=(aa ρ 0 4).load 5 (ρ.iv 5) (ρ.iv 6) (ρ.iv 7):=if_pos c
  exact Sat.fin ⟨⟨(by first | exact o1 | exact o2 | exact o3 | exact aj rfl rfl | assumption),(by first | exact o2 | exact ⟨aj rfl rfl,Int.le_refl 0,.inl rfl⟩ | assumption),(by first | exact o1 | exact o2 | exact o3 | exact aj rfl rfl | assumption)⟩,Eq.trans (b:=(aa ρ 0 4).load 5 (ρ.iv 5) (ρ.iv 6) (ρ.iv 7)) (RS.ext' rfl rfl rfl rfl rfl rfl bA bF rfl rfl rfl rfl bE rfl bB rfl rfl) (Eq.symm (hm))⟩
 simp only [Da] at c
 refine Sat.br (fun c2=>?_) (fun c2=>?_)
 ·simp only [Da] at c2
  refine Sat.br (fun c3=>?_) (fun c3=>?_)
  ·simp only [Da] at c3
   have hm:(aa ρ 0 4).bD (aG ρ 71)=({aa ρ 0 4 with word:=ak ρ 71}:RS).era 6:=(if_neg c).trans ((if_pos c2).trans (if_pos c3))
   exact Sat.fin ⟨⟨(by first | exact o1 | exact o2 | exact o3 | exact aj rfl rfl | assumption),(by first | exact o2 | exact ⟨aj rfl rfl,Int.le_refl 0,.inl rfl⟩ | assumption),(by first | exact o1 | exact o2 | exact o3 | exact aj rfl rfl | assumption)⟩,Eq.trans (b:=({aa ρ 0 4 with word:=ak ρ 71}:RS).era 6) (RS.ext' rfl rfl rfl rfl rfl rfl bA bF rfl rfl rfl rfl bE rfl bB rfl rfl) (Eq.symm (hm))⟩
  simp only [Da] at c3
  have nd:¬(aa ρ 0 4).bN:=fun h:ρ.iv 0=3∨ρ.iv 0=5=>by omega
  refine Sat.br (fun c4=>?_) (fun c4=>?_)
  ·simp only [Da] at c4
   refine Sat.ob (by simp only [Da];omega) (Sat.ob (by simp only [Da];omega) (Sat.br (fun c5=>?_) (fun c5=>?_)))
   ·simp only [Da] at c5
    refine Sat.br (fun c6=>?_) (fun c6=>?_)
    ·simp only [Da] at c6
     have hne:(aa ρ 0 4).holds (ρ.iv 18).toNat≠Wd.gF (ak ρ 71):=fun h=>by
      have h':=oU.1 h
      simp only [aa,aF,Wd.gF,ak] at h'
      simp_all
     have hm:(aa ρ 0 4).bD (aG ρ 71)=({aa ρ 0 4 with word:=ak ρ 71}:RS).post 7 (ρ.iv 18) (Wd.gF (ak ρ 71)):=(if_neg c).trans ((if_pos c2).trans ((if_neg nd).trans (if_pos ⟨c4,c5,hne⟩)))
     refine Sat.ob (decide_eq_true n1) (Sat.ob (by simp only [Da];omega) (Sat.iT (c:=fV) rfl ⟨⟨s1,s2⟩,n1,n2⟩ (fun r=>((bK r 4)∧0≤r.iv 18)∧(aa r 0 4).bD (aG r 71)=({aa r 0 4 with word:=ak r 71}:RS).post 7 (r.iv 18) (Wd.gF (ak r 71))) (fun e _=>⟨⟨⟨o1,o2,o3⟩,n1⟩,hm⟩) fun r hr=>?_))
     obtain ⟨⟨⟨o1,o2,o3⟩,i1⟩,hm⟩:=hr
     refine Sat.fin ⟨⟨(by first | exact o1 | exact o2 | exact o3 | exact aj rfl rfl | assumption),(by first | exact o2 | exact ⟨aj rfl rfl,Int.le_refl 0,.inl rfl⟩ | assumption),(by first | exact o1 | exact o2 | exact o3 | exact aj rfl rfl | assumption)⟩,Eq.trans (b:=({aa r 0 4 with word:=ak r 71}:RS).post 7 (r.iv 18) (Wd.gF (ak r 71))) (RS.ext' rfl rfl rfl rfl rfl rfl bA bF rfl rfl rfl rfl ?_ rfl bB rfl rfl) (Eq.symm (hm))⟩
     intro i
     show _=if i=(r.iv 18).toNat then Wd.gF (ak r 71) else aF (r.ic 54 i 0) (r.bc 54 i 0)
     by_cases h:i=(r.iv 18).toNat
     ·subst h
      simp [aa,aF,Wd.gF,ak,-Int.pred_toNat,Sub.ag,assoc,CV.I,CV.B,ah,ai,ae.I,ae.B,SC.I,SC.B,IE.den,BE.den]
     ·simp [aa,aF,-Int.pred_toNat,Sub.ag,assoc,CV.I,CV.B,ah,ai,ae.I,ae.B,SC.I,SC.B,IE.den,BE.den,h,Ne.symm h]
    ·simp only [Da] at c6
     have he:(aa ρ 0 4).holds (ρ.iv 18).toNat=Wd.gF (ak ρ 71):=by
      apply oU.2
      simp only [aa,aF,Wd.gF,ak]
      simp_all
     have hm:(aa ρ 0 4).bD (aG ρ 71)=(aa ρ 0 4).finish ⟨ak ρ 71,true⟩:=(if_neg c).trans ((if_pos c2).trans ((if_neg nd).trans (if_neg (fun h=>h.2.2 he))))
     exact Sat.fin ⟨⟨(by first | exact o1 | exact o2 | exact o3 | exact aj rfl rfl | assumption),(by first | exact o2 | exact ⟨aj rfl rfl,Int.le_refl 0,.inl rfl⟩ | assumption),(by first | exact o1 | exact o2 | exact o3 | exact aj rfl rfl | assumption)⟩,Eq.trans (b:=(aa ρ 0 4).finish ⟨ak ρ 71,true⟩) (RS.ext' rfl rfl rfl rfl rfl rfl bA bF rfl rfl rfl rfl bE rfl bB rfl rfl) (Eq.symm (hm))⟩
   ·simp only [Da] at c5
    have hm:(aa ρ 0 4).bD (aG ρ 71)=(aa ρ 0 4).finish ⟨ak ρ 71,true⟩:=(if_neg c).trans ((if_pos c2).trans ((if_neg nd).trans (if_neg (fun h=>h.2.1 c5))))
    exact Sat.fin ⟨⟨(by first | exact o1 | exact o2 | exact o3 | exact aj rfl rfl | assumption),(by first | exact o2 | exact ⟨aj rfl rfl,Int.le_refl 0,.inl rfl⟩ | assumption),(by first | exact o1 | exact o2 | exact o3 | exact aj rfl rfl | assumption)⟩,Eq.trans (b:=(aa ρ 0 4).finish ⟨ak ρ 71,true⟩) (RS.ext' rfl rfl rfl rfl rfl rfl bA bF rfl rfl rfl rfl bE rfl bB rfl rfl) (Eq.symm (hm))⟩
  ·simp only [Da] at c4
   have hm:(aa ρ 0 4).bD (aG ρ 71)=(aa ρ 0 4).finish ⟨ak ρ 71,true⟩:=(if_neg c).trans ((if_pos c2).trans ((if_neg nd).trans (if_neg (fun h=>c4 h.1))))
   exact Sat.fin ⟨⟨(by first | exact o1 | exact o2 | exact o3 | exact aj rfl rfl | assumption),(by first | exact o2 | exact ⟨aj rfl rfl,Int.le_refl 0,.inl rfl⟩ | assumption),(by first | exact o1 | exact o2 | exact o3 | exact aj rfl rfl | assumption)⟩,Eq.trans (b:=(aa ρ 0 4).finish ⟨ak ρ 71,true⟩) (RS.ext' rfl rfl rfl rfl rfl rfl bA bF rfl rfl rfl rfl bE rfl bB rfl rfl) (Eq.symm (hm))⟩
 simp only [Da] at c2
 refine Sat.br (fun c3=>?_) (fun c3=>?_)
 ·simp only [Da] at c3
  have h0:(aa ρ 0 4).bD (aG ρ 71)=if (aa ρ 0 4).dK (ρ.iv 18) (ρ.iv 74) then (aa ρ 0 4).finish ⟨ak ρ 37,true⟩ else if (aa ρ 0 4).av=3 then (aa ρ 0 4).post 7 (ρ.iv 18) (Wd.fC (ρ.iv 74)) else (aa ρ 0 4).ed 7 ⟨true,if (aa ρ 0 4).span.is=true then (aa ρ 0 4).span.low else ρ.iv 74,ρ.iv 74⟩:=(if_neg c).trans ((if_neg c2).trans (if_pos c3))
  refine Sat.br (fun c4=>?_) (fun c4=>?_)
  ·simp only [Da] at c4
   refine Sat.ob (decide_eq_true n1) (Sat.ob (by simp only [Da];omega) (Sat.br (fun c5=>?_) (fun c5=>?_)))
   ·simp only [Da] at c5
    have hne:(aa ρ 0 4).holds (ρ.iv 18).toNat≠Wd.zero:=fun h=>by
     have h':=oU.1 h
     simp only [aa,aF,Wd.zero] at h'
     simp_all
    refine Sat.br (fun c6=>?_) (fun c6=>?_)
    ·simp only [Da] at c6
     have hcv:(aa ρ 0 4).dK (ρ.iv 18) (ρ.iv 74):=by unfold RS.dK;rw [if_pos (show (aa ρ 0 4).av=3 from c4)];exact ⟨hne,c6⟩
     have hm:(aa ρ 0 4).bD (aG ρ 71)=(aa ρ 0 4).finish ⟨ak ρ 37,true⟩:=h0.trans (if_pos hcv)
     exact Sat.fin ⟨⟨(by first | exact o1 | exact o2 | exact o3 | exact aj rfl rfl | assumption),(by first | exact o2 | exact ⟨aj rfl rfl,Int.le_refl 0,.inl rfl⟩ | assumption),(by first | exact o1 | exact o2 | exact o3 | exact aj rfl rfl | assumption)⟩,Eq.trans (b:=(aa ρ 0 4).finish ⟨ak ρ 37,true⟩) (RS.ext' rfl rfl rfl rfl rfl rfl bA bF rfl rfl rfl rfl bE rfl bB rfl rfl) (Eq.symm (hm))⟩
    ·simp only [Da] at c6
     have hcv:¬(aa ρ 0 4).dK (ρ.iv 18) (ρ.iv 74):=by unfold RS.dK;rw [if_pos (show (aa ρ 0 4).av=3 from c4)];exact fun h=>c6 h.2
     have hm:(aa ρ 0 4).bD (aG ρ 71)=(aa ρ 0 4).post 7 (ρ.iv 18) (Wd.fC (ρ.iv 74)):=h0.trans ((if_neg hcv).trans (if_pos c4))
     refine Sat.iT (c:=fV) rfl ⟨⟨s1,s2⟩,n1,n2⟩ (fun r=>((bK r 4)∧0≤r.iv 18)∧(aa r 0 4).bD (aG r 71)=(aa r 0 4).post 7 (r.iv 18) (Wd.fC (r.iv 74))) (fun e _=>⟨⟨⟨o1,o2,o3⟩,n1⟩,hm⟩) fun r hr=>?_
     obtain ⟨⟨⟨o1,o2,o3⟩,i1⟩,hm⟩:=hr
     refine Sat.fin ⟨⟨(by first | exact o1 | exact o2 | exact o3 | exact aj rfl rfl | assumption),(by first | exact o2 | exact ⟨aj rfl rfl,Int.le_refl 0,.inl rfl⟩ | assumption),(by first | exact o1 | exact o2 | exact o3 | exact aj rfl rfl | assumption)⟩,Eq.trans (b:=(aa r 0 4).post 7 (r.iv 18) (Wd.fC (r.iv 74))) (RS.ext' rfl rfl rfl rfl rfl rfl bA bF rfl rfl rfl rfl ?_ rfl bB rfl rfl) (Eq.symm (hm))⟩
     intro i
     show _=if i=(r.iv 18).toNat then Wd.fC (r.iv 74) else aF (r.ic 54 i 0) (r.bc 54 i 0)
     by_cases h:i=(r.iv 18).toNat
     ·subst h
      simp [aa,aF,Wd.fC,ak,-Int.pred_toNat,Sub.ag,assoc,CV.I,CV.B,ah,ai,ae.I,ae.B,SC.I,SC.B,IE.den,BE.den]
     ·simp [aa,aF,-Int.pred_toNat,Sub.ag,assoc,CV.I,CV.B,ah,ai,ae.I,ae.B,SC.I,SC.B,IE.den,BE.den,h,Ne.symm h]
   ·simp only [Da] at c5
    have he:(aa ρ 0 4).holds (ρ.iv 18).toNat=Wd.zero:=by
     apply oU.2
     simp only [aa,aF,Wd.zero]
     simp_all
    have hcv:¬(aa ρ 0 4).dK (ρ.iv 18) (ρ.iv 74):=by unfold RS.dK;rw [if_pos (show (aa ρ 0 4).av=3 from c4)];exact fun h=>h.1 he
    have hm:(aa ρ 0 4).bD (aG ρ 71)=(aa ρ 0 4).post 7 (ρ.iv 18) (Wd.fC (ρ.iv 74)):=h0.trans ((if_neg hcv).trans (if_pos c4))
    refine Sat.iT (c:=fV) rfl ⟨⟨s1,s2⟩,n1,n2⟩ (fun r=>((bK r 4)∧0≤r.iv 18)∧(aa r 0 4).bD (aG r 71)=(aa r 0 4).post 7 (r.iv 18) (Wd.fC (r.iv 74))) (fun e _=>⟨⟨⟨o1,o2,o3⟩,n1⟩,hm⟩) fun r hr=>?_
    obtain ⟨⟨⟨o1,o2,o3⟩,i1⟩,hm⟩:=hr
    refine Sat.fin ⟨⟨(by first | exact o1 | exact o2 | exact o3 | exact aj rfl rfl | assumption),(by first | exact o2 | exact ⟨aj rfl rfl,Int.le_refl 0,.inl rfl⟩ | assumption),(by first | exact o1 | exact o2 | exact o3 | exact aj rfl rfl | assumption)⟩,Eq.trans (b:=(aa r 0 4).post 7 (r.iv 18) (Wd.fC (r.iv 74))) (RS.ext' rfl rfl rfl rfl rfl rfl bA bF rfl rfl rfl rfl ?_ rfl bB rfl rfl) (Eq.symm (hm))⟩
    intro i
    show _=if i=(r.iv 18).toNat then Wd.fC (r.iv 74) else aF (r.ic 54 i 0) (r.bc 54 i 0)
    by_cases h:i=(r.iv 18).toNat
    ·subst h
     simp [aa,aF,Wd.fC,ak,-Int.pred_toNat,Sub.ag,assoc,CV.I,CV.B,ah,ai,ae.I,ae.B,SC.I,SC.B,IE.den,BE.den]
    ·simp [aa,aF,-Int.pred_toNat,Sub.ag,assoc,CV.I,CV.B,ah,ai,ae.I,ae.B,SC.I,SC.B,IE.den,BE.den,h,Ne.symm h]
  ·simp only [Da] at c4
   refine Sat.br (fun c5=>?_) (fun c5=>?_)
   ·simp only [Da] at c5
    have hcv:(aa ρ 0 4).dK (ρ.iv 18) (ρ.iv 74):=by unfold RS.dK;rw [if_neg (show ¬(aa ρ 0 4).av=3 from c4)];exact c5
    have hm:(aa ρ 0 4).bD (aG ρ 71)=(aa ρ 0 4).finish ⟨ak ρ 37,true⟩:=h0.trans (if_pos hcv)
    exact Sat.fin ⟨⟨(by first | exact o1 | exact o2 | exact o3 | exact aj rfl rfl | assumption),(by first | exact o2 | exact ⟨aj rfl rfl,Int.le_refl 0,.inl rfl⟩ | assumption),(by first | exact o1 | exact o2 | exact o3 | exact aj rfl rfl | assumption)⟩,Eq.trans (b:=(aa ρ 0 4).finish ⟨ak ρ 37,true⟩) (RS.ext' rfl rfl rfl rfl rfl rfl bA bF rfl rfl rfl rfl bE rfl bB rfl rfl) (Eq.symm (hm))⟩
   ·simp only [Da] at c5
    have hcv:¬(aa ρ 0 4).dK (ρ.iv 18) (ρ.iv 74):=by
     unfold RS.dK
     rw [if_neg (show ¬(aa ρ 0 4).av=3 from c4)]
     rintro ⟨h1,h2⟩
     rcases c5 with h | h
     ·rw [show ρ.bv 55=true from h1] at h;cases h
     ·exact h h2
    refine Sat.br (fun c6=>?_) (fun c6=>?_)
    ·simp only [Da] at c6
     have hm:(aa ρ 0 4).bD (aG ρ 71)=(aa ρ 0 4).ed 7 ⟨true,ρ.iv 56,ρ.iv 74⟩:=by
      rw [h0,if_neg hcv,if_neg (show ¬(aa ρ 0 4).av=3 from c4),if_pos (show (aa ρ 0 4).span.is=true from c6)]
      rfl
     refine Sat.iT (c:=gI) rfl ⟨s1,s2⟩ (fun r=>(bK r 4)∧(aa r 0 4).bD (aG r 71)=(aa r 0 4).ed 7 ⟨true,r.iv 56,r.iv 74⟩) (fun e _=>⟨⟨o1,o2,o3⟩,hm⟩) fun r hr=>?_
     obtain ⟨⟨o1,o2,o3⟩,hm⟩:=hr
     exact Sat.fin ⟨⟨(by first | exact o1 | exact o2 | exact o3 | exact aj rfl rfl | assumption),(by first | exact o2 | exact ⟨aj rfl rfl,Int.le_refl 0,.inl rfl⟩ | assumption),(by first | exact o1 | exact o2 | exact o3 | exact aj rfl rfl | assumption)⟩,Eq.trans (b:=(aa r 0 4).ed 7 ⟨true,r.iv 56,r.iv 74⟩) (RS.ext' rfl rfl rfl rfl rfl rfl bA bF rfl rfl rfl rfl bE rfl bB rfl rfl) (Eq.symm (hm))⟩
    ·simp only [Da] at c6
     have hm:(aa ρ 0 4).bD (aG ρ 71)=(aa ρ 0 4).ed 7 ⟨true,ρ.iv 74,ρ.iv 74⟩:=by
      rw [h0,if_neg hcv,if_neg (show ¬(aa ρ 0 4).av=3 from c4),if_neg (show ¬(aa ρ 0 4).span.is=true from fun h=>by rw [show ρ.bv 55=true from h] at c6;cases c6)]
     refine Sat.iT (c:=gI) rfl ⟨s1,s2⟩ (fun r=>(bK r 4)∧(aa r 0 4).bD (aG r 71)=(aa r 0 4).ed 7 ⟨true,r.iv 74,r.iv 74⟩) (fun e _=>⟨⟨o1,o2,o3⟩,hm⟩) fun r hr=>?_
     obtain ⟨⟨o1,o2,o3⟩,hm⟩:=hr
     exact Sat.fin ⟨⟨(by first | exact o1 | exact o2 | exact o3 | exact aj rfl rfl | assumption),(by first | exact o2 | exact ⟨aj rfl rfl,Int.le_refl 0,.inl rfl⟩ | assumption),(by first | exact o1 | exact o2 | exact o3 | exact aj rfl rfl | assumption)⟩,Eq.trans (b:=(aa r 0 4).ed 7 ⟨true,r.iv 74,r.iv 74⟩) (RS.ext' rfl rfl rfl rfl rfl rfl bA bF rfl rfl rfl rfl bE rfl bB rfl rfl) (Eq.symm (hm))⟩
 ·simp only [Da] at c3
  have hm:(aa ρ 0 4).bD (aG ρ 71)=aa ρ 0 4:=(if_neg c).trans ((if_neg c2).trans (if_neg c3))
  exact Sat.fin ⟨⟨(by first | exact o1 | exact o2 | exact o3 | exact aj rfl rfl | assumption),(by first | exact o2 | exact ⟨aj rfl rfl,Int.le_refl 0,.inl rfl⟩ | assumption),(by first | exact o1 | exact o2 | exact o3 | exact aj rfl rfl | assumption)⟩,Eq.trans (b:=(aa ρ 0 4)) (RS.ext' rfl rfl rfl rfl rfl rfl bA bF rfl rfl rfl rfl bE rfl bB rfl rfl) (Eq.symm (hm))⟩
theorem QN:aV Tryz.prog iV xA zM :=
 cK dF (E:=QJ) (cs:=zJ) rfl FU bO rfl QK (by kernel_rfl) (fun ρ _ p hp=>by cases hp) QM
end Go.Proofs.YthomdlajobnmnaaGreatDoor
