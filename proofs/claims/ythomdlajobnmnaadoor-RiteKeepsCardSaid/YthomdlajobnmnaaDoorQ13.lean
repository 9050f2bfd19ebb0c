/- part 13 of the proof -/
import Derived.Test.YthomdlajobnmnaaDoorQ12
set_option linter.unusedSimpArgs false
set_option linter.unusedVariables false
namespace Go.Proofs.YthomdlajobnmnaaDoor
open Go.Rex
noncomputable def NZ:Ex:={sched:=sched,loops:=[Vk],cons:=[fZ,gL],fin:=iM}
def Bl:Out :=
 .br (.and (.or (.aC (.var 0) (.lit 4)) (.aC (.var 0) (.lit 5))) (.not (.and (.not (.var 55)) (.and (.aC (.var 56) (.lit 0)) (.aC (.var 57) (.lit 0))))))
 (.call 1 {lo:=0,az:=0,iv:=[(0,yv 1)]} 72 <|
  .fin {lo:=72,az:=4,iv:=[(138,yv 70),(133,yv 65),(132,yv 64),(131,yv 63),(130,yv 62),(129,yv 61),(128,yv 60),(127,yv 59),(125,.lit 0),(124,.lit 0),(121,yv 53),(120,yv 52),(137,yv 69),(118,yv 50),(117,yv 49),(115,yv 47),(113,yv 45),(112,yv 44),(111,yv 43),(110,yv 42),(108,yv 40),(107,yv 39),(106,yv 38),(105,yv 37),(103,.lit 0),(102,.lit 0),(101,.lit 0),(100,.lit 0),(98,.lit 0),(97,.lit 0),(96,.lit 0),(95,.lit 0),(94,.add (.lit 79) (.var 1)),(93,.lit 0),(92,.lit 0),(91,.lit 2),(90,.lit 2),(89,yv 21),(88,yv 20),(87,yv 19),(86,yv 18),(84,yv 16),(83,yv 15),(82,yv 14),(81,yv 13),(79,yv 11),(78,yv 10),(77,yv 9),(76,yv 8),(75,yv 7),(74,yv 6),(73,yv 5),(72,yv 4)],bv:=[(135,yw 67),(134,yw 66),(126,yw 58),(123,.lit false),(119,yw 51),(116,yw 48),(114,yw 46),(109,yw 41),(104,.lit false),(99,.lit false),(85,yw 17),(80,yw 12)],ct:=[(138,yu 70 59 7 yN 0),(137,yu 69 70 7 yN 0),(136,yu 68 49 5 yW 0),(122,yl 54 9 5 50 yW 0)],bk:=[(6,yc 3 7),(5,yc 2 7),(4,yc 1 5)]})
 (.br (.or (.aC (.var 0) (.lit 2)) (.aC (.var 0) (.lit 3)))
  (.loop 72 {lo:=72,az:=4,iv:=[(72,yv 71)]} <|
   .br (.bQ (.var 72) (.lit 9))
   (.ob (.aA (.lit 0) (.var 72)) <|
    .br (.not (.and (.aC (.cell 54 (.var 72) (.lit 0) 0) (.lit 0)) (.and (.aC (.cell 54 (.var 72) (.lit 0) 1) (.lit 0)) (.and (.aC (.cell 54 (.var 72) (.lit 0) 2) (.lit 0)) (.and (.aC (.cell 54 (.var 72) (.lit 0) 3) (.lit 0)) (.not (.cell 54 (.var 72) (.lit 0) 4)))))))
    (.call 0 {lo:=0,az:=0,iv:=[(1,yv 72),(0,yv 1)]} 73 <|
     .fin {lo:=72,az:=4,iv:=[(138,yv 70),(133,yv 65),(132,yv 64),(131,yv 63),(130,yv 62),(129,yv 61),(128,yv 60),(127,yv 59),(125,yv 57),(124,yv 56),(121,yv 53),(120,yv 52),(137,yv 69),(118,yv 50),(117,yv 49),(115,yv 72),(113,yv 45),(112,yv 44),(111,yv 43),(110,yv 42),(108,yv 40),(107,yv 39),(106,yv 38),(105,yv 37),(103,.lit 0),(102,.lit 0),(101,.lit 0),(100,.lit 0),(98,.lit 0),(97,.lit 0),(96,.lit 0),(95,.lit 0),(94,.add (.add (.lit 25) (.mul (.var 1) (.lit 9))) (.var 72)),(93,.lit 0),(92,.lit 0),(91,.lit 2),(90,.lit 4),(89,yv 21),(88,yv 20),(87,yv 19),(86,yv 18),(84,yv 16),(83,yv 15),(82,yv 14),(81,yv 13),(79,yv 11),(78,yv 10),(77,yv 9),(76,yv 8),(75,yv 7),(74,yv 6),(73,yv 5),(72,yv 4)],bv:=[(135,yw 67),(134,yw 66),(126,yw 58),(123,yw 55),(119,yw 51),(116,yw 48),(114,yw 46),(109,yw 41),(104,.lit false),(99,.lit false),(85,yw 17),(80,yw 12)],ct:=[(138,yu 70 59 7 yN 0),(137,yu 69 70 7 yN 0),(136,yu 68 49 5 yW 0),(122,.up {r:=54,n1:=.lit 9,s1:=5,lo:=50,ks:=yW} 0 [⟨0,(.var 72),(.lit 0),4,.bool (.lit false)⟩,⟨0,(.var 72),(.lit 0),3,.int .i64 (.lit 0)⟩,⟨0,(.var 72),(.lit 0),2,.int .i64 (.lit 0)⟩,⟨0,(.var 72),(.lit 0),1,.int .i64 (.lit 0)⟩,⟨0,(.var 72),(.lit 0),0,.int .i64 (.lit 0)⟩] (.lit 0))],bk:=[(6,yc 3 7),(5,yc 2 7),(4,yc 1 5)]})
    (.ob (.inr .i64 (.add (.var 72) (.lit 1))) <|
     .back 0 {lo:=72,az:=4,iv:=[(72,.add (.var 72) (.lit 1))]}))
   (.fin {lo:=72,az:=4,iv:=[(133,.lit 0),(132,.lit 0),(131,.lit 0),(130,.lit 0),(129,yv 61),(128,yv 60),(127,yv 59),(125,yv 57),(124,yv 56),(121,.lit 0),(120,.lit 0),(118,.lit 0),(117,.lit 0),(115,.lit 0),(113,.lit 0),(112,.lit 0),(111,.lit 0),(110,.lit 0),(108,.lit 0),(107,.lit 0),(106,.lit 0),(105,.lit 0),(103,.lit 0),(102,.lit 0),(101,.lit 0),(100,.lit 0),(98,.lit 0),(97,.lit 0),(96,.lit 0),(95,.lit 0),(94,.lit 0),(93,.lit 0),(92,.lit 0),(91,.lit 0),(90,.lit 0),(89,.lit 0),(88,.lit 0),(87,.lit 0),(86,.lit 0),(84,.lit 0),(83,.lit 0),(82,.lit 0),(81,.lit 0),(79,.lit 0),(78,.lit 0),(77,.lit 0),(76,.lit 0),(75,.lit 0),(74,.lit 0),(73,.lit 0),(72,.lit 0)],bv:=[(135,.lit true),(134,.lit false),(126,yw 58),(123,yw 55),(119,.lit true),(116,.lit true),(114,.lit false),(109,.lit false),(104,.lit false),(99,.lit false),(85,.lit false),(80,.lit false)],ct:=[(138,yu 70 59 7 yN 0),(122,yl 54 9 5 50 yW 0)],bk:=[(6,yc 3 7)],nb:=[5,4,5,4]}))
  (.fin {lo:=72,az:=4,iv:=[(133,.lit 0),(132,.lit 0),(131,.lit 0),(130,.lit 0),(129,yv 61),(128,yv 60),(127,yv 59),(125,yv 57),(124,yv 56),(121,.lit 0),(120,.lit 0),(118,.lit 0),(117,.lit 0),(115,.lit 0),(113,.lit 0),(112,.lit 0),(111,.lit 0),(110,.lit 0),(108,.lit 0),(107,.lit 0),(106,.lit 0),(105,.lit 0),(103,.lit 0),(102,.lit 0),(101,.lit 0),(100,.lit 0),(98,.lit 0),(97,.lit 0),(96,.lit 0),(95,.lit 0),(94,.lit 0),(93,.lit 0),(92,.lit 0),(91,.lit 0),(90,.lit 0),(89,.lit 0),(88,.lit 0),(87,.lit 0),(86,.lit 0),(84,.lit 0),(83,.lit 0),(82,.lit 0),(81,.lit 0),(79,.lit 0),(78,.lit 0),(77,.lit 0),(76,.lit 0),(75,.lit 0),(74,.lit 0),(73,.lit 0),(72,.lit 0)],bv:=[(135,.lit true),(134,.lit false),(126,yw 58),(123,yw 55),(119,.lit true),(116,.lit true),(114,.lit false),(109,.lit false),(104,.lit false),(99,.lit false),(85,.lit false),(80,.lit false)],ct:=[(138,yu 70 59 7 yN 0),(122,yl 54 9 5 50 yW 0)],bk:=[(6,yc 3 7)],nb:=[5,4,5,4]}))
theorem N7:exec tab NZ 8000 [] (fV iM.f iM.nv [] iM.gl iM.hp iM.args)=Bl:=by kernel_rfl
def nE (ρ:Env):Prop:=bJ ρ 4∧vF ρ∧0≤ρ.iv 71∧ρ.iv 71≤9
def ui (ρ:Env):Prop:=bJ ρ 72∧ae ρ 0 72=(ae ρ 0 4).leave (ρ.iv 71)
def IM (ρ:Env):Prop:=nE ρ∧(0≤ρ.iv 72∧ρ.iv 72≤9)∧((¬((ae ρ 0 4).bF∧(ae ρ 0 4).span≠Sp.zero))∧(ae ρ 0 4).bf)∧RS.first (ae ρ 0 4).holds (ρ.iv 71).toNat (9-(ρ.iv 71).toNat)=RS.first (ae ρ 0 4).holds (ρ.iv 72).toNat (9-(ρ.iv 72).toNat)
theorem N8 (ρ:Env) (hpre:nE ρ.num):Sat ui yR [] ρ Bl:=by
 replace hpre:nE ρ:=hpre
 have hpre':=hpre
 obtain ⟨⟨o1,o2,o3⟩,⟨s1,s2,s3,s4⟩,n1,n2⟩:=hpre
 unfold Bl
 refine Sat.br (fun c=>?_) (fun c=>?_)
 ·simp only [Da] at c
  have hA:(ae ρ 0 4).bF∧(ae ρ 0 4).span≠Sp.zero:=by
   refine ⟨c.1,fun h=>?_⟩
   have h':(⟨ρ.bv 55,ρ.iv 56,ρ.iv 57⟩:Sp)=⟨false,0,0⟩:=h
   simp only [Sp.mk.injEq] at h'
   simp_all
  have hm:(ae ρ 0 4).leave (ρ.iv 71)=(ae ρ 0 4).dY 2 Sp.zero:=if_pos hA
  refine Sat.gX (c:=gL) rfl ⟨s1,s2⟩ (fun q=>(bJ q 4)∧(ae q 0 4).leave (q.iv 71)=(ae q 0 4).dY 2 Sp.zero) (fun e _=>⟨⟨o1,o2,o3⟩,hm⟩) fun q hq=>?_
  obtain ⟨⟨o1,o2,o3⟩,hm⟩:=hq
  exact Sat.fin ⟨⟨(by first | exact o1 | exact o2 | exact o3 | exact aj rfl rfl | assumption),(by first | exact o2 | exact ⟨aj rfl rfl,Int.le_refl 0,.inl rfl⟩ | assumption),(by first | exact o1 | exact o2 | exact o3 | exact aj rfl rfl | assumption)⟩,Eq.trans (b:=(ae q 0 4).dY 2 Sp.zero) (RS.ext' rfl rfl rfl rfl rfl rfl bg bB rfl rfl rfl rfl bE rfl bz rfl rfl) (Eq.symm (hm))⟩
 ·simp only [Da] at c
  have hA:¬((ae ρ 0 4).bF∧(ae ρ 0 4).span≠Sp.zero):=by
   rintro ⟨h1,h2⟩
   apply h2
   show (⟨ρ.bv 55,ρ.iv 56,ρ.iv 57⟩:Sp)=⟨false,0,0⟩
   have h1:ρ.iv 0=4∨ρ.iv 0=5:=h1
   rcases c with c | ⟨a,b,c⟩
   ·omega
   ·rw [a,b,c]
  refine Sat.br (fun c2=>?_) (fun c2=>?_)
  ·simp only [Da] at c2
   have hk:(ae ρ 0 4).bf:=c2
   refine Sat.ug IM (fun r=>(9-r.iv 72).toNat) (fun _=>True) ⟨hpre',⟨n1,n2⟩,⟨hA,hk⟩,rfl⟩ (fun _=>trivial) fun q _ hI=>?_
   replace hI:IM q:=hI
   obtain ⟨⟨⟨o1,o2,o3⟩,⟨s1,s2,s3,s4⟩,n1,n2⟩,⟨i1,i2⟩,⟨hA,hk⟩,hf⟩:=hI
   have hpre':nE q:=⟨⟨o1,o2,o3⟩,⟨s1,s2,s3,s4⟩,n1,n2⟩
   refine Sat.br (fun c=>?_) (fun c=>?_)
   ·simp only [Da] at c
    have hs:9-(q.iv 72).toNat=(9-(q.iv 72+1).toNat)+1:=by omega
    rw [hs] at hf
    refine Sat.ob (decide_eq_true i1) (Sat.br (fun c3=>?_) (fun c3=>?_))
    ·simp only [Da] at c3
     have hne:(ae q 0 4).holds (q.iv 72).toNat≠Wd.zero:=fun h=>by
      have h':=oH.1 h
      simp only [ae,aD,Wd.zero] at h'
      simp_all
     have hm:(ae q 0 4).leave (q.iv 71)=({ae q 0 4 with index:=q.iv 72}:RS).post 4 (q.iv 72) Wd.zero:=by
      have e:RS.first (ae q 0 4).holds (q.iv 71).toNat (9-(q.iv 71).toNat)=some (q.iv 72).toNat:=by rw [hf];exact if_pos hne
      unfold RS.leave
      rw [if_neg hA,if_pos hk,e]
      simp only [Int.toNat_of_nonneg i1]
     refine Sat.gX (c:=fZ) rfl ⟨⟨s1,s2⟩,i1,c⟩ (fun r=>((bJ r 4)∧0≤r.iv 72)∧(ae r 0 4).leave (r.iv 71)=({ae r 0 4 with index:=r.iv 72}:RS).post 4 (r.iv 72) Wd.zero) (fun e _=>⟨⟨⟨o1,o2,o3⟩,i1⟩,hm⟩) fun r hr=>?_
     obtain ⟨⟨⟨o1,o2,o3⟩,i1⟩,hm⟩:=hr
     refine Sat.fin ⟨⟨(by first | exact o1 | exact o2 | exact o3 | exact aj rfl rfl | assumption),(by first | exact o2 | exact ⟨aj rfl rfl,Int.le_refl 0,.inl rfl⟩ | assumption),(by first | exact o1 | exact o2 | exact o3 | exact aj rfl rfl | assumption)⟩,Eq.trans (b:=({ae r 0 4 with index:=r.iv 72}:RS).post 4 (r.iv 72) Wd.zero) (RS.ext' rfl rfl rfl rfl rfl rfl bg bB rfl rfl rfl rfl ?_ rfl bz rfl rfl) (Eq.symm (hm))⟩
     intro i
     show _=if i=(r.iv 72).toNat then Wd.zero else aD (r.ic 54 i 0) (r.bc 54 i 0)
     by_cases h:i=(r.iv 72).toNat
     ·subst h
      simp [ae,aD,Wd.zero,-Int.pred_toNat,Sub.af,assoc,CV.I,CV.B,ah,ai,aa.I,aa.B,SC.I,SC.B,IE.den,BE.den]
     ·simp [ae,aD,-Int.pred_toNat,Sub.af,assoc,CV.I,CV.B,ah,ai,aa.I,aa.B,SC.I,SC.B,IE.den,BE.den,h,Ne.symm h]
    ·simp only [Da] at c3
     have he:(ae q 0 4).holds (q.iv 72).toNat=Wd.zero:=by
      apply oH.2
      simp only [ae,aD,Wd.zero]
      simp_all
     refine Sat.ob (by simp only [Da];omega) (Sat.back rfl ⟨⟨hpre',⟨?_,?_⟩,⟨hA,hk⟩,?_⟩,?_⟩)
     ·show 0≤q.iv 72+1;omega
     ·show q.iv 72+1≤9;omega
     ·show RS.first (ae q 0 4).holds (q.iv 71).toNat (9-(q.iv 71).toNat)=RS.first (ae q 0 4).holds (q.iv 72+1).toNat (9-(q.iv 72+1).toNat)
      rw [hf,show (q.iv 72+1).toNat=(q.iv 72).toNat+1 by omega]
      exact if_neg (fun h=>h he)
     ·show (9-(q.iv 72+1)).toNat<(9-q.iv 72).toNat
      omega
   ·simp only [Da] at c
    have hm:(ae q 0 4).leave (q.iv 71)=(ae q 0 4).done:=by
     have e:RS.first (ae q 0 4).holds (q.iv 71).toNat (9-(q.iv 71).toNat)=none:=by rw [hf,show 9-(q.iv 72).toNat=0 by omega];rfl
     unfold RS.leave
     rw [if_neg hA,if_pos hk,e]
    exact Sat.fin ⟨⟨(by first | exact o1 | exact o2 | exact o3 | exact aj rfl rfl | assumption),(by first | exact o2 | exact ⟨aj rfl rfl,Int.le_refl 0,.inl rfl⟩ | assumption),(by first | exact o1 | exact o2 | exact o3 | exact aj rfl rfl | assumption)⟩,Eq.trans (b:=(ae q 0 4).done) (RS.ext' rfl rfl rfl rfl rfl rfl bg bB rfl rfl rfl rfl bE rfl bz rfl rfl) (Eq.symm (hm))⟩
  ·simp only [Da] at c2
   have hk:¬(ae ρ 0 4).bf:=fun h:ρ.iv 0=2∨ρ.iv 0=3=>by omega
   have hm:(ae ρ 0 4).leave (ρ.iv 71)=(ae ρ 0 4).done:=by
    unfold RS.leave
    rw [if_neg hA,if_neg hk]
   exact Sat.fin ⟨⟨(by first | exact o1 | exact o2 | exact o3 | exact aj rfl rfl | assumption),(by first | exact o2 | exact ⟨aj rfl rfl,Int.le_refl 0,.inl rfl⟩ | assumption),(by first | exact o1 | exact o2 | exact o3 | exact aj rfl rfl | assumption)⟩,Eq.trans (b:=(ae ρ 0 4).done) (RS.ext' rfl rfl rfl rfl rfl rfl bg bB rfl rfl rfl rfl bE rfl bz rfl rfl) (Eq.symm (hm))⟩
theorem Fw:bC Tryd.prog iM nE ui :=
 dJ fu (E:=NZ) (cs:=yR) rfl Ed di rfl N7 (by kernel_rfl) (fun ρ _ p hp=>by cases hp) N8
end Go.Proofs.YthomdlajobnmnaaDoor
set_option linter.unusedSimpArgs false
set_option linter.unusedVariables false
namespace Go.Proofs.YthomdlajobnmnaaDoor
open Go.Rex
def wV (ρ:Env):Prop:=bJ ρ 4∧vF ρ
def LU:ko:=[(iY,rP,sP)]
theorem TB:∀k pre post,(k,pre,post)∈LU→jg k=true∧bC Tryd.prog k pre post:=by
 intro k pre post h
 simp only [LU,List.mem_cons,List.not_mem_nil,or_false,Prod.mk.injEq] at h
 obtain ⟨rfl,rfl,rfl⟩:=h
 exact ⟨by kernel_rfl,IL⟩
noncomputable def R6:Ex:={sched:=sched,loops:=[],cons:=[iY],fin:=jo}
def Eg:Out :=
 .br (.aC (.var 0) (.lit 1))
 (.fin {lo:=71,az:=4,iv:=[(132,.lit 0),(131,.lit 0),(130,.lit 0),(129,.lit 0),(128,yv 61),(127,yv 60),(126,yv 59),(124,yv 57),(123,yv 56),(120,.lit 0),(119,.lit 0),(117,.lit 0),(116,.lit 0),(114,.lit 0),(112,.lit 0),(111,.lit 0),(110,.lit 0),(109,.lit 0),(107,.lit 0),(106,.lit 0),(105,.lit 0),(104,.lit 0),(102,.lit 0),(101,.lit 0),(100,.lit 0),(99,.lit 0),(97,.lit 0),(96,.lit 0),(95,.lit 0),(94,.lit 0),(93,.lit 0),(92,.lit 0),(91,.lit 0),(90,.lit 0),(89,.lit 0),(88,.lit 0),(87,.lit 0),(86,.lit 0),(85,.lit 0),(83,.lit 0),(82,.lit 0),(81,.lit 0),(80,.lit 0),(78,.lit 0),(77,.lit 0),(76,.lit 0),(75,.lit 0),(74,.lit 0),(73,.lit 0),(72,.lit 0),(71,.lit 0)],bv:=[(134,.lit true),(133,.lit false),(125,yw 58),(122,yw 55),(118,.lit true),(115,.lit true),(113,.lit false),(108,.lit false),(103,.lit false),(98,.lit false),(84,.lit false),(79,.lit false)],ct:=[(137,yu 70 59 7 yN 0),(121,yl 54 9 5 50 yW 0)],bk:=[(6,yc 3 7)],nb:=[5,4,5,4]})
 (.br (.aC (.var 0) (.lit 4))
  (.fin {lo:=71,az:=4,iv:=[(137,yv 70),(132,yv 65),(131,yv 64),(130,yv 63),(129,yv 62),(128,yv 61),(127,yv 60),(126,yv 59),(124,yv 57),(123,yv 56),(120,yv 53),(119,yv 52),(136,yv 69),(117,yv 50),(116,yv 49),(114,yv 47),(112,yv 45),(111,yv 44),(110,yv 43),(109,yv 42),(107,yv 40),(106,yv 39),(105,yv 38),(104,yv 37),(102,.lit 0),(101,.lit 0),(100,.lit 0),(99,.lit 0),(97,.lit 0),(96,.lit 0),(95,.lit 0),(94,.lit 0),(93,.lit 24),(92,.lit 0),(91,.lit 0),(90,.lit 1),(89,.lit 12),(88,yv 21),(87,yv 20),(86,yv 19),(85,yv 18),(83,yv 16),(82,yv 15),(81,yv 14),(80,yv 13),(78,yv 11),(77,yv 10),(76,yv 9),(75,yv 8),(74,yv 7),(73,yv 6),(72,yv 5),(71,yv 4)],bv:=[(134,yw 67),(133,yw 66),(125,yw 58),(122,yw 55),(118,yw 51),(115,yw 48),(113,yw 46),(108,yw 41),(103,.lit false),(98,.lit false),(84,yw 17),(79,yw 12)],ct:=[(137,yu 70 59 7 yN 0),(136,yu 69 70 7 yN 0),(135,yu 68 49 5 yW 0),(121,yl 54 9 5 50 yW 0)],bk:=[(6,yc 3 7),(5,yc 2 7),(4,yc 1 5)]})
  (.call 0 {lo:=0,az:=0,iv:=[(70,yv 70),(65,yv 65),(64,yv 64),(63,yv 63),(62,yv 62),(61,yv 61),(60,yv 60),(59,yv 59),(57,yv 57),(56,yv 56),(3,yv 3),(2,yv 2),(1,yv 1),(0,yv 0),(53,yv 53),(52,yv 52),(69,yv 69),(50,yv 50),(49,yv 49),(47,yv 47),(45,yv 45),(44,yv 44),(43,yv 43),(42,yv 42),(40,yv 40),(39,yv 39),(38,yv 38),(37,yv 37),(35,yv 35),(34,yv 34),(33,yv 33),(32,yv 32),(30,yv 30),(29,yv 29),(28,yv 28),(27,yv 27),(26,yv 26),(25,yv 25),(24,yv 24),(23,yv 23),(22,yv 22),(21,yv 21),(20,yv 20),(19,yv 19),(18,yv 18),(16,yv 16),(15,yv 15),(14,yv 14),(13,yv 13),(11,yv 11),(10,yv 10),(9,yv 9),(8,yv 8),(7,yv 7),(6,yv 6),(5,yv 5),(4,yv 4),(71,.lit 0)],bv:=[(67,yw 67),(66,yw 66),(58,yw 58),(55,yw 55),(51,yw 51),(48,yw 48),(46,yw 46),(41,yw 41),(36,yw 36),(31,yw 31),(17,yw 17),(12,yw 12)],ct:=[(70,yu 70 59 7 yN 0),(69,yu 69 70 7 yN 0),(68,yu 68 49 5 yW 0),(54,yl 54 9 5 50 yW 0)],bk:=[(3,yc 3 7),(2,yc 2 7),(1,yc 1 5),(0,yb 0)]} 71 <|
   .fin {lo:=71,az:=4,iv:=[(137,yv 137),(132,yv 132),(131,yv 131),(130,yv 130),(129,yv 129),(128,yv 128),(127,yv 127),(126,yv 126),(124,yv 124),(123,yv 123),(120,yv 120),(119,yv 119),(136,yv 136),(117,yv 117),(116,yv 116),(114,yv 114),(112,yv 112),(111,yv 111),(110,yv 110),(109,yv 109),(107,yv 107),(106,yv 106),(105,yv 105),(104,yv 104),(102,yv 102),(101,yv 101),(100,yv 100),(99,yv 99),(97,yv 97),(96,yv 96),(95,yv 95),(94,yv 94),(93,yv 93),(92,yv 92),(91,yv 91),(90,yv 90),(89,yv 89),(88,yv 88),(87,yv 87),(86,yv 86),(85,yv 85),(83,yv 83),(82,yv 82),(81,yv 81),(80,yv 80),(78,yv 78),(77,yv 77),(76,yv 76),(75,yv 75),(74,yv 74),(73,yv 73),(72,yv 72),(71,yv 71)],bv:=[(134,yw 134),(133,yw 133),(125,yw 125),(122,yw 122),(118,yw 118),(115,yw 115),(113,yw 113),(108,yw 108),(103,yw 103),(98,yw 98),(84,yw 84),(79,yw 79)],ct:=[(137,yu 137 126 7 yN 0),(136,yu 136 137 7 yN 0),(135,yu 135 116 5 yW 0),(121,yl 121 9 5 50 yW 0)],bk:=[(6,yc 6 7),(5,yc 5 7),(4,yc 4 5)]}))
theorem Qu:exec tab R6 8000 [] (fV jo.f jo.nv [] jo.gl jo.hp jo.args)=Eg:=by kernel_rfl
def wW (ρ:Env):Prop:=bJ ρ 71∧ae ρ 0 71=(ae ρ 0 4).scan
theorem Qv (ρ:Env) (hpre:wV ρ.num):Sat wW LU [] ρ Eg:=by
 replace hpre:wV ρ:=hpre
 obtain ⟨⟨o1,o2,o3⟩,hs⟩:=hpre
 unfold Eg
 refine Sat.br (fun c=>?_) (fun c=>?_)
 ·simp only [Da] at c
  have hm:(ae ρ 0 4).scan=(ae ρ 0 4).done:=if_pos c
  exact Sat.fin ⟨⟨(by first | exact o1 | exact o2 | exact o3 | exact aj rfl rfl | assumption),(by first | exact o2 | exact ⟨aj rfl rfl,Int.le_refl 0,.inl rfl⟩ | assumption),(by first | exact o1 | exact o2 | exact o3 | exact aj rfl rfl | assumption)⟩,Eq.trans (b:=(ae ρ 0 4).done) (RS.ext' rfl rfl rfl rfl rfl rfl bg bB rfl rfl rfl rfl bE rfl bz rfl rfl) (Eq.symm (hm))⟩
 ·simp only [Da] at c
  refine Sat.br (fun c2=>?_) (fun c2=>?_)
  ·simp only [Da] at c2
   have hm:(ae ρ 0 4).scan=(ae ρ 0 4).era 12:=(if_neg c).trans (if_pos c2)
   exact Sat.fin ⟨⟨(by first | exact o1 | exact o2 | exact o3 | exact aj rfl rfl | assumption),(by first | exact o2 | exact ⟨aj rfl rfl,Int.le_refl 0,.inl rfl⟩ | assumption),(by first | exact o1 | exact o2 | exact o3 | exact aj rfl rfl | assumption)⟩,Eq.trans (b:=(ae ρ 0 4).era 12) (RS.ext' rfl rfl rfl rfl rfl rfl bg bB rfl rfl rfl rfl bE rfl bz rfl rfl) (Eq.symm (hm))⟩
  ·simp only [Da] at c2
   have hm:(ae ρ 0 4).scan=((ae ρ 0 4).look 0).getD (ae ρ 0 4):=(if_neg c).trans (if_neg c2)
   refine eB (c:=iY) rfl (ae ρ 0 4) (((ae ρ 0 4).look 0).getD (ae ρ 0 4)) (by decide) (by decide) (jE rfl rfl rfl rfl) ⟨⟨o1,o2,o3⟩,hs,Int.le_refl 0,(show (0:Int)≤1000000 by decide)⟩ (RS.ext' rfl rfl rfl rfl rfl rfl bg bB rfl rfl rfl rfl bE rfl bz rfl rfl) (fun e hq hr=>⟨hq.1,by
     have h2:=hq.2.2
     rw [hr] at h2
     exact h2⟩) (fun q=>(bJ q 71)∧ae q 0 71=(ae q 0 4).scan) (fun e h1 h2=>⟨h1,h2.trans hm.symm⟩) fun q hq=>?_
   obtain ⟨⟨o1,o2,o3⟩,hm⟩:=hq
   exact Sat.fin ⟨⟨(by first | exact o1 | exact o2 | exact o3 | exact aj rfl rfl | assumption),(by first | exact o2 | exact ⟨aj rfl rfl,Int.le_refl 0,.inl rfl⟩ | assumption),(by first | exact o1 | exact o2 | exact o3 | exact aj rfl rfl | assumption)⟩,Eq.trans (b:=(ae q 0 71)) (RS.ext' rfl rfl rfl rfl rfl rfl bg bB rfl rfl rfl rfl bE rfl bz rfl rfl) (Eq.symm (hm.symm))⟩
theorem IP:bC Tryd.prog jo wV wW :=
 dJ fu (E:=R6) (cs:=LU) rfl TB di rfl Qu (by kernel_rfl) (fun ρ _ p hp=>by cases hp) Qv
end Go.Proofs.YthomdlajobnmnaaDoor
set_option linter.unusedSimpArgs false
set_option linter.unusedVariables false
namespace Go.Proofs.YthomdlajobnmnaaDoor
open Go.Rex
def IQ (ρ:Env) (v:Nat):Prop:=ρ.iv (v+55)≤1000000
noncomputable def R7:Ex:={sched:=sched,loops:=[],fin:=jI}
def Eh:Out :=
 .ob (.aA (.mul (.add (.var 59) (.lit 1)) (.lit 56)) (.lit 140737488355328)) <|
 .ob (.aA (.lit 0) (.var 59)) <|
 .ob (.aA (.var 59) (.var 60)) <|
 .ob (.aA (.var 60) (.lit 9223372036854775807)) <|
 .ob (.or (.not (.var 58)) (.aC (.var 59) (.lit 0))) <|
 .new 73 [.be (.and (.aA (.add (.var 59) (.lit 1)) (.var 73)) (.aA (.var 73) (.lit 9223372036854775807)))] <|
 .fin {lo:=73,az:=4,iv:=[(139,yv 70),(134,yv 65),(133,yv 64),(132,yv 63),(131,yv 62),(130,yv 61),(129,yv 73),(128,.add (.var 59) (.lit 1)),(126,yv 57),(125,yv 56),(122,yv 53),(121,yv 52),(138,yv 69),(119,yv 50),(118,yv 49),(116,yv 47),(114,yv 45),(113,yv 44),(112,yv 43),(111,yv 42),(109,yv 40),(108,yv 39),(107,yv 38),(106,yv 37),(104,yv 35),(103,yv 34),(102,yv 33),(101,yv 32),(99,yv 30),(98,yv 29),(97,yv 28),(96,yv 27),(95,yv 26),(94,yv 25),(93,yv 24),(92,yv 23),(91,yv 22),(90,yv 21),(89,yv 20),(88,yv 19),(87,yv 18),(85,yv 16),(84,yv 15),(83,yv 14),(82,yv 13),(80,yv 11),(79,yv 10),(78,yv 9),(77,yv 8),(76,yv 7),(75,yv 6),(74,yv 5),(73,yv 4)],bv:=[(136,yw 67),(135,yw 66),(127,.lit false),(124,yw 55),(120,yw 51),(117,yw 48),(115,yw 46),(110,yw 41),(105,yw 36),(100,yw 31),(86,yw 17),(81,yw 12)],ct:=[(139,.up {r:=70,n1:=.add (.var 59) (.lit 1),s1:=7,ks:=yN} 0 [⟨0,(.var 59),(.lit 0),0,.int .i64 (.var 8)⟩,⟨0,(.var 59),(.lit 0),1,.int .i64 (.var 9)⟩,⟨0,(.var 59),(.lit 0),2,.int .i64 (.lit 0)⟩,⟨0,(.var 59),(.lit 0),3,.int .i64 (.lit 0)⟩,⟨0,(.var 59),(.lit 0),4,.bool (.lit false)⟩,⟨0,(.var 59),(.lit 0),5,.int .i64 (.var 71)⟩,⟨0,(.var 59),(.lit 0),6,.int .i64 (.var 72)⟩] (.lit 0)),(138,yu 69 70 7 yN 0),(137,yu 68 49 5 yW 0),(123,yl 54 9 5 50 yW 0)],bk:=[(6,yc 7 7),(5,yc 2 7),(4,yc 1 5)]}
theorem Qw:exec tab R7 8000 [] (fV jI.f jI.nv [] jI.gl jI.hp jI.args)=Eh:=by kernel_rfl
def zH (ρ:Env):Prop:=bJ ρ 4∧IQ ρ 4
def Bn (ρ:Env):Prop:=bJ ρ 73∧ae ρ 0 73=(ae ρ 0 4).note (ρ.iv 71) (ρ.iv 72)
theorem Qx (ρ:Env) (hpre:zH ρ.num):Sat Bn [] [] ρ Eh:=by
 replace hpre:zH ρ:=hpre
 obtain ⟨⟨o1,o2,o3⟩,hf⟩:=hpre
 have Kk:=o3
 obtain ⟨p1,p2,p3,p4⟩:=o3
 replace hf:ρ.iv 59≤1000000:=hf
 unfold Eh
 refine Sat.ob (by simp only [Da];omega) (Sat.ob (decide_eq_true p2) (Sat.ob (decide_eq_true p3) (Sat.ob (decide_eq_true p4) (Sat.ob (aO Kk) (Sat.yM (fun q=>bJ q 4∧0≤q.iv 59) (fun e=>⟨⟨o1,o2,Kk⟩,p2⟩) fun q hq hb=>?_)))))
 obtain ⟨⟨o1,o2,o3⟩,p2⟩:=hq
 simp only [Da] at hb
 have hn:∀i:Nat,(i:Int)<q.iv 59→¬(q.iv 59).toNat=i:=fun i hi h=>by omega
 refine Sat.fin ⟨⟨(by first | exact o1 | exact o2 | exact o3 | exact aj rfl rfl | assumption),(by first | exact o2 | exact ⟨aj rfl rfl,Int.le_refl 0,.inl rfl⟩ | assumption),?_⟩,Eq.trans (b:=(ae q 0 4).note (q.iv 71) (q.iv 72)) (RS.ext' rfl rfl rfl rfl rfl rfl bg bB rfl rfl rfl rfl bE rfl ?_ rfl rfl) (Eq.symm (rfl))⟩
 ·refine ⟨fun h=>(by cases h),?_,?_,?_⟩
  ·show 0≤q.iv 59+1;omega
  ·exact hb.1
  ·exact hb.2
 ·refine (LK (ρ:=q) (r:=70) (n:=q.iv 59) (w:=⟨Wd.eF (av q 8),q.iv 71,q.iv 72⟩) p2 rfl (fun i hi=>?_) ?_)
  ·simp [bP,aD,-Int.pred_toNat,Sub.af,assoc,CV.I,CV.B,ah,ai,aa.I,aa.B,SC.I,SC.B,IE.den,BE.den,hn i hi]
  ·simp [bP,aD,av,Wd.eF,-Int.pred_toNat,Sub.af,assoc,CV.I,CV.B,ah,ai,aa.I,aa.B,SC.I,SC.B,IE.den,BE.den]
theorem Qy:bC Tryd.prog jI zH Bn :=
 dJ fu (E:=R7) (cs:=[]) rfl (fun k pre post h=>by cases h) di rfl Qw (by kernel_rfl) (fun ρ _ p hp=>by cases hp) Qx
def Gf:ko:=[(jo,wV,wW)]
theorem Qz:∀k pre post,(k,pre,post)∈Gf→jg k=true∧bC Tryd.prog k pre post:=by
 intro k pre post h
 simp only [Gf,List.mem_cons,List.not_mem_nil,or_false,Prod.mk.injEq] at h
 obtain ⟨rfl,rfl,rfl⟩:=h
 exact ⟨by kernel_rfl,IP⟩
noncomputable def N9:Ex:={sched:=sched,loops:=[],cons:=[jo],fin:=iN}
def Bo:Out :=
 .ob (.or (.not (.var 58)) (.aC (.var 59) (.lit 0))) <|
 .ob (.aA (.lit 0) (.var 59)) <|
 .br (.aA (.var 3) (.var 59))
 (.call 0 {lo:=0,az:=0,iv:=[(70,yv 70),(65,yv 65),(64,yv 64),(63,yv 63),(62,yv 62),(61,yv 61),(60,yv 60),(59,yv 59),(57,yv 57),(56,yv 56),(3,yv 3),(2,yv 2),(1,yv 1),(0,yv 0),(53,yv 53),(52,yv 52),(69,yv 69),(50,yv 50),(49,yv 49),(47,yv 47),(45,yv 45),(44,yv 44),(43,yv 43),(42,yv 42),(40,yv 40),(39,yv 39),(38,yv 38),(37,yv 37),(35,yv 35),(34,yv 34),(33,yv 33),(32,yv 32),(30,yv 30),(29,yv 29),(28,yv 28),(27,yv 27),(26,yv 26),(25,yv 25),(24,yv 24),(23,yv 23),(22,yv 22),(21,yv 21),(20,yv 20),(19,yv 19),(18,yv 18),(16,yv 16),(15,yv 15),(14,yv 14),(13,yv 13),(11,yv 11),(10,yv 10),(9,yv 9),(8,yv 8),(7,yv 7),(6,yv 6),(5,yv 5),(4,yv 4)],bv:=[(67,yw 67),(66,yw 66),(58,yw 58),(55,yw 55),(51,yw 51),(48,yw 48),(46,yw 46),(41,yw 41),(36,yw 36),(31,yw 31),(17,yw 17),(12,yw 12)],ct:=[(70,yu 70 59 7 yN 0),(69,yu 69 70 7 yN 0),(68,yu 68 49 5 yW 0),(54,yl 54 9 5 50 yW 0)],bk:=[(3,yc 3 7),(2,yc 2 7),(1,yc 1 5),(0,yb 0)]} 71 <|
  .fin {lo:=71,az:=4,iv:=[(137,yv 137),(132,yv 132),(131,yv 131),(130,yv 130),(129,yv 129),(128,yv 128),(127,yv 127),(126,yv 126),(124,yv 124),(123,yv 123),(120,yv 120),(119,yv 119),(136,yv 136),(117,yv 117),(116,yv 116),(114,yv 114),(112,yv 112),(111,yv 111),(110,yv 110),(109,yv 109),(107,yv 107),(106,yv 106),(105,yv 105),(104,yv 104),(102,yv 102),(101,yv 101),(100,yv 100),(99,yv 99),(97,yv 97),(96,yv 96),(95,yv 95),(94,yv 94),(93,yv 93),(92,yv 92),(91,yv 91),(90,yv 90),(89,yv 89),(88,yv 88),(87,yv 87),(86,yv 86),(85,yv 85),(83,yv 83),(82,yv 82),(81,yv 81),(80,yv 80),(78,yv 78),(77,yv 77),(76,yv 76),(75,yv 75),(74,yv 74),(73,yv 73),(72,yv 72),(71,yv 71)],bv:=[(134,yw 134),(133,yw 133),(125,yw 125),(122,yw 122),(118,yw 118),(115,yw 115),(113,yw 113),(108,yw 108),(103,yw 103),(98,yw 98),(84,yw 84),(79,yw 79)],ct:=[(137,yu 137 126 7 yN 0),(136,yu 136 137 7 yN 0),(135,yu 135 116 5 yW 0),(121,yl 121 9 5 50 yW 0)],bk:=[(6,yc 6 7),(5,yc 5 7),(4,yc 4 5)]})
 (.fin {lo:=71,az:=4,iv:=[(132,.lit 0),(131,.lit 0),(130,.lit 0),(129,.lit 0),(128,yv 61),(127,yv 60),(126,yv 59),(124,yv 57),(123,yv 56),(120,.lit 0),(119,.lit 0),(117,.lit 0),(116,.lit 0),(114,.lit 0),(112,.lit 0),(111,.lit 0),(110,.lit 0),(109,.lit 0),(107,.lit 0),(106,.lit 0),(105,.lit 0),(104,.lit 0),(102,.lit 0),(101,.lit 0),(100,.lit 0),(99,.lit 0),(97,.lit 0),(96,.lit 0),(95,.lit 0),(94,.lit 0),(93,.lit 0),(92,.lit 0),(91,.lit 0),(90,.lit 0),(89,.lit 0),(88,.lit 0),(87,.lit 0),(86,.lit 0),(85,.lit 0),(83,.lit 0),(82,.lit 0),(81,.lit 0),(80,.lit 0),(78,.lit 0),(77,.lit 0),(76,.lit 0),(75,.lit 0),(74,.lit 0),(73,.lit 0),(72,.lit 0),(71,.lit 0)],bv:=[(134,.lit true),(133,.lit false),(125,yw 58),(122,yw 55),(118,.lit true),(115,.lit true),(113,.lit false),(108,.lit false),(103,.lit false),(98,.lit false),(84,.lit false),(79,.lit false)],ct:=[(137,yu 70 59 7 yN 0),(121,yl 54 9 5 50 yW 0)],bk:=[(6,yc 3 7)],nb:=[5,4,5,4]})
theorem Oa:exec tab N9 8000 [] (fV iN.f iN.nv [] iN.gl iN.hp iN.args)=Bo:=by kernel_rfl
def yS (ρ:Env):Prop:=bJ ρ 71∧ae ρ 0 71=(ae ρ 0 4).dn
theorem Ob (ρ:Env) (hpre:wV ρ.num):Sat yS Gf [] ρ Bo:=by
 replace hpre:wV ρ:=hpre
 obtain ⟨⟨o1,o2,o3⟩,hs⟩:=hpre
 unfold Bo
 have hl:((ae ρ 0 4).notes.length:Int)=ρ.iv 59:=by
  have:=o3.2.1
  show ((aW ρ 70 (ρ.iv 59)).length:Int)=_
  rw [jW]
  exact Int.toNat_of_nonneg this
 refine Sat.ob (aO o3) (Sat.ob (decide_eq_true o3.2.1) (Sat.br (fun c=>?_) (fun c=>?_)))
 ·simp only [Da] at c
  have hm:(ae ρ 0 4).dn=(ae ρ 0 4).scan:=if_pos (by rw [hl];exact c)
  refine eB (c:=jo) rfl (ae ρ 0 4) (ae ρ 0 4).scan (by decide) (by decide) (jE rfl rfl rfl rfl) ⟨⟨o1,o2,o3⟩,hs⟩ (RS.ext' rfl rfl rfl rfl rfl rfl bg bB rfl rfl rfl rfl bE rfl bz rfl rfl) (fun e hq hr=>⟨hq.1,by rw [←hr];exact hq.2⟩) (fun q=>(bJ q 71)∧ae q 0 71=(ae q 0 4).dn) (fun e h1 h2=>⟨h1,h2.trans hm.symm⟩) fun q hq=>?_
  obtain ⟨⟨o1,o2,o3⟩,hm⟩:=hq
  exact Sat.fin ⟨⟨(by first | exact o1 | exact o2 | exact o3 | exact aj rfl rfl | assumption),(by first | exact o2 | exact ⟨aj rfl rfl,Int.le_refl 0,.inl rfl⟩ | assumption),(by first | exact o1 | exact o2 | exact o3 | exact aj rfl rfl | assumption)⟩,Eq.trans (b:=(ae q 0 71)) (RS.ext' rfl rfl rfl rfl rfl rfl bg bB rfl rfl rfl rfl bE rfl bz rfl rfl) (Eq.symm (hm.symm))⟩
 ·simp only [Da] at c
  have hm:(ae ρ 0 4).dn=(ae ρ 0 4).done:=if_neg (by rw [hl];show ¬ρ.iv 59≥ρ.iv 3;omega)
  exact Sat.fin ⟨⟨(by first | exact o1 | exact o2 | exact o3 | exact aj rfl rfl | assumption),(by first | exact o2 | exact ⟨aj rfl rfl,Int.le_refl 0,.inl rfl⟩ | assumption),(by first | exact o1 | exact o2 | exact o3 | exact aj rfl rfl | assumption)⟩,Eq.trans (b:=(ae ρ 0 4).done) (RS.ext' rfl rfl rfl rfl rfl rfl bg bB rfl rfl rfl rfl bE rfl bz rfl rfl) (Eq.symm (hm))⟩
theorem Oc:bC Tryd.prog iN wV yS :=
 dJ fu (E:=N9) (cs:=Gf) rfl Qz di rfl Oa (by kernel_rfl) (fun ρ _ p hp=>by cases hp) Ob
def Ei:ko:=[(jI,zH,Bn),(iN,wV,yS)]
theorem Kl:∀k pre post,(k,pre,post)∈Ei→jg k=true∧bC Tryd.prog k pre post:=by
 intro k pre post h
 simp only [Ei,List.mem_cons,List.not_mem_nil,or_false,Prod.mk.injEq] at h
 rcases h with ⟨rfl,rfl,rfl⟩ | ⟨rfl,rfl,rfl⟩
 ·exact ⟨by kernel_rfl,Qy⟩
 ·exact ⟨by kernel_rfl,Oc⟩
noncomputable def Km:Ex:={sched:=sched,loops:=[],cons:=[jI,iN],fin:=jm}
def yT:Out :=
 .br (.aC (.var 0) (.lit 2))
 (.call 0 {lo:=0,az:=0,iv:=[(70,yv 70),(65,yv 65),(64,yv 64),(63,yv 63),(62,yv 62),(61,yv 61),(60,yv 60),(59,yv 59),(57,yv 57),(56,yv 56),(3,yv 3),(2,yv 2),(1,yv 1),(0,yv 0),(53,yv 53),(52,yv 52),(69,yv 69),(50,yv 50),(49,yv 49),(47,yv 47),(45,yv 45),(44,yv 44),(43,yv 43),(42,yv 42),(40,yv 40),(39,yv 39),(38,yv 38),(37,yv 37),(35,yv 35),(34,yv 34),(33,yv 33),(32,yv 32),(30,yv 30),(29,yv 29),(28,yv 28),(27,yv 27),(26,yv 26),(25,yv 25),(24,yv 24),(23,yv 23),(22,yv 22),(21,yv 21),(20,yv 20),(19,yv 19),(18,yv 18),(16,yv 16),(15,yv 15),(14,yv 14),(13,yv 13),(11,yv 11),(10,yv 10),(9,yv 9),(8,yv 8),(7,yv 7),(6,yv 6),(5,yv 5),(4,yv 4),(72,.lit 0),(71,.lit 0)],bv:=[(67,yw 67),(66,yw 66),(58,yw 58),(55,yw 55),(51,yw 51),(48,yw 48),(46,yw 46),(41,yw 41),(36,yw 36),(31,yw 31),(17,yw 17),(12,yw 12)],ct:=[(70,yu 70 59 7 yN 0),(69,yu 69 70 7 yN 0),(68,yu 68 49 5 yW 0),(54,yl 54 9 5 50 yW 0)],bk:=[(3,yc 3 7),(2,yc 2 7),(1,yc 1 5),(0,yb 0)]} 71 <|
  .call 1 {lo:=0,az:=0,iv:=[(70,yv 137),(65,yv 132),(64,yv 131),(63,yv 130),(62,yv 129),(61,yv 128),(60,yv 127),(59,yv 126),(57,yv 124),(56,yv 123),(3,yv 3),(2,yv 2),(1,yv 1),(0,yv 0),(53,yv 120),(52,yv 119),(69,yv 136),(50,yv 117),(49,yv 116),(47,yv 114),(45,yv 112),(44,yv 111),(43,yv 110),(42,yv 109),(40,yv 107),(39,yv 106),(38,yv 105),(37,yv 104),(35,yv 102),(34,yv 101),(33,yv 100),(32,yv 99),(30,yv 97),(29,yv 96),(28,yv 95),(27,yv 94),(26,yv 93),(25,yv 92),(24,yv 91),(23,yv 90),(22,yv 89),(21,yv 88),(20,yv 87),(19,yv 86),(18,yv 85),(16,yv 83),(15,yv 82),(14,yv 81),(13,yv 80),(11,yv 78),(10,yv 77),(9,yv 76),(8,yv 75),(7,yv 74),(6,yv 73),(5,yv 72),(4,yv 71)],bv:=[(67,yw 134),(66,yw 133),(58,yw 125),(55,yw 122),(51,yw 118),(48,yw 115),(46,yw 113),(41,yw 108),(36,yw 103),(31,yw 98),(17,yw 84),(12,yw 79)],ct:=[(70,yu 137 126 7 yN 0),(69,yu 136 137 7 yN 0),(68,yu 135 116 5 yW 0),(54,yl 121 9 5 50 yW 0)],bk:=[(3,yc 6 7),(2,yc 5 7),(1,yc 4 5),(0,yb 0)]} 138 <|
  .fin {lo:=71,az:=4,iv:=[(137,yv 204),(132,yv 199),(131,yv 198),(130,yv 197),(129,yv 196),(128,yv 195),(127,yv 194),(126,yv 193),(124,yv 191),(123,yv 190),(120,yv 187),(119,yv 186),(136,yv 203),(117,yv 184),(116,yv 183),(114,yv 181),(112,yv 179),(111,yv 178),(110,yv 177),(109,yv 176),(107,yv 174),(106,yv 173),(105,yv 172),(104,yv 171),(102,yv 169),(101,yv 168),(100,yv 167),(99,yv 166),(97,yv 164),(96,yv 163),(95,yv 162),(94,yv 161),(93,yv 160),(92,yv 159),(91,yv 158),(90,yv 157),(89,yv 156),(88,yv 155),(87,yv 154),(86,yv 153),(85,yv 152),(83,yv 150),(82,yv 149),(81,yv 148),(80,yv 147),(78,yv 145),(77,yv 144),(76,yv 143),(75,yv 142),(74,yv 141),(73,yv 140),(72,yv 139),(71,yv 138)],bv:=[(134,yw 201),(133,yw 200),(125,yw 192),(122,yw 189),(118,yw 185),(115,yw 182),(113,yw 180),(108,yw 175),(103,yw 170),(98,yw 165),(84,yw 151),(79,yw 146)],ct:=[(137,yu 204 193 7 yN 0),(136,yu 203 204 7 yN 0),(135,yu 202 183 5 yW 0),(121,yl 188 9 5 50 yW 0)],bk:=[(6,yc 9 7),(5,yc 8 7),(4,yc 7 5)]})
 (.br (.aC (.var 0) (.lit 4))
  (.fin {lo:=71,az:=4,iv:=[(137,yv 70),(132,yv 65),(131,yv 64),(130,yv 63),(129,yv 62),(128,yv 61),(127,yv 60),(126,yv 59),(124,yv 57),(123,yv 56),(120,yv 53),(119,yv 52),(136,yv 69),(117,yv 50),(116,yv 49),(114,yv 47),(112,yv 45),(111,yv 44),(110,yv 43),(109,yv 42),(107,yv 40),(106,yv 39),(105,yv 38),(104,yv 37),(102,.lit 0),(101,.lit 0),(100,.lit 0),(99,.lit 0),(97,.lit 0),(96,.lit 0),(95,.lit 0),(94,.lit 0),(93,.lit 24),(92,.lit 0),(91,.lit 0),(90,.lit 1),(89,.lit 10),(88,yv 21),(87,yv 20),(86,yv 19),(85,yv 18),(83,yv 16),(82,yv 15),(81,yv 14),(80,yv 13),(78,yv 11),(77,yv 10),(76,yv 9),(75,yv 8),(74,yv 7),(73,yv 6),(72,yv 5),(71,yv 4)],bv:=[(134,yw 67),(133,yw 66),(125,yw 58),(122,yw 55),(118,yw 51),(115,yw 48),(113,yw 46),(108,yw 41),(103,.lit false),(98,.lit false),(84,yw 17),(79,yw 12)],ct:=[(137,yu 70 59 7 yN 0),(136,yu 69 70 7 yN 0),(135,yu 68 49 5 yW 0),(121,yl 54 9 5 50 yW 0)],bk:=[(6,yc 3 7),(5,yc 2 7),(4,yc 1 5)]})
  (.br (.aC (.var 0) (.lit 3))
   (.fin {lo:=71,az:=4,iv:=[(137,yv 70),(132,yv 65),(131,yv 64),(130,yv 63),(129,yv 62),(128,yv 61),(127,yv 60),(126,yv 59),(124,yv 57),(123,yv 56),(120,yv 53),(119,yv 52),(136,yv 69),(117,yv 50),(116,yv 49),(114,yv 47),(112,yv 45),(111,yv 44),(110,yv 43),(109,yv 42),(107,yv 40),(106,yv 39),(105,yv 38),(104,yv 37),(102,.lit 0),(101,.lit 0),(100,.lit 0),(99,.lit 0),(97,.lit 0),(96,.lit 0),(95,.lit 0),(94,.lit 0),(93,.lit 9),(92,yv 9),(91,yv 8),(90,.lit 1),(89,.lit 9),(88,yv 21),(87,yv 20),(86,yv 19),(85,yv 18),(83,yv 16),(82,yv 15),(81,yv 14),(80,yv 13),(78,yv 11),(77,yv 10),(76,yv 9),(75,yv 8),(74,yv 7),(73,yv 6),(72,yv 5),(71,yv 4)],bv:=[(134,yw 67),(133,yw 66),(125,yw 58),(122,yw 55),(118,yw 51),(115,yw 48),(113,yw 46),(108,yw 41),(103,.lit false),(98,.lit false),(84,yw 17),(79,yw 12)],ct:=[(137,yu 70 59 7 yN 0),(136,yu 69 70 7 yN 0),(135,yu 68 49 5 yW 0),(121,yl 54 9 5 50 yW 0)],bk:=[(6,yc 3 7),(5,yc 2 7),(4,yc 1 5)]})
   (.br (.aC (.var 0) (.lit 5))
    (.fin {lo:=71,az:=4,iv:=[(137,yv 70),(132,yv 65),(131,yv 64),(130,yv 63),(129,yv 62),(128,yv 61),(127,yv 60),(126,yv 59),(124,yv 57),(123,yv 56),(120,yv 53),(119,yv 52),(136,yv 69),(117,yv 50),(116,yv 49),(114,yv 47),(112,yv 45),(111,yv 44),(110,yv 43),(109,yv 42),(107,yv 40),(106,yv 39),(105,yv 38),(104,yv 37),(102,.lit 0),(101,.lit 0),(100,.lit 0),(99,.lit 0),(97,.lit 0),(96,.lit 0),(95,.lit 0),(94,.lit 0),(93,.lit 9),(92,yv 9),(91,yv 8),(90,.lit 1),(89,.lit 9),(88,yv 21),(87,yv 20),(86,yv 19),(85,yv 18),(83,yv 16),(82,yv 15),(81,yv 14),(80,yv 13),(78,yv 11),(77,yv 10),(76,yv 9),(75,yv 8),(74,yv 7),(73,yv 6),(72,yv 5),(71,yv 4)],bv:=[(134,yw 67),(133,yw 66),(125,yw 58),(122,yw 55),(118,yw 51),(115,yw 48),(113,yw 46),(108,yw 41),(103,.lit false),(98,.lit false),(84,yw 17),(79,yw 12)],ct:=[(137,yu 70 59 7 yN 0),(136,yu 69 70 7 yN 0),(135,yu 68 49 5 yW 0),(121,yl 54 9 5 50 yW 0)],bk:=[(6,yc 3 7),(5,yc 2 7),(4,yc 1 5)]})
    (.fin {lo:=71,az:=4,iv:=[(132,.lit 0),(131,.lit 0),(130,.lit 0),(129,.lit 0),(128,yv 61),(127,yv 60),(126,yv 59),(124,yv 57),(123,yv 56),(120,.lit 0),(119,.lit 0),(117,.lit 0),(116,.lit 0),(114,.lit 0),(112,.lit 0),(111,.lit 0),(110,.lit 0),(109,.lit 0),(107,.lit 0),(106,.lit 0),(105,.lit 0),(104,.lit 0),(102,.lit 0),(101,.lit 0),(100,.lit 0),(99,.lit 0),(97,.lit 0),(96,.lit 0),(95,.lit 0),(94,.lit 0),(93,.lit 0),(92,.lit 0),(91,.lit 0),(90,.lit 0),(89,.lit 0),(88,.lit 0),(87,.lit 0),(86,.lit 0),(85,.lit 0),(83,.lit 0),(82,.lit 0),(81,.lit 0),(80,.lit 0),(78,.lit 0),(77,.lit 0),(76,.lit 0),(75,.lit 0),(74,.lit 0),(73,.lit 0),(72,.lit 0),(71,.lit 0)],bv:=[(134,.lit true),(133,.lit false),(125,yw 58),(122,yw 55),(118,.lit true),(115,.lit true),(113,.lit false),(108,.lit false),(103,.lit false),(98,.lit false),(84,.lit false),(79,.lit false)],ct:=[(137,yu 70 59 7 yN 0),(121,yl 54 9 5 50 yW 0)],bk:=[(6,yc 3 7)],nb:=[5,4,5,4]}))))
theorem LV:exec tab Km 8000 [] (fV jm.f jm.nv [] jm.gl jm.hp jm.args)=yT:=by kernel_rfl
def uj (ρ:Env):Prop:=bJ ρ 4∧vF ρ∧IQ ρ 4
def wX (ρ:Env):Prop:=bJ ρ 71∧ae ρ 0 71=(ae ρ 0 4).fB
theorem LW (ρ:Env) (hpre:uj ρ.num):Sat wX Ei [] ρ yT:=by
 replace hpre:uj ρ:=hpre
 obtain ⟨⟨o1,o2,o3⟩,hs,hf⟩:=hpre
 unfold yT
 refine Sat.br (fun c=>?_) (fun c=>?_)
 ·simp only [Da] at c
  have hm:(ae ρ 0 4).fB=((ae ρ 0 4).note 0 0).dn:=if_pos c
  refine eB (c:=jI) rfl (ae ρ 0 4) ((ae ρ 0 4).note 0 0) (by decide) (by decide) (jE rfl rfl rfl rfl) ⟨⟨o1,o2,o3⟩,hf⟩ (RS.ext' rfl rfl rfl rfl rfl rfl bg bB rfl rfl rfl rfl bE rfl bz rfl rfl) (fun e hq hr=>⟨hq.1,by rw [←hr];exact hq.2⟩) (fun q=>(bJ q 71)∧vF q∧ae q 0 71=(ae q 0 4).note 0 0∧(ae q 0 4).fB=((ae q 0 4).note 0 0).dn) (fun e h1 h2=>⟨h1,hs,h2,hm⟩) fun q hq=>?_
  obtain ⟨⟨o1,o2,o3⟩,hs,hn,hm⟩:=hq
  refine eB (c:=iN) rfl (ae q 0 71) (ae q 0 71).dn (by decide) (by decide) (jE rfl rfl rfl rfl) ⟨⟨o1,o2,o3⟩,hs⟩ (RS.ext' rfl rfl rfl rfl rfl rfl bg bB rfl rfl rfl rfl bE rfl bz rfl rfl) (fun e hq hr=>⟨hq.1,by rw [←hr];exact hq.2⟩) (fun u=>(bJ u 138)∧ae u 0 138=(ae u 0 4).fB) (fun e h1 h2=>⟨h1,h2.trans ((congrArg RS.dn hn).trans hm.symm)⟩) fun u hu=>?_
  obtain ⟨⟨o1,o2,o3⟩,hm⟩:=hu
  exact Sat.fin ⟨⟨(by first | exact o1 | exact o2 | exact o3 | exact aj rfl rfl | assumption),(by first | exact o2 | exact ⟨aj rfl rfl,Int.le_refl 0,.inl rfl⟩ | assumption),(by first | exact o1 | exact o2 | exact o3 | exact aj rfl rfl | assumption)⟩,Eq.trans (b:=(ae u 0 138)) (RS.ext' rfl rfl rfl rfl rfl rfl bg bB rfl rfl rfl rfl bE rfl bz rfl rfl) (Eq.symm (hm.symm))⟩
 ·simp only [Da] at c
  refine Sat.br (fun c2=>?_) (fun c2=>?_)
  ·simp only [Da] at c2
   have hm:(ae ρ 0 4).fB=(ae ρ 0 4).era 10:=(if_neg c).trans (if_pos c2)
   exact Sat.fin ⟨⟨(by first | exact o1 | exact o2 | exact o3 | exact aj rfl rfl | assumption),(by first | exact o2 | exact ⟨aj rfl rfl,Int.le_refl 0,.inl rfl⟩ | assumption),(by first | exact o1 | exact o2 | exact o3 | exact aj rfl rfl | assumption)⟩,Eq.trans (b:=(ae ρ 0 4).era 10) (RS.ext' rfl rfl rfl rfl rfl rfl bg bB rfl rfl rfl rfl bE rfl bz rfl rfl) (Eq.symm (hm))⟩
  ·simp only [Da] at c2
   refine Sat.br (fun c3=>?_) (fun c3=>?_)
   ·simp only [Da] at c3
    have hm:(ae ρ 0 4).fB=(ae ρ 0 4).load 9 (ρ.iv 8) (ρ.iv 9) 9:=(if_neg c).trans ((if_neg c2).trans (if_pos (.inl c3)))
    exact Sat.fin ⟨⟨(by first | exact o1 | exact o2 | exact o3 | exact aj rfl rfl | assumption),(by first | exact o2 | exact ⟨aj rfl rfl,Int.le_refl 0,.inl rfl⟩ | assumption),(by first | exact o1 | exact o2 | exact o3 | exact aj rfl rfl | assumption)⟩,Eq.trans (b:=(ae ρ 0 4).load 9 (ρ.iv 8) (ρ.iv 9) 9) (RS.ext' rfl rfl rfl rfl rfl rfl bg bB rfl rfl rfl rfl bE rfl bz rfl rfl) (Eq.symm (hm))⟩
   ·simp only [Da] at c3
    refine Sat.br (fun c4=>?_) (fun c4=>?_)
    ·simp only [Da] at c4
     have hm:(ae ρ 0 4).fB=(ae ρ 0 4).load 9 (ρ.iv 8) (ρ.iv 9) 9:=(if_neg c).trans ((if_neg c2).trans (if_pos (.inr c4)))
     exact Sat.fin ⟨⟨(by first | exact o1 | exact o2 | exact o3 | exact aj rfl rfl | assumption),(by first | exact o2 | exact ⟨aj rfl rfl,Int.le_refl 0,.inl rfl⟩ | assumption),(by first | exact o1 | exact o2 | exact o3 | exact aj rfl rfl | assumption)⟩,Eq.trans (b:=(ae ρ 0 4).load 9 (ρ.iv 8) (ρ.iv 9) 9) (RS.ext' rfl rfl rfl rfl rfl rfl bg bB rfl rfl rfl rfl bE rfl bz rfl rfl) (Eq.symm (hm))⟩
    ·simp only [Da] at c4
     have hm:(ae ρ 0 4).fB=(ae ρ 0 4).done:=(if_neg c).trans ((if_neg c2).trans (if_neg (fun h=>h.elim c3 c4)))
     exact Sat.fin ⟨⟨(by first | exact o1 | exact o2 | exact o3 | exact aj rfl rfl | assumption),(by first | exact o2 | exact ⟨aj rfl rfl,Int.le_refl 0,.inl rfl⟩ | assumption),(by first | exact o1 | exact o2 | exact o3 | exact aj rfl rfl | assumption)⟩,Eq.trans (b:=(ae ρ 0 4).done) (RS.ext' rfl rfl rfl rfl rfl rfl bg bB rfl rfl rfl rfl bE rfl bz rfl rfl) (Eq.symm (hm))⟩
theorem LX:bC Tryd.prog jm uj wX :=
 dJ fu (E:=Km) (cs:=Ei) rfl Kl di rfl LV (by kernel_rfl) (fun ρ _ p hp=>by cases hp) LW
end Go.Proofs.YthomdlajobnmnaaDoor
set_option linter.unusedSimpArgs false
set_option linter.unusedVariables false
namespace Go.Proofs.YthomdlajobnmnaaDoor
open Go.Rex
def Dl (ρ:Env) (v:Nat):Prop:=(-1000000000000≤ρ.iv (v+2)∧ρ.iv (v+2)≤1000000000000)∧-1000000000000≤ρ.iv (v+3)∧ρ.iv (v+3)≤1000000000000
noncomputable def R8:Ex:={sched:=sched,loops:=[],cons:=[jI,iN],fin:=jJ}
def Ej:Out :=
 .br (.aC (.var 22) (.lit 9))
 (.fin {lo:=77,az:=4,iv:=[(143,yv 70),(138,yv 65),(137,yv 64),(136,yv 63),(135,yv 62),(134,yv 61),(133,yv 60),(132,yv 59),(130,yv 57),(129,yv 56),(126,yv 53),(125,yv 52),(142,yv 69),(123,yv 50),(122,yv 49),(120,yv 47),(118,yv 45),(117,yv 44),(116,yv 43),(115,yv 42),(113,yv 74),(112,yv 73),(111,yv 72),(110,yv 71),(108,.lit 0),(107,.lit 0),(106,.lit 0),(105,.lit 0),(103,.lit 0),(102,.lit 0),(101,.lit 0),(100,.lit 0),(99,.lit 24),(98,.lit 0),(97,.lit 0),(96,.lit 1),(95,.lit 10),(94,yv 21),(93,yv 20),(92,yv 19),(91,yv 18),(89,yv 16),(88,yv 15),(87,yv 14),(86,yv 13),(84,yv 11),(83,yv 10),(82,yv 9),(81,yv 8),(80,yv 7),(79,yv 6),(78,yv 5),(77,yv 4)],bv:=[(140,yw 67),(139,yw 66),(131,yw 58),(128,yw 55),(124,yw 51),(121,yw 48),(119,yw 46),(114,yw 75),(109,.lit false),(104,.lit false),(90,yw 17),(85,yw 12)],ct:=[(143,yu 70 59 7 yN 0),(142,yu 69 70 7 yN 0),(141,yu 68 49 5 yW 0),(127,yl 54 9 5 50 yW 0)],bk:=[(6,yc 3 7),(5,yc 2 7),(4,yc 1 5)]})
 (.br (.aC (.var 22) (.lit 10))
  (.call 0 {lo:=0,az:=0,iv:=[(70,yv 70),(65,yv 65),(64,yv 64),(63,yv 63),(62,yv 62),(61,yv 61),(60,yv 60),(59,yv 59),(57,yv 57),(56,yv 56),(3,yv 3),(2,yv 2),(1,yv 1),(0,yv 0),(53,yv 53),(52,yv 52),(69,yv 69),(50,yv 50),(49,yv 49),(47,yv 47),(45,yv 74),(44,yv 73),(43,yv 72),(42,yv 71),(40,yv 40),(39,yv 39),(38,yv 38),(37,yv 37),(35,yv 35),(34,yv 34),(33,yv 33),(32,yv 32),(30,yv 30),(29,yv 29),(28,yv 28),(27,yv 27),(26,yv 26),(25,yv 25),(24,yv 24),(23,yv 23),(22,yv 22),(21,yv 21),(20,yv 20),(19,yv 19),(18,yv 18),(16,yv 16),(15,yv 15),(14,yv 14),(13,yv 13),(11,yv 11),(10,yv 10),(9,yv 9),(8,yv 8),(7,yv 7),(6,yv 6),(5,yv 5),(4,yv 4),(72,yv 74),(71,yv 40)],bv:=[(67,yw 67),(66,yw 66),(58,yw 58),(55,yw 55),(51,yw 51),(48,yw 48),(46,yw 75),(41,yw 41),(36,yw 36),(31,yw 31),(17,yw 17),(12,yw 12)],ct:=[(70,yu 70 59 7 yN 0),(69,yu 69 70 7 yN 0),(68,yu 68 49 5 yW 0),(54,yl 54 9 5 50 yW 0)],bk:=[(3,yc 3 7),(2,yc 2 7),(1,yc 1 5),(0,yb 0)]} 77 <|
   .br (.or (.aC (.var 0) (.lit 3)) (.aC (.var 0) (.lit 5)))
   (.ob (.inr .i64 (.add (.var 117) (.lit 1))) <|
    .ob (.inr .i64 (.add (.var 118) (.lit 1))) <|
    .fin {lo:=77,az:=4,iv:=[(143,yv 143),(138,yv 138),(137,yv 137),(136,yv 136),(135,yv 135),(134,yv 134),(133,yv 133),(132,yv 132),(130,yv 130),(129,yv 129),(126,yv 126),(125,yv 125),(142,yv 142),(123,yv 123),(122,yv 122),(120,yv 120),(118,yv 118),(117,yv 117),(116,yv 116),(115,yv 115),(113,yv 113),(112,yv 112),(111,yv 111),(110,yv 110),(108,.add (.var 118) (.lit 1)),(107,.add (.var 117) (.lit 1)),(106,.lit 0),(105,.lit 0),(103,yv 118),(102,yv 117),(101,yv 116),(100,yv 115),(99,.lit 24),(98,.lit 0),(97,.lit 0),(96,.lit 3),(95,.lit 11),(94,yv 94),(93,yv 93),(92,yv 92),(91,yv 91),(89,yv 89),(88,yv 88),(87,yv 87),(86,yv 86),(84,yv 84),(83,yv 83),(82,yv 82),(81,yv 81),(80,yv 80),(79,yv 79),(78,yv 78),(77,yv 77)],bv:=[(140,yw 140),(139,yw 139),(131,yw 131),(128,yw 128),(124,yw 124),(121,yw 121),(119,yw 119),(114,yw 114),(109,.lit false),(104,yw 119),(90,yw 90),(85,yw 85)],ct:=[(143,yu 143 132 7 yN 0),(142,yu 142 143 7 yN 0),(141,yu 141 122 5 yW 0),(127,yl 127 9 5 50 yW 0)],bk:=[(6,yc 7 7),(5,yc 6 7),(4,yc 5 5)]})
   (.call 1 {lo:=0,az:=0,iv:=[(70,yv 143),(65,yv 138),(64,yv 137),(63,yv 136),(62,yv 135),(61,yv 134),(60,yv 133),(59,yv 132),(57,yv 130),(56,yv 129),(3,yv 3),(2,yv 2),(1,yv 1),(0,yv 0),(53,yv 126),(52,yv 125),(69,yv 142),(50,yv 123),(49,yv 122),(47,yv 120),(45,yv 118),(44,yv 117),(43,yv 116),(42,yv 115),(40,yv 113),(39,yv 112),(38,yv 111),(37,yv 110),(35,yv 108),(34,yv 107),(33,yv 106),(32,yv 105),(30,yv 103),(29,yv 102),(28,yv 101),(27,yv 100),(26,yv 99),(25,yv 98),(24,yv 97),(23,yv 96),(22,yv 95),(21,yv 94),(20,yv 93),(19,yv 92),(18,yv 91),(16,yv 89),(15,yv 88),(14,yv 87),(13,yv 86),(11,yv 84),(10,yv 83),(9,yv 82),(8,yv 81),(7,yv 80),(6,yv 79),(5,yv 78),(4,yv 77)],bv:=[(67,yw 140),(66,yw 139),(58,yw 131),(55,yw 128),(51,yw 124),(48,yw 121),(46,yw 119),(41,yw 114),(36,yw 109),(31,yw 104),(17,yw 90),(12,yw 85)],ct:=[(70,yu 143 132 7 yN 0),(69,yu 142 143 7 yN 0),(68,yu 141 122 5 yW 0),(54,yl 127 9 5 50 yW 0)],bk:=[(3,yc 7 7),(2,yc 6 7),(1,yc 5 5),(0,yb 0)]} 144 <|
    .fin {lo:=77,az:=4,iv:=[(143,yv 210),(138,yv 205),(137,yv 204),(136,yv 203),(135,yv 202),(134,yv 201),(133,yv 200),(132,yv 199),(130,yv 197),(129,yv 196),(126,yv 193),(125,yv 192),(142,yv 209),(123,yv 190),(122,yv 189),(120,yv 187),(118,yv 185),(117,yv 184),(116,yv 183),(115,yv 182),(113,yv 180),(112,yv 179),(111,yv 178),(110,yv 177),(108,yv 175),(107,yv 174),(106,yv 173),(105,yv 172),(103,yv 170),(102,yv 169),(101,yv 168),(100,yv 167),(99,yv 166),(98,yv 165),(97,yv 164),(96,yv 163),(95,yv 162),(94,yv 161),(93,yv 160),(92,yv 159),(91,yv 158),(89,yv 156),(88,yv 155),(87,yv 154),(86,yv 153),(84,yv 151),(83,yv 150),(82,yv 149),(81,yv 148),(80,yv 147),(79,yv 146),(78,yv 145),(77,yv 144)],bv:=[(140,yw 207),(139,yw 206),(131,yw 198),(128,yw 195),(124,yw 191),(121,yw 188),(119,yw 186),(114,yw 181),(109,yw 176),(104,yw 171),(90,yw 157),(85,yw 152)],ct:=[(143,yu 210 199 7 yN 0),(142,yu 209 210 7 yN 0),(141,yu 208 189 5 yW 0),(127,yl 194 9 5 50 yW 0)],bk:=[(6,yc 10 7),(5,yc 9 7),(4,yc 8 5)]}))
  (.br (.aC (.var 22) (.lit 11))
   (.call 1 {lo:=0,az:=0,iv:=[(70,yv 70),(65,yv 65),(64,yv 64),(63,yv 63),(62,yv 62),(61,yv 61),(60,yv 60),(59,yv 59),(57,yv 57),(56,yv 56),(3,yv 3),(2,yv 2),(1,yv 1),(0,yv 0),(53,yv 53),(52,yv 52),(69,yv 69),(50,yv 50),(49,yv 49),(47,yv 47),(45,yv 45),(44,yv 44),(43,yv 43),(42,yv 42),(40,yv 40),(39,yv 39),(38,yv 38),(37,yv 37),(35,yv 35),(34,yv 34),(33,yv 33),(32,yv 32),(30,yv 30),(29,yv 29),(28,yv 28),(27,yv 27),(26,yv 26),(25,yv 25),(24,yv 24),(23,yv 23),(22,yv 22),(21,yv 21),(20,yv 20),(19,yv 19),(18,yv 18),(16,yv 16),(15,yv 15),(14,yv 14),(13,yv 13),(11,yv 11),(10,yv 10),(9,yv 9),(8,yv 8),(7,yv 7),(6,yv 6),(5,yv 5),(4,yv 4)],bv:=[(67,yw 67),(66,yw 66),(58,yw 58),(55,yw 55),(51,yw 51),(48,yw 48),(46,yw 46),(41,yw 41),(36,yw 36),(31,yw 31),(17,yw 17),(12,yw 12)],ct:=[(70,yu 70 59 7 yN 0),(69,yu 69 70 7 yN 0),(68,yu 68 49 5 yW 0),(54,yl 54 9 5 50 yW 0)],bk:=[(3,yc 3 7),(2,yc 2 7),(1,yc 1 5),(0,yb 0)]} 77 <|
    .fin {lo:=77,az:=4,iv:=[(143,yv 143),(138,yv 138),(137,yv 137),(136,yv 136),(135,yv 135),(134,yv 134),(133,yv 133),(132,yv 132),(130,yv 130),(129,yv 129),(126,yv 126),(125,yv 125),(142,yv 142),(123,yv 123),(122,yv 122),(120,yv 120),(118,yv 118),(117,yv 117),(116,yv 116),(115,yv 115),(113,yv 113),(112,yv 112),(111,yv 111),(110,yv 110),(108,yv 108),(107,yv 107),(106,yv 106),(105,yv 105),(103,yv 103),(102,yv 102),(101,yv 101),(100,yv 100),(99,yv 99),(98,yv 98),(97,yv 97),(96,yv 96),(95,yv 95),(94,yv 94),(93,yv 93),(92,yv 92),(91,yv 91),(89,yv 89),(88,yv 88),(87,yv 87),(86,yv 86),(84,yv 84),(83,yv 83),(82,yv 82),(81,yv 81),(80,yv 80),(79,yv 79),(78,yv 78),(77,yv 77)],bv:=[(140,yw 140),(139,yw 139),(131,yw 131),(128,yw 128),(124,yw 124),(121,yw 121),(119,yw 119),(114,yw 114),(109,yw 109),(104,yw 104),(90,yw 90),(85,yw 85)],ct:=[(143,yu 143 132 7 yN 0),(142,yu 142 143 7 yN 0),(141,yu 141 122 5 yW 0),(127,yl 127 9 5 50 yW 0)],bk:=[(6,yc 7 7),(5,yc 6 7),(4,yc 5 5)]})
   (.fin {lo:=77,az:=4,iv:=[(143,yv 70),(138,yv 65),(137,yv 64),(136,yv 63),(135,yv 62),(134,yv 61),(133,yv 60),(132,yv 59),(130,yv 57),(129,yv 56),(126,yv 53),(125,yv 52),(142,yv 69),(123,yv 50),(122,yv 49),(120,yv 47),(118,yv 45),(117,yv 44),(116,yv 43),(115,yv 42),(113,yv 40),(112,yv 39),(111,yv 38),(110,yv 37),(108,yv 35),(107,yv 34),(106,yv 33),(105,yv 32),(103,yv 30),(102,yv 29),(101,yv 28),(100,yv 27),(99,yv 26),(98,yv 25),(97,yv 24),(96,yv 23),(95,yv 22),(94,yv 21),(93,yv 20),(92,yv 19),(91,yv 18),(89,yv 16),(88,yv 15),(87,yv 14),(86,yv 13),(84,yv 11),(83,yv 10),(82,yv 9),(81,yv 8),(80,yv 7),(79,yv 6),(78,yv 5),(77,yv 4)],bv:=[(140,yw 67),(139,yw 66),(131,yw 58),(128,yw 55),(124,yw 51),(121,yw 48),(119,yw 46),(114,yw 41),(109,yw 36),(104,yw 31),(90,yw 17),(85,yw 12)],ct:=[(143,yu 70 59 7 yN 0),(142,yu 69 70 7 yN 0),(141,yu 68 49 5 yW 0),(127,yl 54 9 5 50 yW 0)],bk:=[(6,yc 3 7),(5,yc 2 7),(4,yc 1 5)]})))
theorem QA:exec tab R8 8000 [] (fV jJ.f jJ.nv [] jJ.gl jJ.hp jJ.args)=Ej:=by kernel_rfl
def zI (ρ:Env):Prop:=bJ ρ 4∧vF ρ∧IQ ρ 4∧Dl ρ 71
def Bp (ρ:Env):Prop:=bJ ρ 77∧ae ρ 0 77=(ae ρ 0 4).dU (aI ρ 71)
theorem QB (ρ:Env) (hpre:zI ρ.num):Sat Bp Ei [] ρ Ej:=by
 replace hpre:zI ρ:=hpre
 obtain ⟨⟨o1,o2,o3⟩,hs,hf,hw⟩:=hpre
 unfold Ej
 refine Sat.br (fun c=>?_) (fun c=>?_)
 ·simp only [Da] at c
  have hm:(ae ρ 0 4).dU (aI ρ 71)=({ae ρ 0 4 with word:=av ρ 71}:RS).era 10:=if_pos c
  exact Sat.fin ⟨⟨(by first | exact o1 | exact o2 | exact o3 | exact aj rfl rfl | assumption),(by first | exact o2 | exact ⟨aj rfl rfl,Int.le_refl 0,.inl rfl⟩ | assumption),(by first | exact o1 | exact o2 | exact o3 | exact aj rfl rfl | assumption)⟩,Eq.trans (b:=({ae ρ 0 4 with word:=av ρ 71}:RS).era 10) (RS.ext' rfl rfl rfl rfl rfl rfl bg bB rfl rfl rfl rfl bE rfl bz rfl rfl) (Eq.symm (hm))⟩
 ·simp only [Da] at c
  refine Sat.br (fun c2=>?_) (fun c2=>?_)
  ·simp only [Da] at c2
   have hm:(ae ρ 0 4).dU (aI ρ 71)=if (ae ρ 0 4).bA then ((({ae ρ 0 4 with clock:=av ρ 71}:RS).note (ρ.iv 40) (ρ.iv 74))).advance 11 else (({ae ρ 0 4 with clock:=av ρ 71}:RS).note (ρ.iv 40) (ρ.iv 74)).dn:=(if_neg c).trans (if_pos c2)
   refine eB (c:=jI) rfl ({ae ρ 0 4 with clock:=av ρ 71}:RS) (({ae ρ 0 4 with clock:=av ρ 71}:RS).note (ρ.iv 40) (ρ.iv 74)) (by decide) (by decide) (jE rfl rfl rfl rfl) ⟨⟨o1,o2,o3⟩,hf⟩ (RS.ext' rfl rfl rfl rfl rfl rfl bg bB rfl rfl rfl rfl bE rfl bz rfl rfl) (fun e hq hr=>⟨hq.1,by rw [←hr];exact hq.2⟩) (fun q=>(bJ q 77)∧vF q∧Dl q 71∧ae q 0 77=({ae q 0 4 with clock:=av q 71}:RS).note (q.iv 40) (q.iv 74)∧(ae q 0 4).dU (aI q 71)=if (ae q 0 4).bA then ((({ae q 0 4 with clock:=av q 71}:RS).note (q.iv 40) (q.iv 74))).advance 11 else (({ae q 0 4 with clock:=av q 71}:RS).note (q.iv 40) (q.iv 74)).dn) (fun e h1 h2=>⟨h1,hs,hw,h2,hm⟩) fun q hq=>?_
   obtain ⟨⟨o1,o2,o3⟩,hs,hw,hn,hm⟩:=hq
   rw [←hn] at hm
   have hc:av q 115=av q 71:=congrArg RS.clock hn
   have h3:q.iv 117=q.iv 73:=congrArg Wd.tag hc
   have h4:q.iv 118=q.iv 74:=congrArg Wd.num hc
   obtain ⟨⟨w1,w2⟩,w3,w4⟩:=hw
   simp only [Nat.reduceAdd] at w1 w2 w3 w4
   refine Sat.br (fun c3=>?_) (fun c3=>?_)
   ·simp only [Da] at c3
    rw [if_pos (show (ae q 0 4).bA from c3)] at hm
    refine Sat.ob (by simp only [Da];omega) (Sat.ob (by simp only [Da];omega) (Sat.fin ⟨⟨(by first | exact o1 | exact o2 | exact o3 | exact aj rfl rfl | assumption),(by first | exact o2 | exact ⟨aj rfl rfl,Int.le_refl 0,.inl rfl⟩ | assumption),(by first | exact o1 | exact o2 | exact o3 | exact aj rfl rfl | assumption)⟩,Eq.trans (b:=(ae q 0 77).advance 11) (RS.ext' rfl rfl rfl rfl rfl rfl bg bB rfl rfl rfl rfl bE rfl bz rfl rfl) (Eq.symm (hm))⟩))
   ·simp only [Da] at c3
    rw [if_neg (show ¬(ae q 0 4).bA from fun h:q.iv 0=3∨q.iv 0=5=>by omega)] at hm
    refine eB (c:=iN) rfl (ae q 0 77) (ae q 0 77).dn (by decide) (by decide) (jE rfl rfl rfl rfl) ⟨⟨o1,o2,o3⟩,hs⟩ (RS.ext' rfl rfl rfl rfl rfl rfl bg bB rfl rfl rfl rfl bE rfl bz rfl rfl) (fun e hq hr=>⟨hq.1,by rw [←hr];exact hq.2⟩) (fun u=>(bJ u 144)∧ae u 0 144=(ae u 0 4).dU (aI u 71)) (fun e h1 h2=>⟨h1,h2.trans hm.symm⟩) fun u hu=>?_
    obtain ⟨⟨o1,o2,o3⟩,hm⟩:=hu
    exact Sat.fin ⟨⟨(by first | exact o1 | exact o2 | exact o3 | exact aj rfl rfl | assumption),(by first | exact o2 | exact ⟨aj rfl rfl,Int.le_refl 0,.inl rfl⟩ | assumption),(by first | exact o1 | exact o2 | exact o3 | exact aj rfl rfl | assumption)⟩,Eq.trans (b:=(ae u 0 144)) (RS.ext' rfl rfl rfl rfl rfl rfl bg bB rfl rfl rfl rfl bE rfl bz rfl rfl) (Eq.symm (hm.symm))⟩
  ·simp only [Da] at c2
   refine Sat.br (fun c3=>?_) (fun c3=>?_)
   ·simp only [Da] at c3
    have hm:(ae ρ 0 4).dU (aI ρ 71)=(ae ρ 0 4).dn:=(if_neg c).trans ((if_neg c2).trans (if_pos c3))
    refine eB (c:=iN) rfl (ae ρ 0 4) (ae ρ 0 4).dn (by decide) (by decide) (jE rfl rfl rfl rfl) ⟨⟨o1,o2,o3⟩,hs⟩ (RS.ext' rfl rfl rfl rfl rfl rfl bg bB rfl rfl rfl rfl bE rfl bz rfl rfl) (fun e hq hr=>⟨hq.1,by rw [←hr];exact hq.2⟩) (fun u=>(bJ u 77)∧ae u 0 77=(ae u 0 4).dU (aI u 71)) (fun e h1 h2=>⟨h1,h2.trans hm.symm⟩) fun u hu=>?_
    obtain ⟨⟨o1,o2,o3⟩,hm⟩:=hu
    exact Sat.fin ⟨⟨(by first | exact o1 | exact o2 | exact o3 | exact aj rfl rfl | assumption),(by first | exact o2 | exact ⟨aj rfl rfl,Int.le_refl 0,.inl rfl⟩ | assumption),(by first | exact o1 | exact o2 | exact o3 | exact aj rfl rfl | assumption)⟩,Eq.trans (b:=(ae u 0 77)) (RS.ext' rfl rfl rfl rfl rfl rfl bg bB rfl rfl rfl rfl bE rfl bz rfl rfl) (Eq.symm (hm.symm))⟩
   ·simp only [Da] at c3
    have hm:(ae ρ 0 4).dU (aI ρ 71)=ae ρ 0 4:=(if_neg c).trans ((if_neg c2).trans (if_neg c3))
    exact Sat.fin ⟨⟨(by first | exact o1 | exact o2 | exact o3 | exact aj rfl rfl | assumption),(by first | exact o2 | exact ⟨aj rfl rfl,Int.le_refl 0,.inl rfl⟩ | assumption),(by first | exact o1 | exact o2 | exact o3 | exact aj rfl rfl | assumption)⟩,Eq.trans (b:=(ae ρ 0 4)) (RS.ext' rfl rfl rfl rfl rfl rfl bg bB rfl rfl rfl rfl bE rfl bz rfl rfl) (Eq.symm (hm))⟩
theorem QC:bC Tryd.prog jJ zI Bp :=
 dJ fu (E:=R8) (cs:=Ei) rfl Kl di rfl QA (by kernel_rfl) (fun ρ _ p hp=>by cases hp) QB
end Go.Proofs.YthomdlajobnmnaaDoor
set_option linter.unusedSimpArgs false
set_option linter.unusedVariables false
namespace Go.Proofs.YthomdlajobnmnaaDoor
open Go.Rex
noncomputable def Od:Ex:={sched:=sched,loops:=[],cons:=[fZ,gL],fin:=iZ}
def Bq:Out :=
 .br (.aC (.var 22) (.lit 7))
 (.fin {lo:=77,az:=4,iv:=[(143,yv 70),(138,yv 65),(137,yv 64),(136,yv 63),(135,yv 62),(134,yv 61),(133,yv 60),(132,yv 59),(130,yv 57),(129,yv 56),(126,yv 53),(125,yv 52),(142,yv 69),(123,yv 50),(122,yv 49),(120,yv 47),(118,yv 45),(117,yv 44),(116,yv 43),(115,yv 42),(113,yv 40),(112,yv 39),(111,yv 38),(110,yv 37),(108,.lit 0),(107,.lit 0),(106,.lit 0),(105,.lit 0),(103,.lit 0),(102,.lit 0),(101,.lit 0),(100,.lit 0),(99,yv 7),(98,yv 6),(97,yv 5),(96,.lit 1),(95,.lit 5),(94,yv 21),(93,yv 20),(92,yv 19),(91,yv 18),(89,yv 16),(88,yv 15),(87,yv 14),(86,yv 13),(84,yv 11),(83,yv 10),(82,yv 9),(81,yv 8),(80,yv 7),(79,yv 6),(78,yv 5),(77,yv 4)],bv:=[(140,yw 67),(139,yw 66),(131,yw 58),(128,yw 55),(124,yw 51),(121,yw 48),(119,yw 46),(114,yw 41),(109,.lit false),(104,.lit false),(90,yw 17),(85,yw 12)],ct:=[(143,yu 70 59 7 yN 0),(142,yu 69 70 7 yN 0),(141,yu 68 49 5 yW 0),(127,yl 54 9 5 50 yW 0)],bk:=[(6,yc 3 7),(5,yc 2 7),(4,yc 1 5)]})
 (.br (.aC (.var 22) (.lit 5))
  (.br (.or (.aC (.var 0) (.lit 3)) (.aC (.var 0) (.lit 5)))
   (.fin {lo:=77,az:=4,iv:=[(143,yv 70),(138,yv 65),(137,yv 64),(136,yv 63),(135,yv 62),(134,yv 61),(133,yv 60),(132,yv 59),(130,yv 57),(129,yv 56),(126,yv 53),(125,yv 52),(142,yv 69),(123,yv 50),(122,yv 49),(120,yv 47),(118,yv 45),(117,yv 44),(116,yv 43),(115,yv 42),(113,yv 74),(112,yv 73),(111,yv 72),(110,yv 71),(108,.lit 0),(107,.lit 0),(106,.lit 0),(105,.lit 0),(103,.lit 0),(102,.lit 0),(101,.lit 0),(100,.lit 0),(99,.lit 24),(98,.lit 0),(97,.lit 0),(96,.lit 1),(95,.lit 6),(94,yv 21),(93,yv 20),(92,yv 19),(91,yv 18),(89,yv 16),(88,yv 15),(87,yv 14),(86,yv 13),(84,yv 11),(83,yv 10),(82,yv 9),(81,yv 8),(80,yv 7),(79,yv 6),(78,yv 5),(77,yv 4)],bv:=[(140,yw 67),(139,yw 66),(131,yw 58),(128,yw 55),(124,yw 51),(121,yw 48),(119,yw 46),(114,yw 75),(109,.lit false),(104,.lit false),(90,yw 17),(85,yw 12)],ct:=[(143,yu 70 59 7 yN 0),(142,yu 69 70 7 yN 0),(141,yu 68 49 5 yW 0),(127,yl 54 9 5 50 yW 0)],bk:=[(6,yc 3 7),(5,yc 2 7),(4,yc 1 5)]})
   (.br (.aC (.var 0) (.lit 2))
    (.ob (.or (.aC (.var 71) (.lit 0)) (.aA (.lit 0) (.var 18))) <|
     .ob (.or (.aC (.var 71) (.lit 0)) (.bQ (.var 18) (.lit 9))) <|
     .br (.not (.aC (.var 71) (.lit 0)))
     (.br (.not (.and (.aC (.cell 54 (.var 18) (.lit 0) 0) (.var 71)) (.and (.aC (.cell 54 (.var 18) (.lit 0) 1) (.var 72)) (.and (.aC (.cell 54 (.var 18) (.lit 0) 2) (.lit 0)) (.and (.aC (.cell 54 (.var 18) (.lit 0) 3) (.lit 0)) (.not (.cell 54 (.var 18) (.lit 0) 4)))))))
      (.ob (.aA (.lit 0) (.var 18)) <|
       .ob (.bQ (.var 18) (.lit 9)) <|
       .call 0 {lo:=0,az:=0,iv:=[(1,yv 18),(0,yv 1)]} 77 <|
       .fin {lo:=77,az:=4,iv:=[(143,yv 70),(138,yv 65),(137,yv 64),(136,yv 63),(135,yv 62),(134,yv 61),(133,yv 60),(132,yv 59),(130,yv 57),(129,yv 56),(126,yv 53),(125,yv 52),(142,yv 69),(123,yv 50),(122,yv 49),(120,yv 47),(118,yv 45),(117,yv 44),(116,yv 43),(115,yv 42),(113,yv 74),(112,yv 73),(111,yv 72),(110,yv 71),(108,.lit 0),(107,.lit 0),(106,yv 72),(105,yv 71),(103,.lit 0),(102,.lit 0),(101,.lit 0),(100,.lit 0),(99,.add (.add (.lit 25) (.mul (.var 1) (.lit 9))) (.var 18)),(98,.lit 0),(97,.lit 0),(96,.lit 2),(95,.lit 7),(94,yv 21),(93,yv 20),(92,yv 19),(91,yv 18),(89,yv 16),(88,yv 15),(87,yv 14),(86,yv 13),(84,yv 11),(83,yv 10),(82,yv 9),(81,yv 8),(80,yv 7),(79,yv 6),(78,yv 5),(77,yv 4)],bv:=[(140,yw 67),(139,yw 66),(131,yw 58),(128,yw 55),(124,yw 51),(121,yw 48),(119,yw 46),(114,yw 75),(109,.lit false),(104,.lit false),(90,yw 17),(85,yw 12)],ct:=[(143,yu 70 59 7 yN 0),(142,yu 69 70 7 yN 0),(141,yu 68 49 5 yW 0),(127,.up {r:=54,n1:=.lit 9,s1:=5,lo:=50,ks:=yW} 0 [⟨0,(.var 18),(.lit 0),4,.bool (.lit false)⟩,⟨0,(.var 18),(.lit 0),3,.int .i64 (.lit 0)⟩,⟨0,(.var 18),(.lit 0),2,.int .i64 (.lit 0)⟩,⟨0,(.var 18),(.lit 0),1,.int .i64 (.var 72)⟩,⟨0,(.var 18),(.lit 0),0,.int .i64 (.var 71)⟩] (.lit 0))],bk:=[(6,yc 3 7),(5,yc 2 7),(4,yc 1 5)]})
      (.fin {lo:=77,az:=4,iv:=[(138,yv 74),(137,yv 73),(136,yv 72),(135,yv 71),(134,yv 61),(133,yv 60),(132,yv 59),(130,yv 57),(129,yv 56),(126,.lit 0),(125,.lit 0),(123,.lit 0),(122,.lit 0),(120,.lit 0),(118,.lit 0),(117,.lit 0),(116,.lit 0),(115,.lit 0),(113,.lit 0),(112,.lit 0),(111,.lit 0),(110,.lit 0),(108,.lit 0),(107,.lit 0),(106,.lit 0),(105,.lit 0),(103,.lit 0),(102,.lit 0),(101,.lit 0),(100,.lit 0),(99,.lit 0),(98,.lit 0),(97,.lit 0),(96,.lit 0),(95,.lit 0),(94,.lit 0),(93,.lit 0),(92,.lit 0),(91,.lit 0),(89,.lit 0),(88,.lit 0),(87,.lit 0),(86,.lit 0),(84,.lit 0),(83,.lit 0),(82,.lit 0),(81,.lit 0),(80,.lit 0),(79,.lit 0),(78,.lit 0),(77,.lit 0)],bv:=[(140,.lit true),(139,yw 75),(131,yw 58),(128,yw 55),(124,.lit true),(121,.lit true),(119,.lit false),(114,.lit false),(109,.lit false),(104,.lit false),(90,.lit false),(85,.lit false)],ct:=[(143,yu 70 59 7 yN 0),(127,yl 54 9 5 50 yW 0)],bk:=[(6,yc 3 7)],nb:=[5,4,5,4]}))
     (.fin {lo:=77,az:=4,iv:=[(138,yv 74),(137,yv 73),(136,yv 72),(135,yv 71),(134,yv 61),(133,yv 60),(132,yv 59),(130,yv 57),(129,yv 56),(126,.lit 0),(125,.lit 0),(123,.lit 0),(122,.lit 0),(120,.lit 0),(118,.lit 0),(117,.lit 0),(116,.lit 0),(115,.lit 0),(113,.lit 0),(112,.lit 0),(111,.lit 0),(110,.lit 0),(108,.lit 0),(107,.lit 0),(106,.lit 0),(105,.lit 0),(103,.lit 0),(102,.lit 0),(101,.lit 0),(100,.lit 0),(99,.lit 0),(98,.lit 0),(97,.lit 0),(96,.lit 0),(95,.lit 0),(94,.lit 0),(93,.lit 0),(92,.lit 0),(91,.lit 0),(89,.lit 0),(88,.lit 0),(87,.lit 0),(86,.lit 0),(84,.lit 0),(83,.lit 0),(82,.lit 0),(81,.lit 0),(80,.lit 0),(79,.lit 0),(78,.lit 0),(77,.lit 0)],bv:=[(140,.lit true),(139,yw 75),(131,yw 58),(128,yw 55),(124,.lit true),(121,.lit true),(119,.lit false),(114,.lit false),(109,.lit false),(104,.lit false),(90,.lit false),(85,.lit false)],ct:=[(143,yu 70 59 7 yN 0),(127,yl 54 9 5 50 yW 0)],bk:=[(6,yc 3 7)],nb:=[5,4,5,4]}))
    (.fin {lo:=77,az:=4,iv:=[(138,yv 74),(137,yv 73),(136,yv 72),(135,yv 71),(134,yv 61),(133,yv 60),(132,yv 59),(130,yv 57),(129,yv 56),(126,.lit 0),(125,.lit 0),(123,.lit 0),(122,.lit 0),(120,.lit 0),(118,.lit 0),(117,.lit 0),(116,.lit 0),(115,.lit 0),(113,.lit 0),(112,.lit 0),(111,.lit 0),(110,.lit 0),(108,.lit 0),(107,.lit 0),(106,.lit 0),(105,.lit 0),(103,.lit 0),(102,.lit 0),(101,.lit 0),(100,.lit 0),(99,.lit 0),(98,.lit 0),(97,.lit 0),(96,.lit 0),(95,.lit 0),(94,.lit 0),(93,.lit 0),(92,.lit 0),(91,.lit 0),(89,.lit 0),(88,.lit 0),(87,.lit 0),(86,.lit 0),(84,.lit 0),(83,.lit 0),(82,.lit 0),(81,.lit 0),(80,.lit 0),(79,.lit 0),(78,.lit 0),(77,.lit 0)],bv:=[(140,.lit true),(139,yw 75),(131,yw 58),(128,yw 55),(124,.lit true),(121,.lit true),(119,.lit false),(114,.lit false),(109,.lit false),(104,.lit false),(90,.lit false),(85,.lit false)],ct:=[(143,yu 70 59 7 yN 0),(127,yl 54 9 5 50 yW 0)],bk:=[(6,yc 3 7)],nb:=[5,4,5,4]})))
  (.br (.aC (.var 22) (.lit 6))
   (.br (.aC (.var 0) (.lit 3))
    (.ob (.aA (.lit 0) (.var 18)) <|
     .ob (.bQ (.var 18) (.lit 9)) <|
     .br (.not (.and (.aC (.cell 54 (.var 18) (.lit 0) 0) (.lit 0)) (.and (.aC (.cell 54 (.var 18) (.lit 0) 1) (.lit 0)) (.and (.aC (.cell 54 (.var 18) (.lit 0) 2) (.lit 0)) (.and (.aC (.cell 54 (.var 18) (.lit 0) 3) (.lit 0)) (.not (.cell 54 (.var 18) (.lit 0) 4)))))))
     (.br (.aC (.cell 54 (.var 18) (.lit 0) 3) (.var 74))
      (.fin {lo:=77,az:=4,iv:=[(138,yv 40),(137,yv 39),(136,yv 38),(135,yv 37),(134,yv 61),(133,yv 60),(132,yv 59),(130,yv 57),(129,yv 56),(126,.lit 0),(125,.lit 0),(123,.lit 0),(122,.lit 0),(120,.lit 0),(118,.lit 0),(117,.lit 0),(116,.lit 0),(115,.lit 0),(113,.lit 0),(112,.lit 0),(111,.lit 0),(110,.lit 0),(108,.lit 0),(107,.lit 0),(106,.lit 0),(105,.lit 0),(103,.lit 0),(102,.lit 0),(101,.lit 0),(100,.lit 0),(99,.lit 0),(98,.lit 0),(97,.lit 0),(96,.lit 0),(95,.lit 0),(94,.lit 0),(93,.lit 0),(92,.lit 0),(91,.lit 0),(89,.lit 0),(88,.lit 0),(87,.lit 0),(86,.lit 0),(84,.lit 0),(83,.lit 0),(82,.lit 0),(81,.lit 0),(80,.lit 0),(79,.lit 0),(78,.lit 0),(77,.lit 0)],bv:=[(140,.lit true),(139,yw 41),(131,yw 58),(128,yw 55),(124,.lit true),(121,.lit true),(119,.lit false),(114,.lit false),(109,.lit false),(104,.lit false),(90,.lit false),(85,.lit false)],ct:=[(143,yu 70 59 7 yN 0),(127,yl 54 9 5 50 yW 0)],bk:=[(6,yc 3 7)],nb:=[5,4,5,4]})
      (.call 0 {lo:=0,az:=0,iv:=[(1,yv 18),(0,yv 1)]} 77 <|
       .fin {lo:=77,az:=4,iv:=[(143,yv 70),(138,yv 65),(137,yv 64),(136,yv 63),(135,yv 62),(134,yv 61),(133,yv 60),(132,yv 59),(130,yv 57),(129,yv 56),(126,yv 53),(125,yv 52),(142,yv 69),(123,yv 50),(122,yv 49),(120,yv 47),(118,yv 45),(117,yv 44),(116,yv 43),(115,yv 42),(113,yv 40),(112,yv 39),(111,yv 38),(110,yv 37),(108,yv 74),(107,.lit 0),(106,.lit 0),(105,.lit 0),(103,.lit 0),(102,.lit 0),(101,.lit 0),(100,.lit 0),(99,.add (.add (.lit 25) (.mul (.var 1) (.lit 9))) (.var 18)),(98,.lit 0),(97,.lit 0),(96,.lit 2),(95,.lit 7),(94,yv 21),(93,yv 20),(92,yv 19),(91,yv 18),(89,yv 16),(88,yv 15),(87,yv 14),(86,yv 13),(84,yv 11),(83,yv 10),(82,yv 9),(81,yv 8),(80,yv 7),(79,yv 6),(78,yv 5),(77,yv 4)],bv:=[(140,yw 67),(139,yw 66),(131,yw 58),(128,yw 55),(124,yw 51),(121,yw 48),(119,yw 46),(114,yw 41),(109,.lit false),(104,.lit false),(90,yw 17),(85,yw 12)],ct:=[(143,yu 70 59 7 yN 0),(142,yu 69 70 7 yN 0),(141,yu 68 49 5 yW 0),(127,.up {r:=54,n1:=.lit 9,s1:=5,lo:=50,ks:=yW} 0 [⟨0,(.var 18),(.lit 0),4,.bool (.lit false)⟩,⟨0,(.var 18),(.lit 0),3,.int .i64 (.var 74)⟩,⟨0,(.var 18),(.lit 0),2,.int .i64 (.lit 0)⟩,⟨0,(.var 18),(.lit 0),1,.int .i64 (.lit 0)⟩,⟨0,(.var 18),(.lit 0),0,.int .i64 (.lit 0)⟩] (.lit 0))],bk:=[(6,yc 3 7),(5,yc 2 7),(4,yc 1 5)]}))
     (.call 0 {lo:=0,az:=0,iv:=[(1,yv 18),(0,yv 1)]} 77 <|
      .fin {lo:=77,az:=4,iv:=[(143,yv 70),(138,yv 65),(137,yv 64),(136,yv 63),(135,yv 62),(134,yv 61),(133,yv 60),(132,yv 59),(130,yv 57),(129,yv 56),(126,yv 53),(125,yv 52),(142,yv 69),(123,yv 50),(122,yv 49),(120,yv 47),(118,yv 45),(117,yv 44),(116,yv 43),(115,yv 42),(113,yv 40),(112,yv 39),(111,yv 38),(110,yv 37),(108,yv 74),(107,.lit 0),(106,.lit 0),(105,.lit 0),(103,.lit 0),(102,.lit 0),(101,.lit 0),(100,.lit 0),(99,.add (.add (.lit 25) (.mul (.var 1) (.lit 9))) (.var 18)),(98,.lit 0),(97,.lit 0),(96,.lit 2),(95,.lit 7),(94,yv 21),(93,yv 20),(92,yv 19),(91,yv 18),(89,yv 16),(88,yv 15),(87,yv 14),(86,yv 13),(84,yv 11),(83,yv 10),(82,yv 9),(81,yv 8),(80,yv 7),(79,yv 6),(78,yv 5),(77,yv 4)],bv:=[(140,yw 67),(139,yw 66),(131,yw 58),(128,yw 55),(124,yw 51),(121,yw 48),(119,yw 46),(114,yw 41),(109,.lit false),(104,.lit false),(90,yw 17),(85,yw 12)],ct:=[(143,yu 70 59 7 yN 0),(142,yu 69 70 7 yN 0),(141,yu 68 49 5 yW 0),(127,.up {r:=54,n1:=.lit 9,s1:=5,lo:=50,ks:=yW} 0 [⟨0,(.var 18),(.lit 0),4,.bool (.lit false)⟩,⟨0,(.var 18),(.lit 0),3,.int .i64 (.var 74)⟩,⟨0,(.var 18),(.lit 0),2,.int .i64 (.lit 0)⟩,⟨0,(.var 18),(.lit 0),1,.int .i64 (.lit 0)⟩,⟨0,(.var 18),(.lit 0),0,.int .i64 (.lit 0)⟩] (.lit 0))],bk:=[(6,yc 3 7),(5,yc 2 7),(4,yc 1 5)]}))
    (.br (.and (.var 55) (.aC (.var 57) (.var 74)))
     (.fin {lo:=77,az:=4,iv:=[(138,yv 40),(137,yv 39),(136,yv 38),(135,yv 37),(134,yv 61),(133,yv 60),(132,yv 59),(130,yv 57),(129,yv 56),(126,.lit 0),(125,.lit 0),(123,.lit 0),(122,.lit 0),(120,.lit 0),(118,.lit 0),(117,.lit 0),(116,.lit 0),(115,.lit 0),(113,.lit 0),(112,.lit 0),(111,.lit 0),(110,.lit 0),(108,.lit 0),(107,.lit 0),(106,.lit 0),(105,.lit 0),(103,.lit 0),(102,.lit 0),(101,.lit 0),(100,.lit 0),(99,.lit 0),(98,.lit 0),(97,.lit 0),(96,.lit 0),(95,.lit 0),(94,.lit 0),(93,.lit 0),(92,.lit 0),(91,.lit 0),(89,.lit 0),(88,.lit 0),(87,.lit 0),(86,.lit 0),(84,.lit 0),(83,.lit 0),(82,.lit 0),(81,.lit 0),(80,.lit 0),(79,.lit 0),(78,.lit 0),(77,.lit 0)],bv:=[(140,.lit true),(139,yw 41),(131,yw 58),(128,yw 55),(124,.lit true),(121,.lit true),(119,.lit false),(114,.lit false),(109,.lit false),(104,.lit false),(90,.lit false),(85,.lit false)],ct:=[(143,yu 70 59 7 yN 0),(127,yl 54 9 5 50 yW 0)],bk:=[(6,yc 3 7)],nb:=[5,4,5,4]})
     (.br (.var 55)
      (.call 1 {lo:=0,az:=0,iv:=[(0,yv 1)]} 77 <|
       .fin {lo:=77,az:=4,iv:=[(143,yv 70),(138,yv 65),(137,yv 64),(136,yv 63),(135,yv 62),(134,yv 61),(133,yv 60),(132,yv 59),(130,yv 74),(129,yv 56),(126,yv 53),(125,yv 52),(142,yv 69),(123,yv 50),(122,yv 49),(120,yv 47),(118,yv 45),(117,yv 44),(116,yv 43),(115,yv 42),(113,yv 40),(112,yv 39),(111,yv 38),(110,yv 37),(108,yv 56),(107,yv 74),(106,.lit 0),(105,.lit 0),(103,.lit 0),(102,.lit 0),(101,.lit 0),(100,.lit 0),(99,.add (.lit 79) (.var 1)),(98,.lit 0),(97,.lit 0),(96,.lit 2),(95,.lit 7),(94,yv 21),(93,yv 20),(92,yv 19),(91,yv 18),(89,yv 16),(88,yv 15),(87,yv 14),(86,yv 13),(84,yv 11),(83,yv 10),(82,yv 9),(81,yv 8),(80,yv 7),(79,yv 6),(78,yv 5),(77,yv 4)],bv:=[(140,yw 67),(139,yw 66),(131,yw 58),(128,.lit true),(124,yw 51),(121,yw 48),(119,yw 46),(114,yw 41),(109,.lit true),(104,.lit false),(90,yw 17),(85,yw 12)],ct:=[(143,yu 70 59 7 yN 0),(142,yu 69 70 7 yN 0),(141,yu 68 49 5 yW 0),(127,yl 54 9 5 50 yW 0)],bk:=[(6,yc 3 7),(5,yc 2 7),(4,yc 1 5)]})
      (.call 1 {lo:=0,az:=0,iv:=[(0,yv 1)]} 77 <|
       .fin {lo:=77,az:=4,iv:=[(143,yv 70),(138,yv 65),(137,yv 64),(136,yv 63),(135,yv 62),(134,yv 61),(133,yv 60),(132,yv 59),(130,yv 74),(129,yv 74),(126,yv 53),(125,yv 52),(142,yv 69),(123,yv 50),(122,yv 49),(120,yv 47),(118,yv 45),(117,yv 44),(116,yv 43),(115,yv 42),(113,yv 40),(112,yv 39),(111,yv 38),(110,yv 37),(108,yv 74),(107,yv 74),(106,.lit 0),(105,.lit 0),(103,.lit 0),(102,.lit 0),(101,.lit 0),(100,.lit 0),(99,.add (.lit 79) (.var 1)),(98,.lit 0),(97,.lit 0),(96,.lit 2),(95,.lit 7),(94,yv 21),(93,yv 20),(92,yv 19),(91,yv 18),(89,yv 16),(88,yv 15),(87,yv 14),(86,yv 13),(84,yv 11),(83,yv 10),(82,yv 9),(81,yv 8),(80,yv 7),(79,yv 6),(78,yv 5),(77,yv 4)],bv:=[(140,yw 67),(139,yw 66),(131,yw 58),(128,.lit true),(124,yw 51),(121,yw 48),(119,yw 46),(114,yw 41),(109,.lit true),(104,.lit false),(90,yw 17),(85,yw 12)],ct:=[(143,yu 70 59 7 yN 0),(142,yu 69 70 7 yN 0),(141,yu 68 49 5 yW 0),(127,yl 54 9 5 50 yW 0)],bk:=[(6,yc 3 7),(5,yc 2 7),(4,yc 1 5)]}))))
   (.fin {lo:=77,az:=4,iv:=[(143,yv 70),(138,yv 65),(137,yv 64),(136,yv 63),(135,yv 62),(134,yv 61),(133,yv 60),(132,yv 59),(130,yv 57),(129,yv 56),(126,yv 53),(125,yv 52),(142,yv 69),(123,yv 50),(122,yv 49),(120,yv 47),(118,yv 45),(117,yv 44),(116,yv 43),(115,yv 42),(113,yv 40),(112,yv 39),(111,yv 38),(110,yv 37),(108,yv 35),(107,yv 34),(106,yv 33),(105,yv 32),(103,yv 30),(102,yv 29),(101,yv 28),(100,yv 27),(99,yv 26),(98,yv 25),(97,yv 24),(96,yv 23),(95,yv 22),(94,yv 21),(93,yv 20),(92,yv 19),(91,yv 18),(89,yv 16),(88,yv 15),(87,yv 14),(86,yv 13),(84,yv 11),(83,yv 10),(82,yv 9),(81,yv 8),(80,yv 7),(79,yv 6),(78,yv 5),(77,yv 4)],bv:=[(140,yw 67),(139,yw 66),(131,yw 58),(128,yw 55),(124,yw 51),(121,yw 48),(119,yw 46),(114,yw 41),(109,yw 36),(104,yw 31),(90,yw 17),(85,yw 12)],ct:=[(143,yu 70 59 7 yN 0),(142,yu 69 70 7 yN 0),(141,yu 68 49 5 yW 0),(127,yl 54 9 5 50 yW 0)],bk:=[(6,yc 3 7),(5,yc 2 7),(4,yc 1 5)]})))
theorem Oe:exec tab Od 8000 [] (fV iZ.f iZ.nv [] iZ.gl iZ.hp iZ.args)=Bq:=by kernel_rfl
def wY (ρ:Env):Prop:=bJ ρ 4∧vF ρ∧0≤ρ.iv 18∧ρ.iv 18<9
def yU (ρ:Env):Prop:=bJ ρ 77∧ae ρ 0 77=(ae ρ 0 4).bD (aI ρ 71)
set_option maxHeartbeats 4000000 in
theorem Og (ρ:Env) (hpre:wY ρ.num):Sat yU yR [] ρ Bq:=by
 replace hpre:wY ρ:=hpre
 obtain ⟨⟨o1,o2,o3⟩,⟨s1,s2,s3,s4⟩,n1,n2⟩:=hpre
 unfold Bq
 refine Sat.br (fun c=>?_) (fun c=>?_)
 ·simp only [Da] at c
  have hm:(ae ρ 0 4).bD (aI ρ 71)=(ae ρ 0 4).load 5 (ρ.iv 5) (ρ.iv 6) (ρ.iv 7):=if_pos c
  exact Sat.fin ⟨⟨(by first | exact o1 | exact o2 | exact o3 | exact aj rfl rfl | assumption),(by first | exact o2 | exact ⟨aj rfl rfl,Int.le_refl 0,.inl rfl⟩ | assumption),(by first | exact o1 | exact o2 | exact o3 | exact aj rfl rfl | assumption)⟩,Eq.trans (b:=(ae ρ 0 4).load 5 (ρ.iv 5) (ρ.iv 6) (ρ.iv 7)) (RS.ext' rfl rfl rfl rfl rfl rfl bg bB rfl rfl rfl rfl bE rfl bz rfl rfl) (Eq.symm (hm))⟩
 simp only [Da] at c
 refine Sat.br (fun c2=>?_) (fun c2=>?_)
 ·simp only [Da] at c2
  refine Sat.br (fun c3=>?_) (fun c3=>?_)
  ·simp only [Da] at c3
   have hm:(ae ρ 0 4).bD (aI ρ 71)=({ae ρ 0 4 with word:=av ρ 71}:RS).era 6:=(if_neg c).trans ((if_pos c2).trans (if_pos c3))
   exact Sat.fin ⟨⟨(by first | exact o1 | exact o2 | exact o3 | exact aj rfl rfl | assumption),(by first | exact o2 | exact ⟨aj rfl rfl,Int.le_refl 0,.inl rfl⟩ | assumption),(by first | exact o1 | exact o2 | exact o3 | exact aj rfl rfl | assumption)⟩,Eq.trans (b:=({ae ρ 0 4 with word:=av ρ 71}:RS).era 6) (RS.ext' rfl rfl rfl rfl rfl rfl bg bB rfl rfl rfl rfl bE rfl bz rfl rfl) (Eq.symm (hm))⟩
  simp only [Da] at c3
  have nd:¬(ae ρ 0 4).bA:=fun h:ρ.iv 0=3∨ρ.iv 0=5=>by omega
  refine Sat.br (fun c4=>?_) (fun c4=>?_)
  ·simp only [Da] at c4
   refine Sat.ob (by simp only [Da];omega) (Sat.ob (by simp only [Da];omega) (Sat.br (fun c5=>?_) (fun c5=>?_)))
   ·simp only [Da] at c5
    refine Sat.br (fun c6=>?_) (fun c6=>?_)
    ·simp only [Da] at c6
     have hne:(ae ρ 0 4).holds (ρ.iv 18).toNat≠Wd.eF (av ρ 71):=fun h=>by
      have h':=oH.1 h
      simp only [ae,aD,Wd.eF,av] at h'
      simp_all
     have hm:(ae ρ 0 4).bD (aI ρ 71)=({ae ρ 0 4 with word:=av ρ 71}:RS).post 7 (ρ.iv 18) (Wd.eF (av ρ 71)):=(if_neg c).trans ((if_pos c2).trans ((if_neg nd).trans (if_pos ⟨c4,c5,hne⟩)))
     refine Sat.ob (decide_eq_true n1) (Sat.ob (by simp only [Da];omega) (Sat.gX (c:=fZ) rfl ⟨⟨s1,s2⟩,n1,n2⟩ (fun r=>((bJ r 4)∧0≤r.iv 18)∧(ae r 0 4).bD (aI r 71)=({ae r 0 4 with word:=av r 71}:RS).post 7 (r.iv 18) (Wd.eF (av r 71))) (fun e _=>⟨⟨⟨o1,o2,o3⟩,n1⟩,hm⟩) fun r hr=>?_))
     obtain ⟨⟨⟨o1,o2,o3⟩,i1⟩,hm⟩:=hr
     refine Sat.fin ⟨⟨(by first | exact o1 | exact o2 | exact o3 | exact aj rfl rfl | assumption),(by first | exact o2 | exact ⟨aj rfl rfl,Int.le_refl 0,.inl rfl⟩ | assumption),(by first | exact o1 | exact o2 | exact o3 | exact aj rfl rfl | assumption)⟩,Eq.trans (b:=({ae r 0 4 with word:=av r 71}:RS).post 7 (r.iv 18) (Wd.eF (av r 71))) (RS.ext' rfl rfl rfl rfl rfl rfl bg bB rfl rfl rfl rfl ?_ rfl bz rfl rfl) (Eq.symm (hm))⟩
     intro i
     show _=if i=(r.iv 18).toNat then Wd.eF (av r 71) else aD (r.ic 54 i 0) (r.bc 54 i 0)
     by_cases h:i=(r.iv 18).toNat
     ·subst h
      simp [ae,aD,Wd.eF,av,-Int.pred_toNat,Sub.af,assoc,CV.I,CV.B,ah,ai,aa.I,aa.B,SC.I,SC.B,IE.den,BE.den]
     ·simp [ae,aD,-Int.pred_toNat,Sub.af,assoc,CV.I,CV.B,ah,ai,aa.I,aa.B,SC.I,SC.B,IE.den,BE.den,h,Ne.symm h]
    ·simp only [Da] at c6
     have he:(ae ρ 0 4).holds (ρ.iv 18).toNat=Wd.eF (av ρ 71):=by
      apply oH.2
      simp only [ae,aD,Wd.eF,av]
      simp_all
     have hm:(ae ρ 0 4).bD (aI ρ 71)=(ae ρ 0 4).finish ⟨av ρ 71,true⟩:=(if_neg c).trans ((if_pos c2).trans ((if_neg nd).trans (if_neg (fun h=>h.2.2 he))))
     exact Sat.fin ⟨⟨(by first | exact o1 | exact o2 | exact o3 | exact aj rfl rfl | assumption),(by first | exact o2 | exact ⟨aj rfl rfl,Int.le_refl 0,.inl rfl⟩ | assumption),(by first | exact o1 | exact o2 | exact o3 | exact aj rfl rfl | assumption)⟩,Eq.trans (b:=(ae ρ 0 4).finish ⟨av ρ 71,true⟩) (RS.ext' rfl rfl rfl rfl rfl rfl bg bB rfl rfl rfl rfl bE rfl bz rfl rfl) (Eq.symm (hm))⟩
   ·simp only [Da] at c5
    have hm:(ae ρ 0 4).bD (aI ρ 71)=(ae ρ 0 4).finish ⟨av ρ 71,true⟩:=(if_neg c).trans ((if_pos c2).trans ((if_neg nd).trans (if_neg (fun h=>h.2.1 c5))))
    exact Sat.fin ⟨⟨(by first | exact o1 | exact o2 | exact o3 | exact aj rfl rfl | assumption),(by first | exact o2 | exact ⟨aj rfl rfl,Int.le_refl 0,.inl rfl⟩ | assumption),(by first | exact o1 | exact o2 | exact o3 | exact aj rfl rfl | assumption)⟩,Eq.trans (b:=(ae ρ 0 4).finish ⟨av ρ 71,true⟩) (RS.ext' rfl rfl rfl rfl rfl rfl bg bB rfl rfl rfl rfl bE rfl bz rfl rfl) (Eq.symm (hm))⟩
  ·simp only [Da] at c4
   have hm:(ae ρ 0 4).bD (aI ρ 71)=(ae ρ 0 4).finish ⟨av ρ 71,true⟩:=(if_neg c).trans ((if_pos c2).trans ((if_neg nd).trans (if_neg (fun h=>c4 h.1))))
   exact Sat.fin ⟨⟨(by first | exact o1 | exact o2 | exact o3 | exact aj rfl rfl | assumption),(by first | exact o2 | exact ⟨aj rfl rfl,Int.le_refl 0,.inl rfl⟩ | assumption),(by first | exact o1 | exact o2 | exact o3 | exact aj rfl rfl | assumption)⟩,Eq.trans (b:=(ae ρ 0 4).finish ⟨av ρ 71,true⟩) (RS.ext' rfl rfl rfl rfl rfl rfl bg bB rfl rfl rfl rfl bE rfl bz rfl rfl) (Eq.symm (hm))⟩
 simp only [Da] at c2
 refine Sat.br (fun c3=>?_) (fun c3=>?_)
 ·simp only [Da] at c3
  have h0:(ae ρ 0 4).bD (aI ρ 71)=if (ae ρ 0 4).cZ (ρ.iv 18) (ρ.iv 74) then (ae ρ 0 4).finish ⟨av ρ 37,true⟩ else if (ae ρ 0 4).ak=3 then (ae ρ 0 4).post 7 (ρ.iv 18) (Wd.eD (ρ.iv 74)) else (ae ρ 0 4).dY 7 ⟨true,if (ae ρ 0 4).span.is=true then (ae ρ 0 4).span.low else ρ.iv 74,ρ.iv 74⟩:=(if_neg c).trans ((if_neg c2).trans (if_pos c3))
  refine Sat.br (fun c4=>?_) (fun c4=>?_)
  ·simp only [Da] at c4
   refine Sat.ob (decide_eq_true n1) (Sat.ob (by simp only [Da];omega) (Sat.br (fun c5=>?_) (fun c5=>?_)))
   ·simp only [Da] at c5
    have hne:(ae ρ 0 4).holds (ρ.iv 18).toNat≠Wd.zero:=fun h=>by
     have h':=oH.1 h
     simp only [ae,aD,Wd.zero] at h'
     simp_all
    refine Sat.br (fun c6=>?_) (fun c6=>?_)
    ·simp only [Da] at c6
     have hcv:(ae ρ 0 4).cZ (ρ.iv 18) (ρ.iv 74):=by unfold RS.cZ;rw [if_pos (show (ae ρ 0 4).ak=3 from c4)];exact ⟨hne,c6⟩
     have hm:(ae ρ 0 4).bD (aI ρ 71)=(ae ρ 0 4).finish ⟨av ρ 37,true⟩:=h0.trans (if_pos hcv)
     exact Sat.fin ⟨⟨(by first | exact o1 | exact o2 | exact o3 | exact aj rfl rfl | assumption),(by first | exact o2 | exact ⟨aj rfl rfl,Int.le_refl 0,.inl rfl⟩ | assumption),(by first | exact o1 | exact o2 | exact o3 | exact aj rfl rfl | assumption)⟩,Eq.trans (b:=(ae ρ 0 4).finish ⟨av ρ 37,true⟩) (RS.ext' rfl rfl rfl rfl rfl rfl bg bB rfl rfl rfl rfl bE rfl bz rfl rfl) (Eq.symm (hm))⟩
    ·simp only [Da] at c6
     have hcv:¬(ae ρ 0 4).cZ (ρ.iv 18) (ρ.iv 74):=by unfold RS.cZ;rw [if_pos (show (ae ρ 0 4).ak=3 from c4)];exact fun h=>c6 h.2
     have hm:(ae ρ 0 4).bD (aI ρ 71)=(ae ρ 0 4).post 7 (ρ.iv 18) (Wd.eD (ρ.iv 74)):=h0.trans ((if_neg hcv).trans (if_pos c4))
     refine Sat.gX (c:=fZ) rfl ⟨⟨s1,s2⟩,n1,n2⟩ (fun r=>((bJ r 4)∧0≤r.iv 18)∧(ae r 0 4).bD (aI r 71)=(ae r 0 4).post 7 (r.iv 18) (Wd.eD (r.iv 74))) (fun e _=>⟨⟨⟨o1,o2,o3⟩,n1⟩,hm⟩) fun r hr=>?_
     obtain ⟨⟨⟨o1,o2,o3⟩,i1⟩,hm⟩:=hr
     refine Sat.fin ⟨⟨(by first | exact o1 | exact o2 | exact o3 | exact aj rfl rfl | assumption),(by first | exact o2 | exact ⟨aj rfl rfl,Int.le_refl 0,.inl rfl⟩ | assumption),(by first | exact o1 | exact o2 | exact o3 | exact aj rfl rfl | assumption)⟩,Eq.trans (b:=(ae r 0 4).post 7 (r.iv 18) (Wd.eD (r.iv 74))) (RS.ext' rfl rfl rfl rfl rfl rfl bg bB rfl rfl rfl rfl ?_ rfl bz rfl rfl) (Eq.symm (hm))⟩
     intro i
     show _=if i=(r.iv 18).toNat then Wd.eD (r.iv 74) else aD (r.ic 54 i 0) (r.bc 54 i 0)
     by_cases h:i=(r.iv 18).toNat
     ·subst h
      simp [ae,aD,Wd.eD,av,-Int.pred_toNat,Sub.af,assoc,CV.I,CV.B,ah,ai,aa.I,aa.B,SC.I,SC.B,IE.den,BE.den]
     ·simp [ae,aD,-Int.pred_toNat,Sub.af,assoc,CV.I,CV.B,ah,ai,aa.I,aa.B,SC.I,SC.B,IE.den,BE.den,h,Ne.symm h]
   ·simp only [Da] at c5
    have he:(ae ρ 0 4).holds (ρ.iv 18).toNat=Wd.zero:=by
     apply oH.2
     simp only [ae,aD,Wd.zero]
     simp_all
    have hcv:¬(ae ρ 0 4).cZ (ρ.iv 18) (ρ.iv 74):=by unfold RS.cZ;rw [if_pos (show (ae ρ 0 4).ak=3 from c4)];exact fun h=>h.1 he
    have hm:(ae ρ 0 4).bD (aI ρ 71)=(ae ρ 0 4).post 7 (ρ.iv 18) (Wd.eD (ρ.iv 74)):=h0.trans ((if_neg hcv).trans (if_pos c4))
    refine Sat.gX (c:=fZ) rfl ⟨⟨s1,s2⟩,n1,n2⟩ (fun r=>((bJ r 4)∧0≤r.iv 18)∧(ae r 0 4).bD (aI r 71)=(ae r 0 4).post 7 (r.iv 18) (Wd.eD (r.iv 74))) (fun e _=>⟨⟨⟨o1,o2,o3⟩,n1⟩,hm⟩) fun r hr=>?_
    obtain ⟨⟨⟨o1,o2,o3⟩,i1⟩,hm⟩:=hr
    refine Sat.fin ⟨⟨(by first | exact o1 | exact o2 | exact o3 | exact aj rfl rfl | assumption),(by first | exact o2 | exact ⟨aj rfl rfl,Int.le_refl 0,.inl rfl⟩ | assumption),(by first | exact o1 | exact o2 | exact o3 | exact aj rfl rfl | assumption)⟩,Eq.trans (b:=(ae r 0 4).post 7 (r.iv 18) (Wd.eD (r.iv 74))) (RS.ext' rfl rfl rfl rfl rfl rfl bg bB rfl rfl rfl rfl ?_ rfl bz rfl rfl) (Eq.symm (hm))⟩
    intro i
    show _=if i=(r.iv 18).toNat then Wd.eD (r.iv 74) else aD (r.ic 54 i 0) (r.bc 54 i 0)
    by_cases h:i=(r.iv 18).toNat
    ·subst h
     simp [ae,aD,Wd.eD,av,-Int.pred_toNat,Sub.af,assoc,CV.I,CV.B,ah,ai,aa.I,aa.B,SC.I,SC.B,IE.den,BE.den]
    ·simp [ae,aD,-Int.pred_toNat,Sub.af,assoc,CV.I,CV.B,ah,ai,aa.I,aa.B,SC.I,SC.B,IE.den,BE.den,h,Ne.symm h]
  ·simp only [Da] at c4
   refine Sat.br (fun c5=>?_) (fun c5=>?_)
   ·simp only [Da] at c5
    have hcv:(ae ρ 0 4).cZ (ρ.iv 18) (ρ.iv 74):=by unfold RS.cZ;rw [if_neg (show ¬(ae ρ 0 4).ak=3 from c4)];exact c5
    have hm:(ae ρ 0 4).bD (aI ρ 71)=(ae ρ 0 4).finish ⟨av ρ 37,true⟩:=h0.trans (if_pos hcv)
    exact Sat.fin ⟨⟨(by first | exact o1 | exact o2 | exact o3 | exact aj rfl rfl | assumption),(by first | exact o2 | exact ⟨aj rfl rfl,Int.le_refl 0,.inl rfl⟩ | assumption),(by first | exact o1 | exact o2 | exact o3 | exact aj rfl rfl | assumption)⟩,Eq.trans (b:=(ae ρ 0 4).finish ⟨av ρ 37,true⟩) (RS.ext' rfl rfl rfl rfl rfl rfl bg bB rfl rfl rfl rfl bE rfl bz rfl rfl) (Eq.symm (hm))⟩
   ·simp only [Da] at c5
    have hcv:¬(ae ρ 0 4).cZ (ρ.iv 18) (ρ.iv 74):=by
     unfold RS.cZ
     rw [if_neg (show ¬(ae ρ 0 4).ak=3 from c4)]
     rintro ⟨h1,h2⟩
     rcases c5 with h | h
     ·rw [show ρ.bv 55=true from h1] at h;cases h
     ·exact h h2
    refine Sat.br (fun c6=>?_) (fun c6=>?_)
    ·simp only [Da] at c6
     have hm:(ae ρ 0 4).bD (aI ρ 71)=(ae ρ 0 4).dY 7 ⟨true,ρ.iv 56,ρ.iv 74⟩:=by
      rw [h0,if_neg hcv,if_neg (show ¬(ae ρ 0 4).ak=3 from c4),if_pos (show (ae ρ 0 4).span.is=true from c6)]
      rfl
     refine Sat.gX (c:=gL) rfl ⟨s1,s2⟩ (fun r=>(bJ r 4)∧(ae r 0 4).bD (aI r 71)=(ae r 0 4).dY 7 ⟨true,r.iv 56,r.iv 74⟩) (fun e _=>⟨⟨o1,o2,o3⟩,hm⟩) fun r hr=>?_
     obtain ⟨⟨o1,o2,o3⟩,hm⟩:=hr
     exact Sat.fin ⟨⟨(by first | exact o1 | exact o2 | exact o3 | exact aj rfl rfl | assumption),(by first | exact o2 | exact ⟨aj rfl rfl,Int.le_refl 0,.inl rfl⟩ | assumption),(by first | exact o1 | exact o2 | exact o3 | exact aj rfl rfl | assumption)⟩,Eq.trans (b:=(ae r 0 4).dY 7 ⟨true,r.iv 56,r.iv 74⟩) (RS.ext' rfl rfl rfl rfl rfl rfl bg bB rfl rfl rfl rfl bE rfl bz rfl rfl) (Eq.symm (hm))⟩
    ·simp only [Da] at c6
     have hm:(ae ρ 0 4).bD (aI ρ 71)=(ae ρ 0 4).dY 7 ⟨true,ρ.iv 74,ρ.iv 74⟩:=by
      rw [h0,if_neg hcv,if_neg (show ¬(ae ρ 0 4).ak=3 from c4),if_neg (show ¬(ae ρ 0 4).span.is=true from fun h=>by rw [show ρ.bv 55=true from h] at c6;cases c6)]
     refine Sat.gX (c:=gL) rfl ⟨s1,s2⟩ (fun r=>(bJ r 4)∧(ae r 0 4).bD (aI r 71)=(ae r 0 4).dY 7 ⟨true,r.iv 74,r.iv 74⟩) (fun e _=>⟨⟨o1,o2,o3⟩,hm⟩) fun r hr=>?_
     obtain ⟨⟨o1,o2,o3⟩,hm⟩:=hr
     exact Sat.fin ⟨⟨(by first | exact o1 | exact o2 | exact o3 | exact aj rfl rfl | assumption),(by first | exact o2 | exact ⟨aj rfl rfl,Int.le_refl 0,.inl rfl⟩ | assumption),(by first | exact o1 | exact o2 | exact o3 | exact aj rfl rfl | assumption)⟩,Eq.trans (b:=(ae r 0 4).dY 7 ⟨true,r.iv 74,r.iv 74⟩) (RS.ext' rfl rfl rfl rfl rfl rfl bg bB rfl rfl rfl rfl bE rfl bz rfl rfl) (Eq.symm (hm))⟩
 ·simp only [Da] at c3
  have hm:(ae ρ 0 4).bD (aI ρ 71)=ae ρ 0 4:=(if_neg c).trans ((if_neg c2).trans (if_neg c3))
  exact Sat.fin ⟨⟨(by first | exact o1 | exact o2 | exact o3 | exact aj rfl rfl | assumption),(by first | exact o2 | exact ⟨aj rfl rfl,Int.le_refl 0,.inl rfl⟩ | assumption),(by first | exact o1 | exact o2 | exact o3 | exact aj rfl rfl | assumption)⟩,Eq.trans (b:=(ae ρ 0 4)) (RS.ext' rfl rfl rfl rfl rfl rfl bg bB rfl rfl rfl rfl bE rfl bz rfl rfl) (Eq.symm (hm))⟩
theorem Oh:bC Tryd.prog iZ wY yU :=
 dJ fu (E:=Od) (cs:=yR) rfl Ed di rfl Oe (by kernel_rfl) (fun ρ _ p hp=>by cases hp) Og
end Go.Proofs.YthomdlajobnmnaaDoor
