/- part 15 of the proof -/
import Derived.Test.YthomdlajobnmnaaGreatDoorV11
import Derived.Test.YthomdlajobnmnaaGreatDoorV13
import Derived.Test.YthomdlajobnmnaaGreatDoorV14
set_option linter.unusedSimpArgs false
set_option linter.unusedVariables false
namespace Go.Proofs.YthomdlajobnmnaaGreatDoor
open Go.Rex
def Nl:mf:=[(il,ni,sW),(fM,uT,kT),(iX,wN,wO),(iW,sZ,wP)]
theorem VA:∀k pre post,(k,pre,post)∈Nl→jy k=true∧aY Tryz.prog k pre post:=by
 intro k pre post h
 simp only [Nl,List.mem_cons,List.not_mem_nil,or_false,Prod.mk.injEq] at h
 rcases h with ⟨rfl,rfl,rfl⟩ | ⟨rfl,rfl,rfl⟩ | ⟨rfl,rfl,rfl⟩ | ⟨rfl,rfl,rfl⟩
 ·exact ⟨by kernel_rfl,Gl⟩
 ·exact ⟨by kernel_rfl,Jr⟩
 ·exact ⟨by kernel_rfl,Jy⟩
 ·exact ⟨by kernel_rfl,Nk⟩
noncomputable def Uu:Ex:={sched:=sched,loops:=[],cons:=[il,fM,iX,iW],fin:=kM}
def EZ:Out :=
 .br (.aB (.var 4) (.lit 1))
 (.br (.or (.aB (.var 0) (.lit 4)) (.aB (.var 0) (.lit 5)))
  (.fin {lo:=71,az:=4,iv:=yo [(137,yv 70)]<|yr 132 65 7<|yo [(124,yv 57),(123,yv 56),(120,yv 53),(119,yv 52),(136,yv 69),(117,yv 50),(116,yv 49),(114,yv 47)]<|yr 112 45 4<|yr 107 40 4<|yo [(102,.lit 0),(101,.lit 0),(100,.lit 0),(99,.lit 0),(97,.lit 0),(96,.lit 0),(95,.lit 0),(94,.lit 0),(93,.lit 24),(92,.lit 0),(91,.lit 0),(90,.lit 1),(89,.lit 3)]<|yr 88 21 4<|yr 83 16 4<|yr 78 11 8 [],bv:=[(134,yw 67),(133,yw 66),(125,yw 58),(122,yw 55),(118,yw 51),(115,yw 48),(113,yw 46),(108,yw 41),(103,.lit false),(98,.lit false),(84,yw 17),(79,yw 12)],ct:=[(137,yu 70 59 7 yN 0),(136,yu 69 70 7 yN 0),(135,yu 68 49 5 yW 0),(121,yl 54 9 5 50 yW 0)],bk:=[(6,yc 3 7),(5,yc 2 7),(4,yc 1 5)]})
  (.fin {lo:=71,az:=4,iv:=yo [(132,.lit 0),(131,.lit 0),(130,.lit 0),(129,.lit 0)]<|yr 128 61 3<|[(124,yv 57),(123,yv 56),(120,.lit 0),(119,.lit 0),(117,.lit 0),(116,.lit 0),(114,.lit 0),(112,.lit 0),(111,.lit 0),(110,.lit 0),(109,.lit 0),(107,.lit 0),(106,.lit 0),(105,.lit 0),(104,.lit 0),(102,.lit 0),(101,.lit 0),(100,.lit 0),(99,.lit 0),(97,.lit 0),(96,.lit 0),(95,.lit 0),(94,.lit 0),(93,.lit 0),(92,.lit 0),(91,.lit 0),(90,.lit 0),(89,.lit 0),(88,.lit 0),(87,.lit 0),(86,.lit 0),(85,.lit 0),(83,.lit 0),(82,.lit 0),(81,.lit 0),(80,.lit 0),(78,.lit 0),(77,.lit 0),(76,.lit 0),(75,.lit 0),(74,.lit 0),(73,.lit 0),(72,.lit 0),(71,.lit 0)],bv:=[(134,.lit true),(133,.lit false),(125,yw 58),(122,yw 55),(118,.lit true),(115,.lit true),(113,.lit false),(108,.lit false),(103,.lit false),(98,.lit false),(84,.lit false),(79,.lit false)],ct:=[(137,yu 70 59 7 yN 0),(121,yl 54 9 5 50 yW 0)],bk:=[(6,yc 3 7)],nb:=[5,4,5,4]}))
 (.br (.aB (.var 4) (.lit 2))
  (.call 0 {lo:=0,az:=0,iv:=yo [(70,yv 70)]<|yr 65 65 7<|yo [(57,yv 57),(56,yv 56)]<|yr 3 3 4<|yo [(53,yv 53),(52,yv 52),(69,yv 69),(50,yv 50),(49,yv 49),(47,yv 47)]<|yr 45 45 4<|yr 40 40 4<|yr 35 35 4<|yr 30 30 13<|yr 16 16 4<|yr 11 11 8<|[(71,.lit 0)],bv:=[(67,yw 67),(66,yw 66),(58,yw 58),(55,yw 55),(51,yw 51),(48,yw 48),(46,yw 46),(41,yw 41),(36,yw 36),(31,yw 31),(17,yw 17),(12,yw 12)],ct:=[(70,yu 70 59 7 yN 0),(69,yu 69 70 7 yN 0),(68,yu 68 49 5 yW 0),(54,yl 54 9 5 50 yW 0)],bk:=[(3,yc 3 7),(2,yc 2 7),(1,yc 1 5),(0,yb 0)]} 71 <|
   .fin {lo:=71,az:=4,iv:=yo [(137,yv 137)]<|yr 132 132 7<|yo [(124,yv 124),(123,yv 123),(120,yv 120),(119,yv 119),(136,yv 136),(117,yv 117),(116,yv 116),(114,yv 114)]<|yr 112 112 4<|yr 107 107 4<|yr 102 102 4<|yr 97 97 13<|yr 83 83 4<|yr 78 78 8 [],bv:=[(134,yw 134),(133,yw 133),(125,yw 125),(122,yw 122),(118,yw 118),(115,yw 115),(113,yw 113),(108,yw 108),(103,yw 103),(98,yw 98),(84,yw 84),(79,yw 79)],ct:=[(137,yu 137 126 7 yN 0),(136,yu 136 137 7 yN 0),(135,yu 135 116 5 yW 0),(121,yl 121 9 5 50 yW 0)],bk:=[(6,yc 7 7),(5,yc 6 7),(4,yc 5 5)]})
  (.br (.aB (.var 4) (.lit 3))
   (.fin {lo:=71,az:=4,iv:=yo [(137,yv 70)]<|yr 132 65 7<|yo [(124,yv 57),(123,yv 56),(120,yv 53),(119,yv 52),(136,yv 69),(117,yv 50),(116,yv 49),(114,yv 47)]<|yr 112 45 4<|yr 107 40 4<|yo [(102,.lit 0),(101,.lit 0),(100,.lit 0),(99,.lit 0),(97,.lit 0),(96,.lit 0),(95,.lit 0),(94,.lit 0)]<|yr 93 7 3<|yo [(90,.lit 1),(89,.lit 1)]<|yr 88 21 4<|yr 83 16 4<|yr 78 11 8 [],bv:=[(134,yw 67),(133,yw 66),(125,yw 58),(122,yw 55),(118,yw 51),(115,yw 48),(113,yw 46),(108,yw 41),(103,.lit false),(98,.lit false),(84,yw 17),(79,yw 12)],ct:=[(137,yu 70 59 7 yN 0),(136,yu 69 70 7 yN 0),(135,yu 68 49 5 yW 0),(121,yl 54 9 5 50 yW 0)],bk:=[(6,yc 3 7),(5,yc 2 7),(4,yc 1 5)]})
   (.br (.aB (.var 4) (.lit 4))
    (.fin {lo:=71,az:=4,iv:=yo [(137,yv 70)]<|yr 132 65 7<|yo [(124,yv 57),(123,yv 56),(120,yv 53),(119,yv 52),(136,yv 69),(117,yv 50),(116,yv 49),(114,yv 47)]<|yr 112 45 4<|yr 107 40 4<|yr 102 16 4<|yr 97 11 7<|yo [(90,.lit 2),(89,.lit 1)]<|yr 88 21 4<|yr 83 16 4<|yr 78 11 8 [],bv:=[(134,yw 67),(133,yw 66),(125,yw 58),(122,yw 55),(118,yw 51),(115,yw 48),(113,yw 46),(108,yw 41),(103,yw 17),(98,yw 12),(84,yw 17),(79,yw 12)],ct:=[(137,yu 70 59 7 yN 0),(136,yu 69 70 7 yN 0),(135,yu 68 49 5 yW 0),(121,yl 54 9 5 50 yW 0)],bk:=[(6,yc 3 7),(5,yc 2 7),(4,yc 1 5)]})
    (.br (.aB (.var 4) (.lit 5))
     (.fin {lo:=71,az:=4,iv:=yo [(137,yv 70)]<|yr 132 65 7<|yo [(124,yv 57),(123,yv 56),(120,yv 53),(119,yv 52),(136,yv 69),(117,yv 50),(116,yv 49),(114,yv 47)]<|yr 112 45 4<|yr 107 40 4<|yr 102 16 4<|yr 97 11 7<|yo [(90,.lit 3),(89,.lit 1)]<|yr 88 21 4<|yr 83 16 4<|yr 78 11 8 [],bv:=[(134,yw 67),(133,yw 66),(125,yw 58),(122,yw 55),(118,yw 51),(115,yw 48),(113,yw 46),(108,yw 41),(103,yw 17),(98,yw 12),(84,yw 17),(79,yw 12)],ct:=[(137,yu 70 59 7 yN 0),(136,yu 69 70 7 yN 0),(135,yu 68 49 5 yW 0),(121,yl 54 9 5 50 yW 0)],bk:=[(6,yc 3 7),(5,yc 2 7),(4,yc 1 5)]})
     (.br (.aB (.var 4) (.lit 6))
      (.fin {lo:=71,az:=4,iv:=yo [(137,yv 70)]<|yr 132 65 7<|yo [(124,yv 57),(123,yv 56),(120,yv 53),(119,yv 52),(136,yv 69),(117,yv 50),(116,yv 49),(114,yv 47)]<|yr 112 45 4<|yr 107 40 4<|yo [(102,.lit 0),(101,.lit 0),(100,.lit 0),(99,.lit 0),(97,.lit 0),(96,.lit 0),(95,.lit 0),(94,.lit 0)]<|yr 93 7 3<|yo [(90,.lit 1),(89,.lit 5)]<|yr 88 21 4<|yr 83 16 4<|yr 78 11 8 [],bv:=[(134,yw 67),(133,yw 66),(125,yw 58),(122,yw 55),(118,yw 51),(115,yw 48),(113,yw 46),(108,yw 41),(103,.lit false),(98,.lit false),(84,yw 17),(79,yw 12)],ct:=[(137,yu 70 59 7 yN 0),(136,yu 69 70 7 yN 0),(135,yu 68 49 5 yW 0),(121,yl 54 9 5 50 yW 0)],bk:=[(6,yc 3 7),(5,yc 2 7),(4,yc 1 5)]})
      (.br (.aB (.var 4) (.lit 7))
       (.ob (.or (.not (.or (.aB (.var 0) (.lit 2)) (.aB (.var 0) (.lit 3)))) (.aA (.lit 0) (.var 18))) <|
        .ob (.or (.not (.or (.aB (.var 0) (.lit 2)) (.aB (.var 0) (.lit 3)))) (.bR (.var 18) (.lit 9))) <|
        .ob (.or (.not (.or (.aB (.var 0) (.lit 2)) (.aB (.var 0) (.lit 3)))) (.aA (.lit 0) (.var 19))) <|
        .ob (.or (.not (.or (.aB (.var 0) (.lit 2)) (.aB (.var 0) (.lit 3)))) (.bR (.var 19) (.lit 9))) <|
        .br (.and (.or (.aB (.var 0) (.lit 2)) (.aB (.var 0) (.lit 3))) (.not (.and (.aB (.cell 54 (.var 18) (.lit 0) 0) (.cell 54 (.var 19) (.lit 0) 0)) (.and (.aB (.cell 54 (.var 18) (.lit 0) 1) (.cell 54 (.var 19) (.lit 0) 1)) (.and (.aB (.cell 54 (.var 18) (.lit 0) 2) (.cell 54 (.var 19) (.lit 0) 2)) (.and (.aB (.cell 54 (.var 18) (.lit 0) 3) (.cell 54 (.var 19) (.lit 0) 3)) (.beq (.cell 54 (.var 18) (.lit 0) 4) (.cell 54 (.var 19) (.lit 0) 4))))))))
        (.ob (.aA (.lit 0) (.var 19)) <|
         .ob (.bR (.var 19) (.lit 9)) <|
         .ob (.aA (.lit 0) (.var 18)) <|
         .ob (.bR (.var 18) (.lit 9)) <|
         .call 1 {lo:=0,az:=0,iv:=[(1,yv 18),(0,yv 1)]} 71 <|
         .fin {lo:=71,az:=4,iv:=yo [(137,yv 70)]<|yr 132 65 7<|yo [(124,yv 57),(123,yv 56),(120,yv 53),(119,yv 52),(136,yv 69),(117,yv 50),(116,yv 49),(114,yv 47)]<|yr 112 45 4<|yr 107 40 4<|yo [(102,.cell 54 (.var 19) (.lit 0) 3),(101,.cell 54 (.var 19) (.lit 0) 2),(100,.cell 54 (.var 19) (.lit 0) 1),(99,.cell 54 (.var 19) (.lit 0) 0),(97,.lit 0),(96,.lit 0),(95,.lit 0),(94,.lit 0),(93,.add (.add (.lit 25) (.mul (.var 1) (.lit 9))) (.var 18)),(92,.lit 0),(91,.lit 0),(90,.lit 2),(89,.lit 2)]<|yr 88 21 4<|yr 83 16 4<|yr 78 11 8 [],bv:=[(134,yw 67),(133,yw 66),(125,yw 58),(122,yw 55),(118,yw 51),(115,yw 48),(113,yw 46),(108,yw 41),(103,.cell 54 (.var 19) (.lit 0) 4),(98,.lit false),(84,yw 17),(79,yw 12)],ct:=[(137,yu 70 59 7 yN 0),(136,yu 69 70 7 yN 0),(135,yu 68 49 5 yW 0),(121,.up {r:=54,n1:=.lit 9,s1:=5,lo:=50,ks:=yW} 0 [⟨0,(.var 18),(.lit 0),4,.bool (.cell 54 (.var 19) (.lit 0) 4)⟩,⟨0,(.var 18),(.lit 0),3,.int .i64 (.cell 54 (.var 19) (.lit 0) 3)⟩,⟨0,(.var 18),(.lit 0),2,.int .i64 (.cell 54 (.var 19) (.lit 0) 2)⟩,⟨0,(.var 18),(.lit 0),1,.int .i64 (.cell 54 (.var 19) (.lit 0) 1)⟩,⟨0,(.var 18),(.lit 0),0,.int .i64 (.cell 54 (.var 19) (.lit 0) 0)⟩] (.lit 0))],bk:=[(6,yc 3 7),(5,yc 2 7),(4,yc 1 5)]})
        (.fin {lo:=71,az:=4,iv:=yo [(132,.lit 0),(131,.lit 0),(130,.lit 0),(129,.lit 0)]<|yr 128 61 3<|[(124,yv 57),(123,yv 56),(120,.lit 0),(119,.lit 0),(117,.lit 0),(116,.lit 0),(114,.lit 0),(112,.lit 0),(111,.lit 0),(110,.lit 0),(109,.lit 0),(107,.lit 0),(106,.lit 0),(105,.lit 0),(104,.lit 0),(102,.lit 0),(101,.lit 0),(100,.lit 0),(99,.lit 0),(97,.lit 0),(96,.lit 0),(95,.lit 0),(94,.lit 0),(93,.lit 0),(92,.lit 0),(91,.lit 0),(90,.lit 0),(89,.lit 0),(88,.lit 0),(87,.lit 0),(86,.lit 0),(85,.lit 0),(83,.lit 0),(82,.lit 0),(81,.lit 0),(80,.lit 0),(78,.lit 0),(77,.lit 0),(76,.lit 0),(75,.lit 0),(74,.lit 0),(73,.lit 0),(72,.lit 0),(71,.lit 0)],bv:=[(134,.lit true),(133,.lit false),(125,yw 58),(122,yw 55),(118,.lit true),(115,.lit true),(113,.lit false),(108,.lit false),(103,.lit false),(98,.lit false),(84,.lit false),(79,.lit false)],ct:=[(137,yu 70 59 7 yN 0),(121,yl 54 9 5 50 yW 0)],bk:=[(6,yc 3 7)],nb:=[5,4,5,4]}))
       (.br (.aB (.var 4) (.lit 8))
        (.br (.or (.aB (.var 0) (.lit 3)) (.aB (.var 0) (.lit 5)))
         (.fin {lo:=71,az:=4,iv:=yo [(137,yv 70)]<|yr 132 65 7<|yo [(124,yv 57),(123,yv 56),(120,yv 53),(119,yv 52),(136,yv 69),(117,yv 50),(116,yv 49),(114,yv 47)]<|yr 112 45 4<|yr 107 40 4<|yo [(102,.lit 0),(101,.lit 0),(100,.lit 0),(99,.lit 0),(97,.lit 0),(96,.lit 0),(95,.lit 0),(94,.lit 0),(93,.lit 24),(92,.lit 0),(91,.lit 0),(90,.lit 1),(89,.lit 8)]<|yr 88 21 4<|yr 83 16 4<|yr 78 11 8 [],bv:=[(134,yw 67),(133,yw 66),(125,yw 58),(122,yw 55),(118,yw 51),(115,yw 48),(113,yw 46),(108,yw 41),(103,.lit false),(98,.lit false),(84,yw 17),(79,yw 12)],ct:=[(137,yu 70 59 7 yN 0),(136,yu 69 70 7 yN 0),(135,yu 68 49 5 yW 0),(121,yl 54 9 5 50 yW 0)],bk:=[(6,yc 3 7),(5,yc 2 7),(4,yc 1 5)]})
         (.fin {lo:=71,az:=4,iv:=yo [(137,yv 70)]<|yr 132 65 7<|yo [(124,yv 57),(123,yv 56),(120,yv 53),(119,yv 52),(136,yv 69),(117,yv 50),(116,yv 49),(114,yv 47)]<|yr 112 45 4<|yr 107 40 4<|yo [(102,.lit 0),(101,.lit 0),(100,.lit 0),(99,.lit 0),(97,.lit 0),(96,.lit 0),(95,.lit 0),(94,.lit 0),(93,.lit 0),(92,.lit 0),(91,.lit 0),(90,.lit 4),(89,.lit 1)]<|yr 88 21 4<|yr 83 16 4<|yr 78 11 8 [],bv:=[(134,yw 67),(133,yw 66),(125,yw 58),(122,yw 55),(118,yw 51),(115,yw 48),(113,yw 46),(108,yw 41),(103,.lit false),(98,.lit false),(84,yw 17),(79,yw 12)],ct:=[(137,yu 70 59 7 yN 0),(136,yu 69 70 7 yN 0),(135,yu 68 49 5 yW 0),(121,yl 54 9 5 50 yW 0)],bk:=[(6,yc 3 7),(5,yc 2 7),(4,yc 1 5)]}))
        (.br (.aB (.var 4) (.lit 9))
         (.fin {lo:=71,az:=4,iv:=yo [(137,yv 70)]<|yr 132 65 7<|yo [(124,yv 57),(123,yv 56),(120,yv 53),(119,yv 52),(136,yv 69),(117,yv 50),(116,yv 49),(114,yv 47)]<|yr 112 45 4<|yr 107 40 4<|yo [(102,.lit 0),(101,.lit 0),(100,.lit 0),(99,.lit 0)]<|yr 97 11 4<|yo [(93,.lit 0),(92,.lit 0),(91,.lit 0),(90,.lit 5),(89,.lit 2)]<|yr 88 21 4<|yr 83 16 4<|yr 78 11 8 [],bv:=[(134,yw 67),(133,yw 66),(125,yw 58),(122,yw 55),(118,yw 51),(115,yw 48),(113,yw 46),(108,yw 41),(103,.lit false),(98,yw 12),(84,yw 17),(79,yw 12)],ct:=[(137,yu 70 59 7 yN 0),(136,yu 69 70 7 yN 0),(135,yu 68 49 5 yW 0),(121,yl 54 9 5 50 yW 0)],bk:=[(6,yc 3 7),(5,yc 2 7),(4,yc 1 5)]})
         (.br (.aB (.var 4) (.lit 10))
          (.call 3 {lo:=0,az:=0,iv:=yo [(70,yv 70)]<|yr 65 65 7<|yo [(57,yv 57),(56,yv 56)]<|yr 3 3 4<|yo [(53,yv 53),(52,yv 52),(69,yv 69),(50,yv 50),(49,yv 49),(47,yv 47)]<|yr 45 45 4<|yr 40 40 4<|yr 35 35 4<|yr 30 30 13<|yr 16 16 4<|yr 11 11 8 [],bv:=[(67,yw 67),(66,yw 66),(58,yw 58),(55,yw 55),(51,yw 51),(48,yw 48),(46,yw 46),(41,yw 41),(36,yw 36),(31,yw 31),(17,yw 17),(12,yw 12)],ct:=[(70,yu 70 59 7 yN 0),(69,yu 69 70 7 yN 0),(68,yu 68 49 5 yW 0),(54,yl 54 9 5 50 yW 0)],bk:=[(3,yc 3 7),(2,yc 2 7),(1,yc 1 5),(0,yb 0)]} 71 <|
           .fin {lo:=71,az:=4,iv:=yo [(137,yv 137)]<|yr 132 132 7<|yo [(124,yv 124),(123,yv 123),(120,yv 120),(119,yv 119),(136,yv 136),(117,yv 117),(116,yv 116),(114,yv 114)]<|yr 112 112 4<|yr 107 107 4<|yr 102 102 4<|yr 97 97 13<|yr 83 83 4<|yr 78 78 8 [],bv:=[(134,yw 134),(133,yw 133),(125,yw 125),(122,yw 122),(118,yw 118),(115,yw 115),(113,yw 113),(108,yw 108),(103,yw 103),(98,yw 98),(84,yw 84),(79,yw 79)],ct:=[(137,yu 137 126 7 yN 0),(136,yu 136 137 7 yN 0),(135,yu 135 116 5 yW 0),(121,yl 121 9 5 50 yW 0)],bk:=[(6,yc 7 7),(5,yc 6 7),(4,yc 5 5)]})
          (.br (.aB (.var 4) (.lit 11))
           (.call 2 {lo:=0,az:=0,iv:=yo [(70,yv 70)]<|yr 65 65 7<|yo [(57,yv 57),(56,yv 56)]<|yr 3 3 4<|yo [(53,yv 53),(52,yv 52),(69,yv 69),(50,yv 50),(49,yv 49),(47,yv 47)]<|yr 45 45 4<|yr 40 40 4<|yr 35 35 4<|yr 30 30 13<|yr 16 16 4<|yr 11 11 8 [],bv:=[(67,yw 67),(66,yw 66),(58,yw 58),(55,yw 55),(51,yw 51),(48,yw 48),(46,yw 46),(41,yw 41),(36,yw 36),(31,yw 31),(17,yw 17),(12,yw 12)],ct:=[(70,yu 70 59 7 yN 0),(69,yu 69 70 7 yN 0),(68,yu 68 49 5 yW 0),(54,yl 54 9 5 50 yW 0)],bk:=[(3,yc 3 7),(2,yc 2 7),(1,yc 1 5),(0,yb 0)]} 71 <|
            .fin {lo:=71,az:=4,iv:=yo [(137,yv 137)]<|yr 132 132 7<|yo [(124,yv 124),(123,yv 123),(120,yv 120),(119,yv 119),(136,yv 136),(117,yv 117),(116,yv 116),(114,yv 114)]<|yr 112 112 4<|yr 107 107 4<|yr 102 102 4<|yr 97 97 13<|yr 83 83 4<|yr 78 78 8 [],bv:=[(134,yw 134),(133,yw 133),(125,yw 125),(122,yw 122),(118,yw 118),(115,yw 115),(113,yw 113),(108,yw 108),(103,yw 103),(98,yw 98),(84,yw 84),(79,yw 79)],ct:=[(137,yu 137 126 7 yN 0),(136,yu 136 137 7 yN 0),(135,yu 135 116 5 yW 0),(121,yl 121 9 5 50 yW 0)],bk:=[(6,yc 7 7),(5,yc 6 7),(4,yc 5 5)]})
           (.fin {lo:=71,az:=4,iv:=yo [(137,yv 70)]<|yr 132 65 7<|yo [(124,yv 57),(123,yv 56),(120,yv 53),(119,yv 52),(136,yv 69),(117,yv 50),(116,yv 49),(114,yv 47)]<|yr 112 45 4<|yr 107 40 4<|yr 102 35 4<|yr 97 30 13<|yr 83 16 4<|yr 78 11 8 [],bv:=[(134,yw 67),(133,yw 66),(125,yw 58),(122,yw 55),(118,yw 51),(115,yw 48),(113,yw 46),(108,yw 41),(103,yw 36),(98,yw 31),(84,yw 17),(79,yw 12)],ct:=[(137,yu 70 59 7 yN 0),(136,yu 69 70 7 yN 0),(135,yu 68 49 5 yW 0),(121,yl 54 9 5 50 yW 0)],bk:=[(6,yc 3 7),(5,yc 2 7),(4,yc 1 5)]})))))))))))
theorem Sq:exec tab Uu 8000 [] (eG kM.f kM.nv [] kM.gl kM.hp kM.args)=EZ:=by kernel_rfl
def zW (ρ:Env):Prop:=bH ρ 4∧uV ρ∧Jz ρ 4∧(0≤ρ.iv 18∧ρ.iv 18<9)∧0≤ρ.iv 19∧ρ.iv 19<9
def BI (ρ:Env):Prop:=bH ρ 71∧aa ρ 0 71=(aa ρ 0 4).opened
set_option maxHeartbeats 4000000 in
theorem Sr (ρ:Env) (hpre:zW ρ.num):Sat BI Nl [] ρ EZ:=by
 replace hpre:zW ρ:=hpre
 obtain ⟨⟨o1,o2,o3⟩,hs,hf,⟨n1,n2⟩,m1,m2⟩:=hpre
 unfold EZ
 refine Sat.br (fun c1=>?_) (fun c1=>?_)
 ·simp only [Da] at c1
  have h0:(aa ρ 0 4).opened=if (aa ρ 0 4).bV then (aa ρ 0 4).era 3 else (aa ρ 0 4).done:=if_pos c1
  refine Sat.br (fun c=>?_) (fun c=>?_)
  ·simp only [Da] at c
   have hm:(aa ρ 0 4).opened=(aa ρ 0 4).era 3:=h0.trans (if_pos c)
   exact Sat.fin ⟨⟨(by first | exact o1 | exact o2 | exact o3 | exact aj rfl rfl | assumption),(by first | exact o2 | exact ⟨aj rfl rfl,Int.le_refl 0,.inl rfl⟩ | assumption),(by first | exact o1 | exact o2 | exact o3 | exact aj rfl rfl | assumption)⟩,Eq.trans (b:=(aa ρ 0 4).era 3) (RS.ext' rfl rfl rfl rfl rfl rfl bu bC rfl rfl rfl rfl bB rfl bz rfl rfl) (Eq.symm (hm))⟩
  ·simp only [Da] at c
   have hm:(aa ρ 0 4).opened=(aa ρ 0 4).done:=h0.trans (if_neg (fun h:ρ.iv 0=4∨ρ.iv 0=5=>by omega))
   exact Sat.fin ⟨⟨(by first | exact o1 | exact o2 | exact o3 | exact aj rfl rfl | assumption),(by first | exact o2 | exact ⟨aj rfl rfl,Int.le_refl 0,.inl rfl⟩ | assumption),(by first | exact o1 | exact o2 | exact o3 | exact aj rfl rfl | assumption)⟩,Eq.trans (b:=(aa ρ 0 4).done) (RS.ext' rfl rfl rfl rfl rfl rfl bu bC rfl rfl rfl rfl bB rfl bz rfl rfl) (Eq.symm (hm))⟩
 simp only [Da] at c1
 refine Sat.br (fun c2=>?_) (fun c2=>?_)
 ·simp only [Da] at c2
  have hm:(aa ρ 0 4).opened=(aa ρ 0 4).leave 0:=(if_neg c1).trans (if_pos c2)
  refine dZ (c:=il) rfl (aa ρ 0 4) ((aa ρ 0 4).leave 0) (by decide) (by decide) (je rfl rfl rfl rfl) ⟨⟨o1,o2,o3⟩,hs,Int.le_refl 0,(show (0:Int)≤9 by decide)⟩ (RS.ext' rfl rfl rfl rfl rfl rfl bu bC rfl rfl rfl rfl bB rfl bz rfl rfl) (fun e hq hr=>⟨hq.1,by rw [←hr];exact hq.2⟩) (fun u=>(bH u 71)∧aa u 0 71=(aa u 0 4).opened) (fun e h1 h2=>⟨h1,h2.trans hm.symm⟩) fun u hu=>?_
  obtain ⟨⟨o1,o2,o3⟩,hm⟩:=hu
  exact Sat.fin ⟨⟨(by first | exact o1 | exact o2 | exact o3 | exact aj rfl rfl | assumption),(by first | exact o2 | exact ⟨aj rfl rfl,Int.le_refl 0,.inl rfl⟩ | assumption),(by first | exact o1 | exact o2 | exact o3 | exact aj rfl rfl | assumption)⟩,Eq.trans (b:=(aa u 0 71)) (RS.ext' rfl rfl rfl rfl rfl rfl bu bC rfl rfl rfl rfl bB rfl bz rfl rfl) (Eq.symm (hm.symm))⟩
 simp only [Da] at c2
 refine Sat.br (fun c3=>?_) (fun c3=>?_)
 ·simp only [Da] at c3
  have hm:(aa ρ 0 4).opened=(aa ρ 0 4).load 1 (ρ.iv 5) (ρ.iv 6) (ρ.iv 7):=(if_neg c1).trans ((if_neg c2).trans (if_pos c3))
  exact Sat.fin ⟨⟨(by first | exact o1 | exact o2 | exact o3 | exact aj rfl rfl | assumption),(by first | exact o2 | exact ⟨aj rfl rfl,Int.le_refl 0,.inl rfl⟩ | assumption),(by first | exact o1 | exact o2 | exact o3 | exact aj rfl rfl | assumption)⟩,Eq.trans (b:=(aa ρ 0 4).load 1 (ρ.iv 5) (ρ.iv 6) (ρ.iv 7)) (RS.ext' rfl rfl rfl rfl rfl rfl bu bC rfl rfl rfl rfl bB rfl bz rfl rfl) (Eq.symm (hm))⟩
 simp only [Da] at c3
 refine Sat.br (fun c4=>?_) (fun c4=>?_)
 ·simp only [Da] at c4
  have hm:(aa ρ 0 4).opened=(aa ρ 0 4).ask 1 ⟨2,ρ.iv 5,ρ.iv 6,ρ.iv 7,av ρ 8,av ρ 13⟩:=(if_neg c1).trans ((if_neg c2).trans ((if_neg c3).trans (if_pos c4)))
  exact Sat.fin ⟨⟨(by first | exact o1 | exact o2 | exact o3 | exact aj rfl rfl | assumption),(by first | exact o2 | exact ⟨aj rfl rfl,Int.le_refl 0,.inl rfl⟩ | assumption),(by first | exact o1 | exact o2 | exact o3 | exact aj rfl rfl | assumption)⟩,Eq.trans (b:=(aa ρ 0 4).ask 1 ⟨2,ρ.iv 5,ρ.iv 6,ρ.iv 7,av ρ 8,av ρ 13⟩) (RS.ext' rfl rfl rfl rfl rfl rfl bu bC rfl rfl rfl rfl bB rfl bz rfl rfl) (Eq.symm (hm))⟩
 simp only [Da] at c4
 refine Sat.br (fun c5=>?_) (fun c5=>?_)
 ·simp only [Da] at c5
  have hm:(aa ρ 0 4).opened=(aa ρ 0 4).ask 1 ⟨3,ρ.iv 5,ρ.iv 6,ρ.iv 7,av ρ 8,av ρ 13⟩:=(if_neg c1).trans ((if_neg c2).trans ((if_neg c3).trans ((if_neg c4).trans (if_pos c5))))
  exact Sat.fin ⟨⟨(by first | exact o1 | exact o2 | exact o3 | exact aj rfl rfl | assumption),(by first | exact o2 | exact ⟨aj rfl rfl,Int.le_refl 0,.inl rfl⟩ | assumption),(by first | exact o1 | exact o2 | exact o3 | exact aj rfl rfl | assumption)⟩,Eq.trans (b:=(aa ρ 0 4).ask 1 ⟨3,ρ.iv 5,ρ.iv 6,ρ.iv 7,av ρ 8,av ρ 13⟩) (RS.ext' rfl rfl rfl rfl rfl rfl bu bC rfl rfl rfl rfl bB rfl bz rfl rfl) (Eq.symm (hm))⟩
 simp only [Da] at c5
 refine Sat.br (fun c6=>?_) (fun c6=>?_)
 ·simp only [Da] at c6
  have hm:(aa ρ 0 4).opened=(aa ρ 0 4).load 5 (ρ.iv 5) (ρ.iv 6) (ρ.iv 7):=(if_neg c1).trans ((if_neg c2).trans ((if_neg c3).trans ((if_neg c4).trans ((if_neg c5).trans (if_pos c6)))))
  exact Sat.fin ⟨⟨(by first | exact o1 | exact o2 | exact o3 | exact aj rfl rfl | assumption),(by first | exact o2 | exact ⟨aj rfl rfl,Int.le_refl 0,.inl rfl⟩ | assumption),(by first | exact o1 | exact o2 | exact o3 | exact aj rfl rfl | assumption)⟩,Eq.trans (b:=(aa ρ 0 4).load 5 (ρ.iv 5) (ρ.iv 6) (ρ.iv 7)) (RS.ext' rfl rfl rfl rfl rfl rfl bu bC rfl rfl rfl rfl bB rfl bz rfl rfl) (Eq.symm (hm))⟩
 simp only [Da] at c6
 have hB:∀X:RS,(if ρ.iv 4=7 then (if (aa ρ 0 4).bJ∧(aa ρ 0 4).holds (ρ.iv 18).toNat≠(aa ρ 0 4).holds (ρ.iv 19).toNat then (aa ρ 0 4).post 2 (ρ.iv 18) ((aa ρ 0 4).holds (ρ.iv 19).toNat) else (aa ρ 0 4).done)
     else if ρ.iv 4=8 then (if (aa ρ 0 4).bL then (aa ρ 0 4).era 8 else (aa ρ 0 4).ask 1 ⟨4,0,0,0,Wd.zero,Wd.zero⟩)
     else if ρ.iv 4=9 then (aa ρ 0 4).ask 2 ⟨5,0,0,0,av ρ 8,Wd.zero⟩ else if ρ.iv 4=10 then (aa ρ 0 4).fJ else if ρ.iv 4=11 then (aa ρ 0 4).scan else aa ρ 0 4)=X→(aa ρ 0 4).opened=X :=
  fun X h=>((if_neg c1).trans ((if_neg c2).trans ((if_neg c3).trans ((if_neg c4).trans ((if_neg c5).trans (if_neg c6)))))).trans h
 refine Sat.br (fun c7=>?_) (fun c7=>?_)
 ·simp only [Da] at c7
  refine Sat.ob (by simp only [Da];omega) (Sat.ob (by simp only [Da];omega) (Sat.ob (by simp only [Da];omega) (Sat.ob (by simp only [Da];omega) (Sat.br (fun c=>?_) (fun c=>?_)))))
  ·simp only [Da] at c
   have hne:(aa ρ 0 4).holds (ρ.iv 18).toNat≠(aa ρ 0 4).holds (ρ.iv 19).toNat:=fun h=>by
    have h':=oo.1 h
    simp only [aa,aF] at h'
    simp_all
   have hm:(aa ρ 0 4).opened=(aa ρ 0 4).post 2 (ρ.iv 18) ((aa ρ 0 4).holds (ρ.iv 19).toNat):=hB _ ((if_pos c7).trans (if_pos ⟨c.1,hne⟩))
   refine Sat.ob (decide_eq_true m1) (Sat.ob (by simp only [Da];omega) (Sat.ob (decide_eq_true n1) (Sat.ob (by simp only [Da];omega) (Sat.iH (c:=fM) rfl ⟨⟨hs.1,hs.2.1⟩,n1,n2⟩ (fun r=>((bH r 4)∧0≤r.iv 18)∧(aa r 0 4).opened=(aa r 0 4).post 2 (r.iv 18) ((aa r 0 4).holds (r.iv 19).toNat)) (fun e _=>⟨⟨⟨o1,o2,o3⟩,n1⟩,hm⟩) fun r hr=>?_))))
   obtain ⟨⟨⟨o1,o2,o3⟩,i1⟩,hm⟩:=hr
   refine Sat.fin ⟨⟨(by first | exact o1 | exact o2 | exact o3 | exact aj rfl rfl | assumption),(by first | exact o2 | exact ⟨aj rfl rfl,Int.le_refl 0,.inl rfl⟩ | assumption),(by first | exact o1 | exact o2 | exact o3 | exact aj rfl rfl | assumption)⟩,Eq.trans (b:=(aa r 0 4).post 2 (r.iv 18) ((aa r 0 4).holds (r.iv 19).toNat)) (RS.ext' rfl rfl rfl rfl rfl rfl bu bC rfl rfl rfl rfl ?_ rfl bz rfl rfl) (Eq.symm (hm))⟩
   intro i
   show _=if i=(r.iv 18).toNat then aF (r.ic 54 (r.iv 19).toNat 0) (r.bc 54 (r.iv 19).toNat 0) else aF (r.ic 54 i 0) (r.bc 54 i 0)
   by_cases h:i=(r.iv 18).toNat
   ·subst h
    simp [aa,aF,Wd.gI,av,-Int.pred_toNat,Sub.ag,assoc,CV.I,CV.B,ah,ai,ae.I,ae.B,SC.I,SC.B,IE.den,BE.den]
   ·simp [aa,aF,-Int.pred_toNat,Sub.ag,assoc,CV.I,CV.B,ah,ai,ae.I,ae.B,SC.I,SC.B,IE.den,BE.den,h,Ne.symm h]
  ·simp only [Da] at c
   have he:¬((aa ρ 0 4).bJ∧(aa ρ 0 4).holds (ρ.iv 18).toNat≠(aa ρ 0 4).holds (ρ.iv 19).toNat):=by
    rintro ⟨h1,h2⟩
    have h1:ρ.iv 0=2∨ρ.iv 0=3:=h1
    apply h2
    apply oo.2
    simp only [aa,aF]
    rcases c with c | c
    ·omega
    ·exact c
   have hm:(aa ρ 0 4).opened=(aa ρ 0 4).done:=hB _ ((if_pos c7).trans (if_neg he))
   exact Sat.fin ⟨⟨(by first | exact o1 | exact o2 | exact o3 | exact aj rfl rfl | assumption),(by first | exact o2 | exact ⟨aj rfl rfl,Int.le_refl 0,.inl rfl⟩ | assumption),(by first | exact o1 | exact o2 | exact o3 | exact aj rfl rfl | assumption)⟩,Eq.trans (b:=(aa ρ 0 4).done) (RS.ext' rfl rfl rfl rfl rfl rfl bu bC rfl rfl rfl rfl bB rfl bz rfl rfl) (Eq.symm (hm))⟩
 simp only [Da] at c7
 refine Sat.br (fun c8=>?_) (fun c8=>?_)
 ·simp only [Da] at c8
  refine Sat.br (fun c=>?_) (fun c=>?_)
  ·simp only [Da] at c
   have hm:(aa ρ 0 4).opened=(aa ρ 0 4).era 8:=hB _ ((if_neg c7).trans ((if_pos c8).trans (if_pos c)))
   exact Sat.fin ⟨⟨(by first | exact o1 | exact o2 | exact o3 | exact aj rfl rfl | assumption),(by first | exact o2 | exact ⟨aj rfl rfl,Int.le_refl 0,.inl rfl⟩ | assumption),(by first | exact o1 | exact o2 | exact o3 | exact aj rfl rfl | assumption)⟩,Eq.trans (b:=(aa ρ 0 4).era 8) (RS.ext' rfl rfl rfl rfl rfl rfl bu bC rfl rfl rfl rfl bB rfl bz rfl rfl) (Eq.symm (hm))⟩
  ·simp only [Da] at c
   have hm:(aa ρ 0 4).opened=(aa ρ 0 4).ask 1 ⟨4,0,0,0,Wd.zero,Wd.zero⟩:=hB _ ((if_neg c7).trans ((if_pos c8).trans (if_neg (fun h:ρ.iv 0=3∨ρ.iv 0=5=>by omega))))
   exact Sat.fin ⟨⟨(by first | exact o1 | exact o2 | exact o3 | exact aj rfl rfl | assumption),(by first | exact o2 | exact ⟨aj rfl rfl,Int.le_refl 0,.inl rfl⟩ | assumption),(by first | exact o1 | exact o2 | exact o3 | exact aj rfl rfl | assumption)⟩,Eq.trans (b:=(aa ρ 0 4).ask 1 ⟨4,0,0,0,Wd.zero,Wd.zero⟩) (RS.ext' rfl rfl rfl rfl rfl rfl bu bC rfl rfl rfl rfl bB rfl bz rfl rfl) (Eq.symm (hm))⟩
 simp only [Da] at c8
 refine Sat.br (fun c9=>?_) (fun c9=>?_)
 ·simp only [Da] at c9
  have hm:(aa ρ 0 4).opened=(aa ρ 0 4).ask 2 ⟨5,0,0,0,av ρ 8,Wd.zero⟩:=hB _ ((if_neg c7).trans ((if_neg c8).trans (if_pos c9)))
  exact Sat.fin ⟨⟨(by first | exact o1 | exact o2 | exact o3 | exact aj rfl rfl | assumption),(by first | exact o2 | exact ⟨aj rfl rfl,Int.le_refl 0,.inl rfl⟩ | assumption),(by first | exact o1 | exact o2 | exact o3 | exact aj rfl rfl | assumption)⟩,Eq.trans (b:=(aa ρ 0 4).ask 2 ⟨5,0,0,0,av ρ 8,Wd.zero⟩) (RS.ext' rfl rfl rfl rfl rfl rfl bu bC rfl rfl rfl rfl bB rfl bz rfl rfl) (Eq.symm (hm))⟩
 simp only [Da] at c9
 refine Sat.br (fun c10=>?_) (fun c10=>?_)
 ·simp only [Da] at c10
  have hm:(aa ρ 0 4).opened=(aa ρ 0 4).fJ:=hB _ ((if_neg c7).trans ((if_neg c8).trans ((if_neg c9).trans (if_pos c10))))
  refine dZ (c:=iW) rfl (aa ρ 0 4) (aa ρ 0 4).fJ (by decide) (by decide) (je rfl rfl rfl rfl) ⟨⟨o1,o2,o3⟩,hs,hf⟩ (RS.ext' rfl rfl rfl rfl rfl rfl bu bC rfl rfl rfl rfl bB rfl bz rfl rfl) (fun e hq hr=>⟨hq.1,by rw [←hr];exact hq.2⟩) (fun u=>(bH u 71)∧aa u 0 71=(aa u 0 4).opened) (fun e h1 h2=>⟨h1,h2.trans hm.symm⟩) fun u hu=>?_
  obtain ⟨⟨o1,o2,o3⟩,hm⟩:=hu
  exact Sat.fin ⟨⟨(by first | exact o1 | exact o2 | exact o3 | exact aj rfl rfl | assumption),(by first | exact o2 | exact ⟨aj rfl rfl,Int.le_refl 0,.inl rfl⟩ | assumption),(by first | exact o1 | exact o2 | exact o3 | exact aj rfl rfl | assumption)⟩,Eq.trans (b:=(aa u 0 71)) (RS.ext' rfl rfl rfl rfl rfl rfl bu bC rfl rfl rfl rfl bB rfl bz rfl rfl) (Eq.symm (hm.symm))⟩
 simp only [Da] at c10
 refine Sat.br (fun c11=>?_) (fun c11=>?_)
 ·simp only [Da] at c11
  have hm:(aa ρ 0 4).opened=(aa ρ 0 4).scan:=hB _ ((if_neg c7).trans ((if_neg c8).trans ((if_neg c9).trans ((if_neg c10).trans (if_pos c11)))))
  refine dZ (c:=iX) rfl (aa ρ 0 4) (aa ρ 0 4).scan (by decide) (by decide) (je rfl rfl rfl rfl) ⟨⟨o1,o2,o3⟩,hs⟩ (RS.ext' rfl rfl rfl rfl rfl rfl bu bC rfl rfl rfl rfl bB rfl bz rfl rfl) (fun e hq hr=>⟨hq.1,by rw [←hr];exact hq.2⟩) (fun u=>(bH u 71)∧aa u 0 71=(aa u 0 4).opened) (fun e h1 h2=>⟨h1,h2.trans hm.symm⟩) fun u hu=>?_
  obtain ⟨⟨o1,o2,o3⟩,hm⟩:=hu
  exact Sat.fin ⟨⟨(by first | exact o1 | exact o2 | exact o3 | exact aj rfl rfl | assumption),(by first | exact o2 | exact ⟨aj rfl rfl,Int.le_refl 0,.inl rfl⟩ | assumption),(by first | exact o1 | exact o2 | exact o3 | exact aj rfl rfl | assumption)⟩,Eq.trans (b:=(aa u 0 71)) (RS.ext' rfl rfl rfl rfl rfl rfl bu bC rfl rfl rfl rfl bB rfl bz rfl rfl) (Eq.symm (hm.symm))⟩
 ·simp only [Da] at c11
  have hm:(aa ρ 0 4).opened=aa ρ 0 4:=hB _ ((if_neg c7).trans ((if_neg c8).trans ((if_neg c9).trans ((if_neg c10).trans (if_neg c11)))))
  exact Sat.fin ⟨⟨(by first | exact o1 | exact o2 | exact o3 | exact aj rfl rfl | assumption),(by first | exact o2 | exact ⟨aj rfl rfl,Int.le_refl 0,.inl rfl⟩ | assumption),(by first | exact o1 | exact o2 | exact o3 | exact aj rfl rfl | assumption)⟩,Eq.trans (b:=(aa ρ 0 4)) (RS.ext' rfl rfl rfl rfl rfl rfl bu bC rfl rfl rfl rfl bB rfl bz rfl rfl) (Eq.symm (hm))⟩
theorem Su:aY Tryz.prog kM zW BI :=
 cZ dD (E:=Uu) (cs:=Nl) rfl VA bS rfl Sq (by kernel_rfl) (fun ρ _ p hp=>by cases hp) Sr
end Go.Proofs.YthomdlajobnmnaaGreatDoor
namespace Go.Proofs.YthomdlajobnmnaaGreatDoor
open Go.Rex
structure Lo where
 ak:Int
 me:Int
 threads:Int
 most:Int
 h:Nat→Wd
 s:Sp
 notes:List Nt
 freed:Int
namespace Lo
variable (l:Lo)
def bJ:Prop:=l.ak=2∨l.ak=3
def bL:Prop:=l.ak=3∨l.ak=5
def bV:Prop:=l.ak=4∨l.ak=5
instance:Decidable l.bJ:=by unfold bJ;exact inferInstance
instance:Decidable l.bL:=by unfold bL;exact inferInstance
instance:Decidable l.bV:=by unfold bV;exact inferInstance
def hold (n:Int) (w:Wd):Lo:={l with h:=fun i=>if i=n.toNat then w else l.h i}
def all:Int:=if l.bJ then l.threads * 9 else l.threads
def base:Int:=if l.bJ then 25 else 79
end Lo
inductive RT where
 | idle (x:Rp)
 | one (a:Ac)
 | fin (a:Ac)
 | rU
 | jE (i:Int)
 | gW (c:Ca)
 | jh (c:Ca) (w:Wd)
 | iQ (c:Ca) (a:Ac)
 | BK
 | mJ (old:Wd)
 | mi (old:Wd) (b:Int)
 | nk (clock:Wd)
 | qh
 | iR (clock:Wd) (seen:List Wd)
 | ql (clock:Wd)
 | ja
 | kY (d:Nt) (l:List Nt)
def Ac.load (slot gen field:Int):Ac:=⟨1,slot,gen,field,Wd.zero,Wd.zero⟩
def Ac.era:Ac:=Ac.load 0 0 24
def Ac.eu (clock:Wd):Ac:=⟨3,0,0,24,clock,⟨0,0,clock.tag+1,clock.num+1,false⟩⟩
def Ac.store (slot gen field:Int) (w:Wd):Ac:=⟨2,slot,gen,field,Wd.zero,w⟩
def RT.acc (l:Lo):RT→Ac
 | .idle _=>Ac.zero
 | .one a=>a
 | .fin a=>a
 | .rU=>Ac.era
 | .jE i=>Ac.store 0 0 (25+l.me * 9+i) Wd.zero
 | .gW c=>Ac.load c.slot c.gen c.field
 | .jh _ _=>Ac.era
 | .iQ _ a=>a
 | .BK=>Ac.era
 | .mJ old=>Ac.load old.slot old.gen 9
 | .mi _ _=>Ac.era
 | .nk clock=>Ac.eu clock
 | .qh=>Ac.era
 | .iR _ seen=>Ac.load 0 0 (l.base+seen.length)
 | .ql clock=>Ac.eu clock
 | .ja=>Ac.era
 | .kY d _=>⟨5,0,0,0,d.ref,Wd.zero⟩
def RT.eH:RT→Int
 | .idle _=>0
 | .one _=>1
 | .fin _=>2
 | .rU=>3
 | .jE _=>4
 | .gW _=>5
 | .jh _ _=>6
 | .iQ _ _=>7
 | .BK=>8
 | .mJ _=>9
 | .mi _ _=>10
 | .nk _=>11
 | .qh=>12
 | .iR _ _=>13
 | .ql _=>14
 | .ja=>15
 | .kY _ _=>16
def Rp.yes:Rp:=⟨Wd.zero,true⟩
abbrev LR:=Lo × RT
namespace RT
def iY (l:Lo) (s:Sp):Ac:=Ac.store 0 0 (79+l.me) (RS.wF s)
def leave (l:Lo) (start:Int):LR :=
 if l.bV∧l.s≠Sp.zero then ({l with s:=Sp.zero},.fin (iY l Sp.zero))
 else if l.bJ then
  match RS.first l.h start.toNat (9-start.toNat) with
  | some n=>(l.hold n Wd.zero,.jE n)
  | none=>(l,.idle Rp.yes)
 else (l,.idle Rp.yes)
def scan (l:Lo):LR :=
 if l.ak=1 then (l,.idle Rp.yes)
 else if l.ak=4 then (l,.qh)
 else (l,.iR Wd.zero [])
def dH (l:Lo):LR:=if l.notes.length≥l.most then scan l else (l,.idle Rp.yes)
def note (l:Lo) (old:Wd) (b d:Int):Lo:={l with notes:=l.notes ++ [⟨old.gI,b,d⟩]}
def fJ (l:Lo) (old:Wd):LR :=
 if l.ak=2 then dH (note l old 0 0)
 else if l.ak=4 then (l,.mi old 0)
 else if l.ak=3∨l.ak=5 then (l,.mJ old)
 else (l,.idle Rp.yes)
def begin (l:Lo) (c:Ca):LR :=
 if c.kind=1 then (if l.bV then (l,.rU) else (l,.idle Rp.yes))
 else if c.kind=2 then leave l 0
 else if c.kind=3 then (l,.one (Ac.load c.slot c.gen c.field))
 else if c.kind=4 then (l,.one ⟨2,c.slot,c.gen,c.field,c.old,c.new⟩)
 else if c.kind=5 then (l,.one ⟨3,c.slot,c.gen,c.field,c.old,c.new⟩)
 else if c.kind=6 then (l,.gW c)
 else if c.kind=7 then (if l.bJ∧l.h c.i.toNat≠l.h c.j.toNat then (l.hold c.i (l.h c.j.toNat),.fin (Ac.store 0 0 (25+l.me * 9+c.i) (l.h c.j.toNat))) else (l,.idle Rp.yes))
 else if c.kind=8 then (if l.bL then (l,.BK) else (l,.one ⟨4,0,0,0,Wd.zero,Wd.zero⟩))
 else if c.kind=9 then (l,.fin ⟨5,0,0,0,c.old,Wd.zero⟩)
 else if c.kind=10 then fJ l c.old
 else scan l
def bQ (l:Lo) (i now:Int):Prop :=
 if l.ak=3 then l.h i.toNat≠Wd.zero∧(l.h i.toNat).num=now
 else l.s.is=true∧l.s.high=now
instance (l:Lo) (i now:Int):Decidable (bQ l i now):=by unfold bQ;exact inferInstance
def kept (l:Lo) (clock:Wd) (seen:List Wd) (n:Nt):Bool :=
 if l.ak=2 then seen.any fun w=>RS.wG w n
 else if l.ak=3 then seen.any fun w=>RS.uR w.num n
 else if l.ak=5 then seen.any fun w=>RS.rM (RS.jL w) n
 else RS.pU clock.num n
def ed (l:Lo):List Nt→LR
 | []=>(l,.idle Rp.yes)
 | d :: r=>(l,.kY d r)
def gp (l:Lo) (clock:Wd) (seen:List Wd):LR:=ed l (l.notes.filter fun n=>!kept l clock seen n)
def bG (l:Lo):RT→Rp→LR
 | .idle x,_=>(l,.idle x)
 | .one _,x=>(l,.idle x)
 | .fin _,_=>(l,.idle Rp.yes)
 | .rU,x=>({l with s:=⟨true,x.word.num,x.word.num⟩},.fin (iY l ⟨true,x.word.num,x.word.num⟩))
 | .jE i,_=>leave l (i+1)
 | .gW c,x =>
  if l.bL then (l,.jh c x.word)
  else if l.ak=2∧x.word.slot≠0∧l.h c.i.toNat≠x.word.gI then (l.hold c.i x.word.gI,.iQ c (Ac.store 0 0 (25+l.me * 9+c.i) x.word.gI))
  else (l,.idle ⟨x.word,true⟩)
 | .jh c w,x =>
  if bQ l c.i x.word.num then (l,.idle ⟨w,true⟩)
  else if l.ak=3 then (l.hold c.i (Wd.eQ x.word.num),.iQ c (Ac.store 0 0 (25+l.me * 9+c.i) (Wd.eQ x.word.num)))
  else ({l with s:=⟨true,if l.s.is=true then l.s.low else x.word.num,x.word.num⟩},.iQ c (iY l ⟨true,if l.s.is=true then l.s.low else x.word.num,x.word.num⟩))
 | .iQ c _,_=>(l,.gW c)
 | .BK,x=>(l,.one ⟨4,0,0,0,Wd.zero,Wd.eQ x.word.num⟩)
 | .mJ old,x=>(l,.mi old x.word.num)
 | .mi old b,x=>if l.bL then (note l old b x.word.num,.nk x.word) else dH (note l old b x.word.num)
 | .nk _,_=>dH l
 | .qh,x=>(l,.iR x.word [])
 | .iR clock seen,x =>
  if (seen.length:Int)+1<l.all then (l,.iR clock (seen ++ [x.word]))
  else if l.ak≠4 then gp l clock (seen ++ [x.word])
  else if RS.may clock.num ((seen ++ [x.word]).map RS.jL)=true then (l,.ql clock)
  else (l,.ja)
 | .ql _,_=>(l,.ja)
 | .ja,x=>gp l x.word []
 | .kY d r,_=>ed {l with notes:=l.notes.erase d,freed:=l.freed+1} r
end RT
structure gZ (l:Lo) (t:RT) (r:RS):Prop where
 ak:r.ak=l.ak
 me:r.me=l.me
 threads:r.threads=l.threads
 most:r.most=l.most
 holds:r.holds=l.h
 span:r.span=l.s
 notes:r.notes=l.notes
 freed:r.freed=l.freed
 step:r.step=t.eH
 acc:t.eH≠0→r.acc=t.acc l
 more:match t with
  | .idle x=>r.bK=x
  | .jE i=>r.index=i
  | .gW c=>r.call=c
  | .jh c w=>r.call=c∧r.word=w
  | .iQ c _=>r.call=c
  | .mJ old=>r.call.old=old∧r.seen=[]
  | .mi old b=>r.call.old=old∧r.word.num=b∧r.seen=[]
  | .nk _=>r.seen=[]
  | .qh=>r.seen=[]
  | .iR clock seen=>(l.ak=4→r.clock=clock)∧r.seen=seen∧r.index=seen.length
  | .kY d rest=>r.bI=d :: rest
  | _=>True
structure Lo.OK (l:Lo):Prop where
 ak:1≤l.ak∧l.ak≤5
 me:0≤l.me∧l.me<l.threads
 threads:1≤l.threads∧l.threads≤6
 most:1≤l.most
section
variable {l:Lo} {r:RS}
theorem gZ.bJ {t:RT} (h:gZ l t r):r.bJ↔l.bJ:=by simp only [RS.bJ,Lo.bJ,h.ak]
theorem gZ.bL {t:RT} (h:gZ l t r):r.bL↔l.bL:=by simp only [RS.bL,Lo.bL,h.ak]
theorem gZ.bV {t:RT} (h:gZ l t r):r.bV↔l.bV:=by simp only [RS.bV,Lo.bV,h.ak]
end
structure bU (l:Lo) (r:RS):Prop where
 ak:r.ak=l.ak
 me:r.me=l.me
 threads:r.threads=l.threads
 most:r.most=l.most
 holds:r.holds=l.h
 span:r.span=l.s
 notes:r.notes=l.notes
 freed:r.freed=l.freed
theorem gZ.keeps {l:Lo} {t:RT} {r:RS} (h:gZ l t r):bU l r:=⟨h.ak,h.me,h.threads,h.most,h.holds,h.span,h.notes,h.freed⟩
section
variable {l:Lo} {r:RS}
theorem bU.bJ (h:bU l r):r.bJ↔l.bJ:=by simp only [RS.bJ,Lo.bJ,h.ak]
theorem bU.bL (h:bU l r):r.bL↔l.bL:=by simp only [RS.bL,Lo.bL,h.ak]
theorem bU.bV (h:bU l r):r.bV↔l.bV:=by simp only [RS.bV,Lo.bV,h.ak]
theorem bU.fin (h:bU l r) (x:Rp):gZ l (.idle x) (r.finish x) :=
 ⟨h.ak,h.me,h.threads,h.most,h.holds,h.span,h.notes,h.freed,rfl,fun h=>absurd rfl h,rfl⟩
theorem bU.done (h:bU l r):gZ l (.idle Rp.yes) r.done:=h.fin _
theorem bU.ask (h:bU l r) {t:RT} {a:Ac} (h0:t.eH≠0) (ha:a=t.acc l) (hm:match t with
    | .idle x=>r.bK=x
    | .jE i=>r.index=i
    | .gW c=>r.call=c
    | .jh c w=>r.call=c∧r.word=w
    | .iQ c _=>r.call=c
    | .mJ old=>r.call.old=old∧r.seen=[]
    | .mi old b=>r.call.old=old∧r.word.num=b∧r.seen=[]
    | .nk _=>r.seen=[]
    | .qh=>r.seen=[]
    | .iR clock seen=>(l.ak=4→r.clock=clock)∧r.seen=seen∧r.index=seen.length
    | .kY d rest=>r.bI=d :: rest
    | _=>True):gZ l t (r.ask t.eH a):=by
 refine ⟨h.ak,h.me,h.threads,h.most,h.holds,h.span,h.notes,h.freed,rfl,fun _=>ha,?_⟩
 cases t <;> exact hm
theorem bU.hold (h:bU l r) (n:Int) (w:Wd):bU (l.hold n w) (r.hold n w) :=
 ⟨h.ak,h.me,h.threads,h.most,by simp only [RS.hold,Lo.hold,h.holds],h.span,h.notes,h.freed⟩
theorem bU.leave (h:bU l r) (n:Int):gZ (RT.leave l n).1 (RT.leave l n).2 (r.leave n):=by
 have c1:(r.bV∧r.span≠Sp.zero)↔(l.bV∧l.s≠Sp.zero):=by rw [h.bV,h.span]
 unfold RS.leave RT.leave
 by_cases hA:l.bV∧l.s≠Sp.zero
 ·rw [if_pos (c1.2 hA),if_pos hA]
  refine bU.ask (l:={l with s:=Sp.zero}) (r:={r with span:=Sp.zero}) (t:=.fin (RT.iY l Sp.zero)) ⟨h.ak,h.me,h.threads,h.most,h.holds,rfl,h.notes,h.freed⟩ (show (2:Int)≠0 by decide) ?_ trivial
  show (⟨2,0,0,79+r.me,Wd.zero,RS.wF Sp.zero⟩:Ac)=_
  rw [h.me];rfl
 ·rw [if_neg (fun x=>hA (c1.1 x)),if_neg hA]
  by_cases hB:l.bJ
  ·rw [if_pos (h.bJ.2 hB),if_pos hB]
   have e:RS.first r.holds n.toNat (9-n.toNat)=RS.first l.h n.toNat (9-n.toNat):=by rw [h.holds]
   rw [e]
   cases RS.first l.h n.toNat (9-n.toNat) with
   | some k =>
    refine bU.ask (l:=l.hold k Wd.zero) (r:=({r with index:=k}:RS).hold k Wd.zero) (t:=.jE k) (bU.hold (r:={r with index:=k}) ⟨h.ak,h.me,h.threads,h.most,h.holds,h.span,h.notes,h.freed⟩ _ _) (show (4:Int)≠0 by decide) ?_ rfl
    show (⟨2,0,0,25+r.me * 9+k,Wd.zero,Wd.zero⟩:Ac)=_
    rw [h.me];rfl
   | none=>exact h.done
  ·rw [if_neg (fun x=>hB (h.bJ.1 x)),if_neg hB]
   exact h.done
theorem bU.look (h:bU l r) (n:Int) {clock:Wd} {seen:List Wd} (hn:n=seen.length) (hc:l.ak=4→r.clock=clock) (hs:r.seen=seen) :
  if n<l.all then ∃q,r.look n=some q∧gZ l (.iR clock seen) q else r.look n=none:=by
 unfold RS.look Lo.all
 by_cases hB:l.bJ
 ·rw [if_pos hB,if_pos (h.bJ.2 hB)]
  have ht:=h.threads
  by_cases hn':n<l.threads * 9
  ·rw [if_pos hn',if_neg (by omega)]
   refine ⟨_,rfl,⟨h.ak,h.me,h.threads,h.most,h.holds,h.span,h.notes,h.freed,rfl,fun _=>?_,hc,hs,hn⟩⟩
   show (⟨1,0,0,25+n,Wd.zero,Wd.zero⟩:Ac)=Ac.load 0 0 (l.base+seen.length)
   rw [hn,Lo.base,if_pos hB];rfl
  ·rw [if_neg hn',if_pos (by omega)]
 ·rw [if_neg hB,if_neg (fun x=>hB (h.bJ.1 x))]
  have ht:=h.threads
  by_cases hn':n<l.threads
  ·rw [if_pos hn',if_neg (by omega)]
   refine ⟨_,rfl,⟨h.ak,h.me,h.threads,h.most,h.holds,h.span,h.notes,h.freed,rfl,fun _=>?_,hc,hs,hn⟩⟩
   show (⟨1,0,0,79+n,Wd.zero,Wd.zero⟩:Ac)=Ac.load 0 0 (l.base+seen.length)
   rw [hn,Lo.base,if_neg hB];rfl
  ·rw [if_neg hn',if_pos (by omega)]
theorem Lo.OK.all {l:Lo} (h:l.OK):0<l.all:=by
 have:=h.threads
 unfold Lo.all
 split <;> omega
theorem bU.Uv (h:bU l r) (ho:l.OK) {clock:Wd} (hc:l.ak=4→r.clock=clock) (hs:r.seen=[]):gZ l (.iR clock []) ((r.look 0).getD r):=by
 have:=h.look 0 (clock:=clock) (seen:=[]) rfl hc hs
 rw [if_pos ho.all] at this
 obtain ⟨q,h1,h2⟩:=this
 rw [h1]
 exact h2
theorem bU.scan (h:bU l r) (ho:l.OK) (hs:r.seen=[]):gZ (RT.scan l).1 (RT.scan l).2 r.scan:=by
 unfold RS.scan RT.scan
 rw [h.ak]
 by_cases h1:l.ak=1
 ·rw [if_pos h1,if_pos h1];exact h.done
 ·rw [if_neg h1,if_neg h1]
  by_cases h4:l.ak=4
  ·rw [if_pos h4,if_pos h4]
   exact h.ask (t:=.qh) (show (12:Int)≠0 by decide) rfl hs
  ·rw [if_neg h4,if_neg h4]
   exact h.Uv ho (fun h=>absurd h h4) hs
theorem bU.dH (h:bU l r) (ho:l.OK) (hs:r.seen=[]):gZ (RT.dH l).1 (RT.dH l).2 r.dH:=by
 unfold RS.dH RT.dH
 rw [h.notes,h.most]
 split
 ·exact h.scan ho hs
 ·exact h.done
theorem bU.note (h:bU l r) (b d:Int):bU (RT.note l r.call.old b d) (r.note b d) :=
 ⟨h.ak,h.me,h.threads,h.most,h.holds,h.span,by simp only [RS.note,RT.note,h.notes],h.freed⟩
theorem Lo.OK.note {l:Lo} (h:l.OK) (w:Wd) (b d:Int):(RT.note l w b d).OK:=⟨h.ak,h.me,h.threads,h.most⟩
theorem bU.fJ (h:bU l r) (ho:l.OK) (hs:r.seen=[]) (hw:r.word.num=0):gZ (RT.fJ l r.call.old).1 (RT.fJ l r.call.old).2 r.fJ:=by
 unfold RS.fJ RT.fJ
 rw [h.ak]
 by_cases h2:l.ak=2
 ·rw [if_pos h2,if_pos h2]
  exact (h.note 0 0).dH (ho.note _ _ _) hs
 rw [if_neg h2,if_neg h2]
 by_cases h4:l.ak=4
 ·rw [if_pos h4,if_pos h4]
  exact h.ask (t:=.mi r.call.old 0) (show (10:Int)≠0 by decide) rfl ⟨rfl,hw,hs⟩
 rw [if_neg h4,if_neg h4]
 by_cases Uw:l.ak=3∨l.ak=5
 ·rw [if_pos Uw,if_pos Uw]
  exact h.ask (t:=.mJ r.call.old) (show (9:Int)≠0 by decide) rfl ⟨rfl,hs⟩
 rw [if_neg Uw,if_neg Uw]
 exact h.done
def Ca.OK (c:Ca):Prop:=1≤c.kind∧c.kind≤11∧0≤c.i∧c.i<9∧0≤c.j∧c.j<9
theorem bU.opened (h:bU l r) (ho:l.OK) (hs:r.seen=[]) (hw:r.word.num=0) (hc:r.call.OK):gZ (RT.begin l r.call).1 (RT.begin l r.call).2 r.opened:=by
 unfold RS.opened RT.begin
 simp only
 by_cases k1:r.call.kind=1
 ·rw [if_pos k1,if_pos k1]
  by_cases g:l.bV
  ·rw [if_pos g,if_pos (h.bV.2 g)]
   exact h.ask (t:=.rU) (show (3:Int)≠0 by decide) rfl trivial
  ·rw [if_neg g,if_neg (fun x=>g (h.bV.1 x))]
   exact h.done
 rw [if_neg k1,if_neg k1]
 by_cases k2:r.call.kind=2
 ·rw [if_pos k2,if_pos k2]
  exact h.leave 0
 rw [if_neg k2,if_neg k2]
 by_cases k3:r.call.kind=3
 ·rw [if_pos k3,if_pos k3]
  exact h.ask (t:=.one (Ac.load r.call.slot r.call.gen r.call.field)) (show (1:Int)≠0 by decide) rfl trivial
 rw [if_neg k3,if_neg k3]
 by_cases k4:r.call.kind=4
 ·rw [if_pos k4,if_pos k4]
  exact h.ask (t:=.one ⟨2,r.call.slot,r.call.gen,r.call.field,r.call.old,r.call.new⟩) (show (1:Int)≠0 by decide) rfl trivial
 rw [if_neg k4,if_neg k4]
 by_cases k5:r.call.kind=5
 ·rw [if_pos k5,if_pos k5]
  exact h.ask (t:=.one ⟨3,r.call.slot,r.call.gen,r.call.field,r.call.old,r.call.new⟩) (show (1:Int)≠0 by decide) rfl trivial
 rw [if_neg k5,if_neg k5]
 by_cases k6:r.call.kind=6
 ·rw [if_pos k6,if_pos k6]
  exact h.ask (t:=.gW r.call) (show (5:Int)≠0 by decide) rfl rfl
 rw [if_neg k6,if_neg k6]
 by_cases k7:r.call.kind=7
 ·rw [if_pos k7,if_pos k7]
  have e:(r.bJ∧r.holds r.call.i.toNat≠r.holds r.call.j.toNat)↔(l.bJ∧l.h r.call.i.toNat≠l.h r.call.j.toNat):=by rw [h.bJ,h.holds]
  by_cases g:l.bJ∧l.h r.call.i.toNat≠l.h r.call.j.toNat
  ·rw [if_pos g,if_pos (e.2 g)]
   have h':=h.hold r.call.i (l.h r.call.j.toNat)
   have e2:r.post 2 r.call.i (r.holds r.call.j.toNat)=(r.hold r.call.i (l.h r.call.j.toNat)).ask 2 ⟨2,0,0,25+l.me * 9+r.call.i,Wd.zero,l.h r.call.j.toNat⟩:=by
    unfold RS.post
    rw [h.holds,h.me]
   rw [e2]
   exact h'.ask (t:=.fin (Ac.store 0 0 (25+l.me * 9+r.call.i) (l.h r.call.j.toNat))) (show (2:Int)≠0 by decide) rfl trivial
  ·rw [if_neg g,if_neg (fun x=>g (e.1 x))]
   exact h.done
 rw [if_neg k7,if_neg k7]
 by_cases k8:r.call.kind=8
 ·rw [if_pos k8,if_pos k8]
  by_cases g:l.bL
  ·rw [if_pos g,if_pos (h.bL.2 g)]
   exact h.ask (t:=.BK) (show (8:Int)≠0 by decide) rfl trivial
  ·rw [if_neg g,if_neg (fun x=>g (h.bL.1 x))]
   exact h.ask (t:=.one ⟨4,0,0,0,Wd.zero,Wd.zero⟩) (show (1:Int)≠0 by decide) rfl trivial
 rw [if_neg k8,if_neg k8]
 by_cases k9:r.call.kind=9
 ·rw [if_pos k9,if_pos k9]
  exact h.ask (t:=.fin ⟨5,0,0,0,r.call.old,Wd.zero⟩) (show (2:Int)≠0 by decide) rfl trivial
 rw [if_neg k9,if_neg k9]
 by_cases k10:r.call.kind=10
 ·rw [if_pos k10,if_pos k10]
  exact h.fJ ho hs hw
 rw [if_neg k10,if_neg k10,if_pos (by have:=hc.1;have:=hc.2.1;omega)]
 exact h.scan ho hs
theorem gZ.begin {x:Rp} (h:gZ l (.idle x) r) (ho:l.OK) {c:Ca} (hc:c.OK):gZ (RT.begin l c).1 (RT.begin l c).2 (r.begin c).1∧(r.begin c).2=true:=by
 have hs:r.step=0:=h.step
 unfold RS.begin
 obtain ⟨c1,c2,c3,c4,c5,c6⟩:=hc
 rw [if_neg (by omega),if_neg (by omega),if_neg (by omega)]
 exact ⟨bU.opened (r:={r with call:=c,step:=0,acc:=Ac.zero,word:=Wd.zero,clock:=Wd.zero,index:=0,seen:=[],bI:=[]}) ⟨h.ak,h.me,h.threads,h.most,h.holds,h.span,h.notes,h.freed⟩ ho rfl rfl ⟨c1,c2,c3,c4,c5,c6⟩,rfl⟩
theorem bU.dW (h:bU l r) (s:Sp) {t:RT} (ht:t=.fin (RT.iY l s)∨∃c,t=.iQ c (RT.iY l s)∧r.call=c):gZ {l with s:=s} t (r.dW t.eH s):=by
 have h':bU {l with s:=s} {r with span:=s}:=⟨h.ak,h.me,h.threads,h.most,h.holds,rfl,h.notes,h.freed⟩
 have e:(⟨2,0,0,79+r.me,Wd.zero,RS.wF s⟩:Ac)=RT.iY l s:=by rw [h.me];rfl
 unfold RS.dW
 rw [e]
 rcases ht with rfl | ⟨c,rfl,hc⟩
 ·exact h'.ask (t:=.fin (RT.iY l s)) (show (2:Int)≠0 by decide) rfl trivial
 ·exact h'.ask (t:=.iQ c (RT.iY l s)) (show (7:Int)≠0 by decide) rfl hc
theorem bU.ed (h:bU l r):gZ (RT.ed l r.bI).1 (RT.ed l r.bI).2 r.ed:=by
 unfold RS.ed RT.ed
 cases hd:r.bI with
 | nil=>exact h.done
 | cons d q=>exact h.ask (t:=.kY d q) (show (16:Int)≠0 by decide) rfl hd
theorem bU.gp (h:bU l r) (ho:l.OK) (h1:l.ak≠1) {clock:Wd} {seen:List Wd} (hc:l.ak=4→r.clock=clock) (hs:r.seen=seen∨l.ak=4):gZ (RT.gp l clock seen).1 (RT.gp l clock seen).2 r.gp:=by
 have ho1:=ho.ak
 unfold RS.gp RT.gp
 rw [if_pos (by rw [h.ak];omega)]
 have e:(r.notes.filter fun n=>!r.kept n)=l.notes.filter fun n=>!RT.kept l clock seen n:=by
  rw [h.notes]
  congr 1
  funext n
  congr 1
  unfold RS.kept RT.kept
  rw [h.ak]
  split
  ·rename_i e;rcases hs with hs | hs
   ·rw [hs]
   ·omega
  split
  ·rcases hs with hs | hs
   ·rw [hs]
   ·omega
  split
  ·rcases hs with hs | hs
   ·rw [hs]
   ·omega
  rw [if_pos (by omega),hc (by omega)]
 have:=bU.ed (l:=l) (r:={r with bI:=r.notes.filter fun n=>!r.kept n}) ⟨h.ak,h.me,h.threads,h.most,h.holds,h.span,h.notes,h.freed⟩
 rw [e] at this
 rw [e]
 exact this
def RT.fits (l:Lo):RT→Prop
 | .jh _ _=>l.bL
 | .qh | .ql _ | .ja=>l.ak=4
 | .iR _ _=>l.ak≠1
 | .gW c | .iQ c _=>0≤c.i∧c.i<9
 | _=>True
theorem gZ.bG {t:RT} (h:gZ l t r) (ho:l.OK) (hf:t.fits l) (h0:t.eH≠0) (x:Rp):gZ (RT.bG l t x).1 (RT.bG l t x).2 (r.bG x).1∧(r.bG x).2=true:=by
 have hk:=h.keeps
 have hs:=h.step
 have hm:=h.more
 unfold RS.bG
 cases t with
 | idle y=>exact absurd rfl h0
 | one a =>
  replace hs:r.step=1:=hs
  rw [if_neg (by omega),if_pos hs]
  exact ⟨hk.fin x,rfl⟩
 | fin a =>
  replace hs:r.step=2:=hs
  rw [if_neg (by omega),if_neg (by omega),if_pos hs]
  exact ⟨hk.done,rfl⟩
 | rU =>
  replace hs:r.step=3:=hs
  rw [if_neg (by omega),if_neg (by omega),if_neg (by omega),if_pos hs]
  exact ⟨hk.dW _ (t:=.fin _) (.inl rfl),rfl⟩
 | jE i =>
  replace hs:r.step=4:=hs
  replace hm:r.index=i:=hm
  rw [if_neg (by omega),if_neg (by omega),if_neg (by omega),if_neg (by omega),if_pos hs,hm]
  exact ⟨hk.leave _,rfl⟩
 | BK =>
  replace hs:r.step=8:=hs
  rw [if_neg (by omega),if_neg (by omega),if_neg (by omega),if_neg (by omega),if_neg (by omega),if_pos hs]
  exact ⟨hk.ask (t:=.one _) (show (1:Int)≠0 by decide) rfl trivial,rfl⟩
 | iQ c a =>
  replace hs:r.step=7:=hs
  replace hm:r.call=c:=hm
  subst hm
  rw [if_neg (by omega),if_neg (by omega),if_neg (by omega),if_neg (by omega),if_neg (by omega),if_neg (by omega),if_pos (by omega)]
  refine ⟨?_,rfl⟩
  unfold RS.bA
  simp only
  rw [if_pos hs]
  exact hk.ask (t:=.gW r.call) (show (5:Int)≠0 by decide) rfl rfl
 | gW c =>
  replace hs:r.step=5:=hs
  replace hm:r.call=c:=hm
  subst hm
  rw [if_neg (by omega),if_neg (by omega),if_neg (by omega),if_neg (by omega),if_neg (by omega),if_neg (by omega),if_pos (by omega)]
  refine ⟨?_,rfl⟩
  have hk':bU l {r with word:=x.word}:=⟨h.ak,h.me,h.threads,h.most,h.holds,h.span,h.notes,h.freed⟩
  unfold RS.bA
  simp only
  rw [if_neg (by omega),if_pos hs]
  show gZ (if l.bL then _ else _:LR).1 (if l.bL then _ else _:LR).2 _
  by_cases hd:l.bL
  ·rw [if_pos (h.bL.2 hd),if_pos hd]
   exact hk'.ask (t:=.jh r.call x.word) (show (6:Int)≠0 by decide) rfl ⟨rfl,rfl⟩
  rw [if_neg (fun y=>hd (h.bL.1 y)),if_neg hd]
  have e:(r.ak=2∧x.word.slot≠0∧r.holds r.call.i.toNat≠x.word.gI)↔(l.ak=2∧x.word.slot≠0∧l.h r.call.i.toNat≠x.word.gI):=by rw [h.ak,h.holds]
  by_cases g:l.ak=2∧x.word.slot≠0∧l.h r.call.i.toNat≠x.word.gI
  ·rw [if_pos (e.2 g),if_pos g]
   have e2:({r with word:=x.word}:RS).post 7 r.call.i x.word.gI=(({r with word:=x.word}:RS).hold r.call.i x.word.gI).ask 7 (Ac.store 0 0 (25+l.me * 9+r.call.i) x.word.gI):=by
    unfold RS.post
    rw [show ({r with word:=x.word}:RS).me=l.me from h.me]
    rfl
   rw [e2]
   exact (hk'.hold r.call.i x.word.gI).ask (t:=.iQ r.call (Ac.store 0 0 (25+l.me * 9+r.call.i) x.word.gI)) (show (7:Int)≠0 by decide) rfl rfl
  ·rw [if_neg (fun y=>g (e.1 y)),if_neg g]
   exact hk'.fin _
 | jh c w =>
  replace hs:r.step=6:=hs
  obtain ⟨hm,hw⟩:r.call=c∧r.word=w:=hm
  subst hm hw
  rw [if_neg (by omega),if_neg (by omega),if_neg (by omega),if_neg (by omega),if_neg (by omega),if_neg (by omega),if_pos (by omega)]
  refine ⟨?_,rfl⟩
  unfold RS.bA
  simp only
  rw [if_neg (by omega),if_neg (by omega),if_pos hs]
  show gZ (if RT.bQ l r.call.i x.word.num then _ else _:LR).1 (if RT.bQ l r.call.i x.word.num then _ else _:LR).2 _
  have e:r.bQ r.call.i x.word.num↔RT.bQ l r.call.i x.word.num:=by unfold RS.bQ RT.bQ;rw [h.ak,h.holds,h.span]
  by_cases g:RT.bQ l r.call.i x.word.num
  ·rw [if_pos (e.2 g),if_pos g]
   exact hk.fin _
  rw [if_neg (fun y=>g (e.1 y)),if_neg g,h.ak]
  by_cases g3:l.ak=3
  ·rw [if_pos g3,if_pos g3]
   have e2:r.post 7 r.call.i (Wd.eQ x.word.num)=(r.hold r.call.i (Wd.eQ x.word.num)).ask 7 (Ac.store 0 0 (25+l.me * 9+r.call.i) (Wd.eQ x.word.num)):=by
    unfold RS.post
    rw [h.me]
    rfl
   rw [e2]
   exact (hk.hold r.call.i _).ask (t:=.iQ r.call (Ac.store 0 0 (25+l.me * 9+r.call.i) (Wd.eQ x.word.num))) (show (7:Int)≠0 by decide) rfl rfl
  ·rw [if_neg g3,if_neg g3,h.span]
   exact hk.dW _ (t:=.iQ r.call _) (.inr ⟨_,rfl,rfl⟩)
 | mJ old =>
  replace hs:r.step=9:=hs
  obtain ⟨h1,h2⟩:r.call.old=old∧r.seen=[]:=hm
  rw [if_neg (by omega),if_neg (by omega),if_neg (by omega),if_neg (by omega),if_neg (by omega),if_neg (by omega),if_neg (by omega),if_pos (by omega)]
  refine ⟨?_,rfl⟩
  unfold RS.dU
  rw [if_pos hs]
  have hk':bU l {r with word:=x.word}:=⟨h.ak,h.me,h.threads,h.most,h.holds,h.span,h.notes,h.freed⟩
  exact hk'.ask (t:=.mi old x.word.num) (show (10:Int)≠0 by decide) rfl ⟨h1,rfl,h2⟩
 | mi old b =>
  replace hs:r.step=10:=hs
  obtain ⟨h1,h2,h3⟩:r.call.old=old∧r.word.num=b∧r.seen=[]:=hm
  rw [if_neg (by omega),if_neg (by omega),if_neg (by omega),if_neg (by omega),if_neg (by omega),if_neg (by omega),if_neg (by omega),if_pos (by omega)]
  refine ⟨?_,rfl⟩
  unfold RS.dU
  simp only
  rw [if_neg (by omega),if_pos hs,h2]
  show gZ (if l.bL then _ else _:LR).1 (if l.bL then _ else _:LR).2 _
  have hk':bU l {r with clock:=x.word}:=⟨h.ak,h.me,h.threads,h.most,h.holds,h.span,h.notes,h.freed⟩
  have hk2:=hk'.note b x.word.num
  rw [show ({r with clock:=x.word}:RS).call.old=old from h1] at hk2
  by_cases hd:l.bL
  ·rw [if_pos (h.bL.2 hd),if_pos hd]
   exact hk2.ask (t:=.nk x.word) (show (11:Int)≠0 by decide) rfl h3
  ·rw [if_neg (fun y=>hd (h.bL.1 y)),if_neg hd]
   exact hk2.dH (ho.note _ _ _) h3
 | nk clock =>
  replace hs:r.step=11:=hs
  replace hm:r.seen=[]:=hm
  rw [if_neg (by omega),if_neg (by omega),if_neg (by omega),if_neg (by omega),if_neg (by omega),if_neg (by omega),if_neg (by omega),if_pos (by omega)]
  refine ⟨?_,rfl⟩
  unfold RS.dU
  rw [if_neg (by omega),if_neg (by omega),if_pos hs]
  exact hk.dH ho hm
 | qh =>
  replace hs:r.step=12:=hs
  replace hm:r.seen=[]:=hm
  rw [if_neg (by omega),if_neg (by omega),if_neg (by omega),if_neg (by omega),if_neg (by omega),if_neg (by omega),if_neg (by omega),if_neg (by omega)]
  refine ⟨?_,rfl⟩
  unfold RS.bM
  rw [if_pos hs]
  have hk':bU l {r with clock:=x.word}:=⟨h.ak,h.me,h.threads,h.most,h.holds,h.span,h.notes,h.freed⟩
  exact hk'.Uv ho (fun _=>rfl) hm
 | iR clock seen =>
  replace hs:r.step=13:=hs
  obtain ⟨h1,h2,h3⟩:(l.ak=4→r.clock=clock)∧r.seen=seen∧r.index=seen.length:=hm
  subst h2
  replace hf:l.ak≠1:=hf
  rw [if_neg (by omega),if_neg (by omega),if_neg (by omega),if_neg (by omega),if_neg (by omega),if_neg (by omega),if_neg (by omega),if_neg (by omega)]
  refine ⟨?_,rfl⟩
  unfold RS.bM
  simp only
  rw [if_neg (by omega),if_pos hs]
  show gZ (if (r.seen.length:Int)+1<l.all then _ else _:LR).1 (if (r.seen.length:Int)+1<l.all then _ else _:LR).2 _
  have hk':bU l {r with seen:=r.seen ++ [x.word]}:=⟨h.ak,h.me,h.threads,h.most,h.holds,h.span,h.notes,h.freed⟩
  have hl:=hk'.look (r.index+1) (clock:=clock) (seen:=r.seen ++ [x.word]) (by rw [h3];simp) h1 rfl
  by_cases g:(r.seen.length:Int)+1<l.all
  ·rw [if_pos (by omega)] at hl
   obtain ⟨q,e1,e2⟩:=hl
   rw [e1,if_pos g]
   exact e2
  ·rw [if_neg (by omega)] at hl
   rw [hl,if_neg g]
   simp only
   by_cases g4:l.ak=4
   ·have g4':r.ak=4:=h.ak.trans g4
    obtain rfl:=h1 g4
    rw [if_neg (show ¬l.ak≠4 from fun y=>y g4),if_neg (show ¬r.ak≠4 from fun y=>y g4')]
    by_cases gm:RS.may r.clock.num ((r.seen ++ [x.word]).map RS.jL)=true
    ·rw [if_pos gm,if_pos gm]
     exact hk'.ask (t:=.ql r.clock) (show (14:Int)≠0 by decide) rfl trivial
    ·rw [if_neg gm,if_neg gm]
     exact hk'.ask (t:=.ja) (show (15:Int)≠0 by decide) rfl trivial
   ·rw [if_pos (show l.ak≠4 from g4),if_pos (show r.ak≠4 from fun y=>g4 (h.ak.symm.trans y))]
    exact hk'.gp ho hf h1 (.inl rfl)
 | ql clock =>
  replace hs:r.step=14:=hs
  rw [if_neg (by omega),if_neg (by omega),if_neg (by omega),if_neg (by omega),if_neg (by omega),if_neg (by omega),if_neg (by omega),if_neg (by omega)]
  refine ⟨?_,rfl⟩
  unfold RS.bM
  rw [if_neg (by omega),if_neg (by omega),if_pos hs]
  exact hk.ask (t:=.ja) (show (15:Int)≠0 by decide) rfl trivial
 | ja =>
  replace hs:r.step=15:=hs
  replace hf:l.ak=4:=hf
  rw [if_neg (by omega),if_neg (by omega),if_neg (by omega),if_neg (by omega),if_neg (by omega),if_neg (by omega),if_neg (by omega),if_neg (by omega)]
  refine ⟨?_,rfl⟩
  unfold RS.bM
  rw [if_neg (by omega),if_neg (by omega),if_neg (by omega),if_pos hs]
  have hk':bU l {r with clock:=x.word}:=⟨h.ak,h.me,h.threads,h.most,h.holds,h.span,h.notes,h.freed⟩
  exact hk'.gp ho (by omega) (fun _=>rfl) (.inr hf)
 | kY d rest =>
  replace hs:r.step=16:=hs
  replace hm:r.bI=d :: rest:=hm
  rw [if_neg (by omega),if_neg (by omega),if_neg (by omega),if_neg (by omega),if_neg (by omega),if_neg (by omega),if_neg (by omega),if_neg (by omega)]
  refine ⟨?_,rfl⟩
  unfold RS.bM
  simp only
  rw [if_neg (by omega),if_neg (by omega),if_neg (by omega),if_neg (by omega),if_pos hs,hm]
  have hk':bU {l with notes:=l.notes.erase d,freed:=l.freed+1} {r with notes:=r.notes.erase d,freed:=r.freed+1,bI:=rest}:=⟨h.ak,h.me,h.threads,h.most,h.holds,h.span,by simp only [h.notes],by simp only [h.freed]⟩
  exact hk'.ed
theorem gZ.new {e me th mo:Int}:gZ ⟨e,me,th,mo,fun _=>Wd.zero,Sp.zero,[],0⟩ (.idle ⟨Wd.zero,false⟩) (RS.new e me th mo) :=
 ⟨rfl,rfl,rfl,rfl,rfl,rfl,rfl,rfl,rfl,fun h=>absurd rfl h,rfl⟩
end
end Go.Proofs.YthomdlajobnmnaaGreatDoor
namespace Go.Proofs.YthomdlajobnmnaaGreatDoor
open Go.Rex
def G8:mf:=[(kM,zW,BI)]
theorem Sw:∀k pre post,(k,pre,post)∈G8→jy k=true∧aY Tryz.prog k pre post:=by
 intro k pre post h
 simp only [G8,List.mem_cons,List.not_mem_nil,or_false,Prod.mk.injEq] at h
 obtain ⟨rfl,rfl,rfl⟩:=h
 exact ⟨by kernel_rfl,Su⟩
def Y3:Kn:=[(.aB (.var 22) (.lit 0),true),(.bR (.var 71) (.lit 1),false),(.bR (.lit 11) (.var 71),false),(.bR (.var 85) (.lit 0),false),(.aA (.lit 9) (.var 85),false),(.bR (.var 86) (.lit 0),false),(.aA (.lit 9) (.var 86),false)]
noncomputable def PZ:Ex:={sched:=sched,loops:=[],cons:=[kM],fin:=j6}
def BL:Out :=
 .br (.or (.aB (.var 71) (.lit 6)) (.aB (.var 71) (.lit 7)))
 (.call 0 {lo:=0,az:=0,iv:=yr 65 65 7<|yo [(57,yv 57),(56,yv 56)]<|yr 3 3 4<|yo [(53,.lit 0),(52,.lit 0),(50,.lit 0),(49,.lit 0),(47,.lit 0),(45,.lit 0),(44,.lit 0),(43,.lit 0),(42,.lit 0),(40,.lit 0),(39,.lit 0),(38,.lit 0),(37,.lit 0),(35,.lit 0),(34,.lit 0),(33,.lit 0),(32,.lit 0),(30,.lit 0),(29,.lit 0),(28,.lit 0),(27,.lit 0),(26,.lit 0),(25,.lit 0),(24,.lit 0),(23,.lit 0),(22,.lit 0)]<|yr 21 88 4<|yr 16 83 4<|yr 11 78 8 [],bv:=[(67,yw 67),(66,yw 66),(58,yw 58),(55,yw 55),(51,.lit true),(48,.lit true),(46,.lit false),(41,.lit false),(36,.lit false),(31,.lit false),(17,yw 84),(12,yw 79)],ct:=[(70,yu 70 59 7 yN 0),(54,yl 54 9 5 50 yW 0)],bk:=[(3,yc 3 7),(0,yb 0)],nb:=[2,1,2,1]} 89 <|
  .fin {lo:=89,az:=4,iv:=yo [(155,yv 155)]<|yr 150 150 7<|yo [(142,yv 142),(141,yv 141),(138,yv 138),(137,yv 137),(154,yv 154),(135,yv 135),(134,yv 134),(132,yv 132)]<|yr 130 130 4<|yr 125 125 4<|yr 120 120 4<|yr 115 115 13<|yr 101 101 4<|yr 96 96 8 [],bv:=[(152,yw 152),(151,yw 151),(143,yw 143),(140,yw 140),(136,yw 136),(133,yw 133),(131,yw 131),(126,yw 126),(121,yw 121),(116,yw 116),(102,yw 102),(97,yw 97)],ct:=[(155,yu 155 144 7 yN 0),(154,yu 154 155 7 yN 0),(153,yu 153 134 5 yW 0),(139,yl 139 9 5 50 yW 0)],bk:=[(6,yc 7 7),(5,yc 6 7),(4,yc 5 5)]})
 (.call 0 {lo:=0,az:=0,iv:=yr 65 65 7<|yo [(57,yv 57),(56,yv 56)]<|yr 3 3 4<|yo [(53,.lit 0),(52,.lit 0),(50,.lit 0),(49,.lit 0),(47,.lit 0),(45,.lit 0),(44,.lit 0),(43,.lit 0),(42,.lit 0),(40,.lit 0),(39,.lit 0),(38,.lit 0),(37,.lit 0),(35,.lit 0),(34,.lit 0),(33,.lit 0),(32,.lit 0),(30,.lit 0),(29,.lit 0),(28,.lit 0),(27,.lit 0),(26,.lit 0),(25,.lit 0),(24,.lit 0),(23,.lit 0),(22,.lit 0)]<|yr 21 88 4<|yr 16 83 4<|yr 11 78 8 [],bv:=[(67,yw 67),(66,yw 66),(58,yw 58),(55,yw 55),(51,.lit true),(48,.lit true),(46,.lit false),(41,.lit false),(36,.lit false),(31,.lit false),(17,yw 84),(12,yw 79)],ct:=[(70,yu 70 59 7 yN 0),(54,yl 54 9 5 50 yW 0)],bk:=[(3,yc 3 7),(0,yb 0)],nb:=[2,1,2,1]} 89 <|
  .fin {lo:=89,az:=4,iv:=yo [(155,yv 155)]<|yr 150 150 7<|yo [(142,yv 142),(141,yv 141),(138,yv 138),(137,yv 137),(154,yv 154),(135,yv 135),(134,yv 134),(132,yv 132)]<|yr 130 130 4<|yr 125 125 4<|yr 120 120 4<|yr 115 115 13<|yr 101 101 4<|yr 96 96 8 [],bv:=[(152,yw 152),(151,yw 151),(143,yw 143),(140,yw 140),(136,yw 136),(133,yw 133),(131,yw 131),(126,yw 126),(121,yw 121),(116,yw 116),(102,yw 102),(97,yw 97)],ct:=[(155,yu 155 144 7 yN 0),(154,yu 154 155 7 yN 0),(153,yu 153 134 5 yW 0),(139,yl 139 9 5 50 yW 0)],bk:=[(6,yc 7 7),(5,yc 6 7),(4,yc 5 5)]})
theorem P5:exec tab PZ 8000 [] (eG j6.f j6.nv Y3 j6.gl j6.hp j6.args)=BL:=by kernel_rfl
def wR (ρ:Env):Prop:=(bH ρ 4∧uV ρ∧Jz ρ 4)∧ρ.iv 22=0∧(iP ρ 71).OK
def Gm (ρ:Env):Prop:=bH ρ 89∧aa ρ 0 89=((aa ρ 0 4).begin (iP ρ 71)).1
theorem Sy {r:RS} {c:Ca} (h:r.step=0) (hc:c.OK):(r.begin c).1=({r with call:=c,step:=0,acc:=Ac.zero,word:=Wd.zero,clock:=Wd.zero,index:=0,seen:=[],bI:=[]}:RS).opened∧(r.begin c).2=true:=by
 obtain ⟨c1,c2,c3,c4,c5,c6⟩:=hc
 unfold RS.begin
 rw [if_neg (by omega),if_neg (by omega),if_neg (by omega)]
 exact ⟨rfl,rfl⟩
theorem P6 (ρ:Env) (hpre:wR ρ.num):Sat Gm G8 [] ρ BL:=by
 replace hpre:wR ρ:=hpre
 obtain ⟨⟨⟨o1,o2,o3⟩,hs,hf⟩,h0,hc⟩:=hpre
 have hm:((aa ρ 0 4).begin (iP ρ 71)).1=({aa ρ 0 4 with call:=iP ρ 71,step:=0,acc:=Ac.zero,word:=Wd.zero,clock:=Wd.zero,index:=0,seen:=[],bI:=[]}:RS).opened:=(Sy h0 hc).1
 obtain ⟨-,-,c3,c4,c5,c6⟩:=hc
 unfold BL
 refine Sat.br (fun _=>?_) (fun _=>?_)
 all_goals
  refine dZ (c:=kM) rfl ({aa ρ 0 4 with call:=iP ρ 71,step:=0,acc:=Ac.zero,word:=Wd.zero,clock:=Wd.zero,index:=0,seen:=[],bI:=[]}:RS) ({aa ρ 0 4 with call:=iP ρ 71,step:=0,acc:=Ac.zero,word:=Wd.zero,clock:=Wd.zero,index:=0,seen:=[],bI:=[]}:RS).opened (by decide) (by decide) (je rfl rfl rfl rfl) ⟨⟨by exact aj rfl rfl,by exact ⟨aj rfl rfl,Int.le_refl 0,.inl rfl⟩,o3⟩,hs,hf,⟨c3,c4⟩,c5,c6⟩ (RS.ext' rfl rfl rfl rfl rfl rfl bu bC rfl rfl rfl rfl bB rfl bz rfl rfl) (fun e hq hr=>⟨hq.1,by rw [←hr];exact hq.2⟩) (fun u=>(bH u 89)∧aa u 0 89=((aa u 0 4).begin (iP u 71)).1) (fun e h1 h2=>⟨h1,h2.trans hm.symm⟩) fun u hu=>?_
  obtain ⟨⟨o1,o2,o3⟩,hm⟩:=hu
  exact Sat.fin ⟨⟨(by first | exact o1 | exact o2 | exact o3 | exact aj rfl rfl | assumption),(by first | exact o2 | exact ⟨aj rfl rfl,Int.le_refl 0,.inl rfl⟩ | assumption),(by first | exact o1 | exact o2 | exact o3 | exact aj rfl rfl | assumption)⟩,Eq.trans (b:=(aa u 0 89)) (RS.ext' rfl rfl rfl rfl rfl rfl bu bC rfl rfl rfl rfl bB rfl bz rfl rfl) (Eq.symm (hm.symm))⟩
theorem P7:aY Tryz.prog j6 wR Gm :=
 cZ dD (E:=PZ) (cs:=G8) rfl Sw bS rfl P5 (by kernel_rfl) (fun ρ h p hp=>by
   obtain ⟨-,h0,c1,c2,c3,c4,c5,c6⟩:=h
   replace h0:ρ.iv 22=0:=h0
   replace c1:1≤ρ.iv 71:=c1
   replace c2:ρ.iv 71≤11:=c2
   replace c3:0≤ρ.iv 85:=c3
   replace c4:ρ.iv 85<9:=c4
   replace c5:0≤ρ.iv 86:=c5
   replace c6:ρ.iv 86<9:=c6
   simp only [Y3,List.mem_cons,List.not_mem_nil,or_false] at hp
   rcases hp with rfl | rfl | rfl | rfl | rfl | rfl | rfl
   · exact beq_iff_eq.2 h0
   · exact decide_eq_false (by show ¬ρ.iv 71<1;omega)
   · exact decide_eq_false (by show ¬11<ρ.iv 71;omega)
   · exact decide_eq_false (by show ¬ρ.iv 85<0;omega)
   · exact decide_eq_false (by show ¬9≤ρ.iv 85;omega)
   · exact decide_eq_false (by show ¬ρ.iv 86<0;omega)
   · exact decide_eq_false (by show ¬9≤ρ.iv 86;omega)) P6
end Go.Proofs.YthomdlajobnmnaaGreatDoor
namespace Go.Proofs.YthomdlajobnmnaaGreatDoor
open Go.Rex
theorem wS {P:Program} {k:dJ} {pre post post':Env→Prop} (h:aY P k pre post) (hp:∀ρ,post ρ→post' ρ):aY P k pre post' :=
 ⟨h.fn,fun ρ ν w h1 h2 h3=>(h.run ρ ν w h1 h2 h3).mono fun e w' he=>by
   obtain ⟨ρ',aK,a,b,c,d,f,g⟩:=he
   exact ⟨ρ',aK,a,b,c,d,f,hp _ g⟩⟩
def Nt.sv (n:Nt):Sv.ui:=⟨n.ref.slot,n.ref.gen,n.ref.tag,n.ref.num,n.ref.mark,n.jO,n.kv⟩
theorem Nt.XB {a b:Nt} (h:a.sv=b.sv):a=b:=by
 obtain ⟨⟨a1,a2,a3,a4,a5⟩,a6,a7⟩:=a
 obtain ⟨⟨b1,b2,b3,b4,b5⟩,b6,b7⟩:=b
 simp only [Nt.sv,Sv.ui.mk.injEq] at h
 obtain ⟨rfl,rfl,rfl,rfl,rfl,rfl,rfl⟩:=h
 rfl
theorem lN (ρ:Env) (b:Nat):Sv.notes ρ b=(aT ρ (b+3) (ρ.iv (b+1))).map Nt.sv:=by
 unfold Sv.notes aT
 rw [List.map_map]
 rfl
theorem tu {l m:List Nt} {p:Sv.ui→Bool} {q:Nt→Bool} (hq:∀n,p n.sv=q n) (h:m.map Nt.sv=(l.map Nt.sv).filter p):m=l.filter q:=by
 rw [List.filter_map] at h
 have e:p ∘ Nt.sv=q:=funext hq
 rw [e] at h
 have:∀{x y:List Nt},x.map Nt.sv=y.map Nt.sv→x=y:=by
  intro x
  induction x with
  | nil=>intro y h;cases y with | nil=>rfl | cons=>cases h
  | cons a x ih =>
   intro y h
   cases y with
   | nil=>cases h
   | cons b y =>
    simp only [List.map_cons,List.cons.injEq] at h
    rw [Nt.XB h.1,ih h.2]
 exact this h
def oq (ρ:Env) (r:Nat) (n:Int):List Int:=(List.range n.toNat).map fun i=>ρ.ic r i 0 0
def jV (ρ:Env) (r:Nat) (i:Nat):Sp:=⟨ρ.bc r i 0 0,ρ.ic r i 0 1,ρ.ic r i 0 2⟩
def gG (ρ:Env) (r:Nat) (n:Int):List Sp:=(List.range n.toNat).map (jV ρ r)
def JA (ρ:Env):Prop:=bF ρ 8∧aT ρ 11 (ρ.iv 9)=(aT ρ 3 (ρ.iv 1)).filter fun n=>!((dE ρ 7 (ρ.iv 5)).any fun w=>RS.wG w n)
def Nn (ρ:Env):Prop:=bF ρ 8∧aT ρ 11 (ρ.iv 9)=(aT ρ 3 (ρ.iv 1)).filter fun n=>!((oq ρ 7 (ρ.iv 5)).any fun e=>RS.uR e n)
def JB (ρ:Env):Prop:=bF ρ 8∧aT ρ 11 (ρ.iv 9)=(aT ρ 3 (ρ.iv 1)).filter fun n=>!((gG ρ 7 (ρ.iv 5)).any fun s=>RS.rM s n)
def E5 (ρ:Env):Prop:=bF ρ 8∧aT ρ 11 (ρ.iv 9)=(aT ρ 3 (ρ.iv 1)).filter fun n=>!(RS.pU (ρ.iv 4) n)
theorem Np:aY Tryz.prog ko Sv.lL JA:=wS Sv.PE fun ρ h=>by
 obtain ⟨h1,h2,-⟩:=h
 refine ⟨h1,tu (fun n=>?_) ((lN ρ 8).symm.trans (h2.trans (congrArg _ (lN ρ 0))))⟩
 congr 1
 show (((List.range (ρ.iv 5).toNat).map fun j=>ρ.ic 7 j 0 0).any fun s=>decide (s=n.ref.slot))=_
 unfold dE
 rw [List.any_map,List.any_map]
 rfl
theorem P8:aY Tryz.prog l8 Sv.nK Nn:=wS Sv.RZ fun ρ h=>by
 obtain ⟨h1,h2,-⟩:=h
 refine ⟨h1,tu (fun n=>?_) ((lN ρ 8).symm.trans (h2.trans (congrArg _ (lN ρ 0))))⟩
 congr 1
 show (((List.range (ρ.iv 5).toNat).map fun j=>ρ.ic 7 j 0 0).any fun e=>decide ((0<e∧n.jO≤e)∧e≤n.kv))=_
 unfold oq
 rw [List.any_map,List.any_map]
 congr 1
 funext j
 simp only [Function.comp,RS.uR]
 exact decide_eq_decide.2 and_assoc
theorem Nq:aY Tryz.prog kr Sv.lM JB:=wS Sv.PK fun ρ h=>by
 obtain ⟨h1,h2,-⟩:=h
 refine ⟨h1,tu (fun n=>?_) ((lN ρ 8).symm.trans (h2.trans (congrArg _ (lN ρ 0))))⟩
 congr 1
 show (((List.range (ρ.iv 5).toNat).map fun j=>(ρ.bc 7 j 0 0,ρ.ic 7 j 0 1,ρ.ic 7 j 0 2)).any fun s=>decide ((s.1=true∧s.2.1≤n.kv)∧n.jO≤s.2.2))=_
 unfold gG
 rw [List.any_map,List.any_map]
 congr 1
 funext j
 simp only [Function.comp,RS.rM,jV]
 rw [Bool.eq_iff_iff]
 simp [and_assoc]
theorem Ky:aY Tryz.prog jA Sv.jY E5:=wS Sv.Ng fun ρ h=>by
 obtain ⟨h1,h2,-⟩:=h
 refine ⟨h1,tu (fun n=>?_) ((lN ρ 8).symm.trans (h2.trans (congrArg _ (lN ρ 0))))⟩
 refine congrArg (fun b=>!b) ?_
 show decide (ρ.iv 4 < -9223372036854775806∨ρ.iv 4-2<n.kv)=RS.pU (ρ.iv 4) n
 unfold RS.pU
 exact decide_eq_decide.2 (by omega)
noncomputable def XC:Ex:={sched:=sched,loops:=[ZU],fin:=lI}
def JC:Out :=
 .ob (.or (.not (.var 1)) (.aB (.var 2) (.lit 0))) <|
 .ob (.aA (.lit 0) (.var 2)) <|
 .loop 5 {lo:=5,az:=1,iv:=[(5,.lit 0)]} <|
 .br (.bR (.var 5) (.var 2))
 (.ob (.not (.var 1)) <|
  .ob (.aA (.lit 0) (.var 5)) <|
  .br (.and (.cell 4 (.var 5) (.lit 0) 0) (.not (.aB (.cell 4 (.var 5) (.lit 0) 1) (.var 0))))
  (.fin {lo:=5,az:=1,bv:=[(5,.lit false)]})
  (.ob (.inr .i64 (.add (.var 5) (.lit 1))) <|
   .back 0 {lo:=5,az:=1,iv:=[(5,.add (.var 5) (.lit 1))]}))
 (.fin {lo:=5,az:=1,bv:=[(5,.lit true)]})
theorem VB:exec tab XC 8000 [] (eG lI.f lI.nv [] lI.gl lI.hp lI.args)=JC:=by kernel_rfl
def zl (ρ:Env):Prop:=bF ρ 1∧ρ.iv 2≤1000000
def zX (ρ:Env):Prop:=ρ.bv 5=RS.may (ρ.iv 0) (gG ρ 4 (ρ.iv 2))
def P9 (ρ:Env):Prop:=zl ρ∧(0≤ρ.iv 5∧ρ.iv 5≤ρ.iv 2)∧RS.may (ρ.iv 0) (gG ρ 4 (ρ.iv 5))=true
theorem Nr {ρ:Env} {r:Nat} {n:Int} (h:0≤n):gG ρ r (n+1)=gG ρ r n ++ [jV ρ r n.toNat]:=by
 unfold gG
 rw [show (n+1).toNat=n.toNat+1 by omega,List.range_succ,List.map_append]
 rfl
theorem VC (ρ:Env) (hpre:zl ρ.num):Sat zX [] [] ρ JC:=by
 replace hpre:zl ρ:=hpre
 have hpre':=hpre
 obtain ⟨o1,h2⟩:=hpre
 unfold JC
 refine Sat.ob (aL o1) (Sat.ob (decide_eq_true o1.2.1) (Sat.wH P9 (fun r=>(r.iv 2-r.iv 5).toNat) (fun _=>True) ⟨hpre',⟨Int.le_refl 0,o1.2.1⟩,rfl⟩ (fun _=>trivial) fun q _ hI=>?_))
 replace hI:P9 q:=hI
 obtain ⟨⟨o1,h2⟩,⟨i1,i2⟩,hI⟩:=hI
 refine Sat.br (fun c=>?_) (fun c=>?_)
 ·simp only [Da] at c
  refine Sat.ob (bT o1 (by simp only [Nat.reduceAdd];omega)) (Sat.ob (decide_eq_true i1) (Sat.br (fun c2=>?_) (fun c2=>?_)))
  ·simp only [Da] at c2
   refine Sat.fin ?_
   show false=RS.may (q.iv 0) (gG q 4 (q.iv 2))
   refine Eq.symm (List.all_eq_false.2 ⟨jV q 4 (q.iv 5).toNat,List.mem_map.2 ⟨(q.iv 5).toNat,List.mem_range.2 (by omega),rfl⟩,?_⟩)
   show ¬(!(q.bc 4 (q.iv 5).toNat 0 0 && q.ic 4 (q.iv 5).toNat 0 1 != q.iv 0))=true
   simp [c2.1,c2.2]
  ·simp only [Da] at c2
   refine Sat.ob (by simp only [Da];omega) (Sat.back rfl ⟨⟨⟨o1,h2⟩,⟨?_,?_⟩,?_⟩,?_⟩)
   ·show 0≤q.iv 5+1;omega
   ·show q.iv 5+1≤q.iv 2;omega
   ·show RS.may (q.iv 0) (gG q 4 (q.iv 5+1))=true
    rw [Nr i1]
    unfold RS.may at hI ⊢
    rw [List.all_append,hI,Bool.true_and,List.all_cons,List.all_nil,Bool.and_true]
    show (!(q.bc 4 (q.iv 5).toNat 0 0 && q.ic 4 (q.iv 5).toNat 0 1 != q.iv 0))=true
    rcases c2 with c2 | c2
    ·simp [c2]
    ·simp [c2]
   ·show (q.iv 2-(q.iv 5+1)).toNat<(q.iv 2-q.iv 5).toNat
    omega
 ·simp only [Da] at c
  refine Sat.fin ?_
  show true=RS.may (q.iv 0) (gG q 4 (q.iv 2))
  rw [show q.iv 2=q.iv 5 by omega]
  exact hI.symm
theorem VD:aY Tryz.prog lI zl zX :=
 cZ dD (E:=XC) (cs:=[]) rfl (fun k pre post h=>by cases h) bS rfl VB (by kernel_rfl) (fun ρ _ p hp=>by cases hp) VC
end Go.Proofs.YthomdlajobnmnaaGreatDoor
