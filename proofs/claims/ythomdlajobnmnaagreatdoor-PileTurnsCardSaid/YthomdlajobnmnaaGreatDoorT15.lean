/- part 15 of the proof -/
import Derived.Test.YthomdlajobnmnaaGreatDoorT11
import Derived.Test.YthomdlajobnmnaaGreatDoorT13
import Derived.Test.YthomdlajobnmnaaGreatDoorT14
set_option linter.unusedSimpArgs false
set_option linter.unusedVariables false
namespace Go.Proofs.YthomdlajobnmnaaGreatDoor
open Go.Rex
def NL:mr:=[(iw,nk,tJ),(fT,uX,ow),(ja,wP,wQ),(iZ,tK,wR)]
theorem Wt:∀k pre post,(k,pre,post)∈NL→jG k=true∧bf Tryz.prog k pre post:=by
 intro k pre post h
 simp only [NL,List.mem_cons,List.not_mem_nil,or_false,Prod.mk.injEq] at h
 rcases h with ⟨rfl,rfl,rfl⟩ | ⟨rfl,rfl,rfl⟩ | ⟨rfl,rfl,rfl⟩ | ⟨rfl,rfl,rfl⟩
 ·exact ⟨by kernel_rfl,GI⟩
 ·exact ⟨by kernel_rfl,JL⟩
 ·exact ⟨by kernel_rfl,JR⟩
 ·exact ⟨by kernel_rfl,NK⟩
noncomputable def U9:Ex:={sched:=sched,loops:=[],cons:=[iw,fT,ja,iZ],fin:=kY}
def Fq:Out :=
 .br (.aB (.var 4) (.lit 1))
 (.br (.or (.aB (.var 0) (.lit 4)) (.aB (.var 0) (.lit 5)))
  (.fin {lo:=71,az:=4,iv:=yo [(137,yv 70)]<|yr 132 65 7<|yo [(124,yv 57),(123,yv 56),(120,yv 53),(119,yv 52),(136,yv 69),(117,yv 50),(116,yv 49),(114,yv 47)]<|yr 112 45 4<|yr 107 40 4<|yo [(102,.lit 0),(101,.lit 0),(100,.lit 0),(99,.lit 0),(97,.lit 0),(96,.lit 0),(95,.lit 0),(94,.lit 0),(93,.lit 24),(92,.lit 0),(91,.lit 0),(90,.lit 1),(89,.lit 3)]<|yr 88 21 4<|yr 83 16 4<|yr 78 11 8 [],bv:=[(134,yw 67),(133,yw 66),(125,yw 58),(122,yw 55),(118,yw 51),(115,yw 48),(113,yw 46),(108,yw 41),(103,.lit false),(98,.lit false),(84,yw 17),(79,yw 12)],ct:=[(137,yu 70 59 7 yN 0),(136,yu 69 70 7 yN 0),(135,yu 68 49 5 yW 0),(121,yl 54 9 5 50 yW 0)],bk:=[(6,yc 3 7),(5,yc 2 7),(4,yc 1 5)]})
  (.fin {lo:=71,az:=4,iv:=yo [(132,.lit 0),(131,.lit 0),(130,.lit 0),(129,.lit 0)]<|yr 128 61 3<|[(124,yv 57),(123,yv 56),(120,.lit 0),(119,.lit 0),(117,.lit 0),(116,.lit 0),(114,.lit 0),(112,.lit 0),(111,.lit 0),(110,.lit 0),(109,.lit 0),(107,.lit 0),(106,.lit 0),(105,.lit 0),(104,.lit 0),(102,.lit 0),(101,.lit 0),(100,.lit 0),(99,.lit 0),(97,.lit 0),(96,.lit 0),(95,.lit 0),(94,.lit 0),(93,.lit 0),(92,.lit 0),(91,.lit 0),(90,.lit 0),(89,.lit 0),(88,.lit 0),(87,.lit 0),(86,.lit 0),(85,.lit 0),(83,.lit 0),(82,.lit 0),(81,.lit 0),(80,.lit 0),(78,.lit 0),(77,.lit 0),(76,.lit 0),(75,.lit 0),(74,.lit 0),(73,.lit 0),(72,.lit 0),(71,.lit 0)],bv:=[(134,.lit true),(133,.lit false),(125,yw 58),(122,yw 55),(118,.lit true),(115,.lit true),(113,.lit false),(108,.lit false),(103,.lit false),(98,.lit false),(84,.lit false),(79,.lit false)],ct:=[(137,yu 70 59 7 yN 0),(121,yl 54 9 5 50 yW 0)],bk:=[(6,yc 3 7)],nb:=[5,4,5,4]}))
 (.br (.aB (.var 4) (.lit 2))
  (.call 0 {lo:=0,az:=0,iv:=yo [(70,yv 70)]<|yr 65 65 7<|yo [(57,yv 57),(56,yv 56)]<|yr 3 3 4<|yo [(53,yv 53),(52,yv 52),(69,yv 69),(50,yv 50),(49,yv 49),(47,yv 47)]<|yr 45 45 4<|yr 40 40 4<|yr 35 35 4<|yr 30 30 13<|yr 16 16 4<|yr 11 11 8<|[(71,.lit 0)],bv:=[(67,yw 67),(66,yw 66),(58,yw 58),(55,yw 55),(51,yw 51),(48,yw 48),(46,yw 46),(41,yw 41),(36,yw 36),(31,yw 31),(17,yw 17),(12,yw 12)],ct:=[(70,yu 70 59 7 yN 0),(69,yu 69 70 7 yN 0),(68,yu 68 49 5 yW 0),(54,yl 54 9 5 50 yW 0)],bk:=[(3,yc 3 7),(2,yc 2 7),(1,yc 1 5),(0,yb 0)]} 71 <|
   .fin {lo:=71,az:=4,iv:=yo [(137,yv 137)]<|yr 132 132 7<|yo [(124,yv 124),(123,yv 123),(120,yv 120),(119,yv 119),(136,yv 136),(117,yv 117),(116,yv 116),(114,yv 114)]<|yr 112 112 4<|yr 107 107 4<|yr 102 102 4<|yr 97 97 13<|yr 83 83 4<|yr 78 78 8 [],bv:=[(134,yw 134),(133,yw 133),(125,yw 125),(122,yw 122),(118,yw 118),(115,yw 115),(113,yw 113),(108,yw 108),(103,yw 103),(98,yw 98),(84,yw 84),(79,yw 79)],ct:=[(137,yu 137 126 7 yN 0),(136,yu 136 137 7 yN 0),(135,yu 135 116 5 yW 0),(121,yl 121 9 5 50 yW 0)],bk:=[(6,yc 7 7),(5,yc 6 7),(4,yc 5 5)]})
  (.br (.aB (.var 4) (.lit 3))
   (.fin {lo:=71,az:=4,iv:=yo [(137,yv 70)]<|yr 132 65 7<|yo [(124,yv 57),(123,yv 56),(120,yv 53),(119,yv 52),(136,yv 69),(117,yv 50),(116,yv 49),(114,yv 47)]<|yr 112 45 4<|yr 107 40 4<|yo [(102,.lit 0),(101,.lit 0),(100,.lit 0),(99,.lit 0),(97,.lit 0),(96,.lit 0),(95,.lit 0),(94,.lit 0)]<|yr 93 7 3<|yo [(90,.lit 1),(89,.lit 1)]<|yr 88 21 4<|yr 83 16 4<|yr 78 11 8 [],bv:=[(134,yw 67),(133,yw 66),(125,yw 58),(122,yw 55),(118,yw 51),(115,yw 48),(113,yw 46),(108,yw 41),(103,.lit false),(98,.lit false),(84,yw 17),(79,yw 12)],ct:=[(137,yu 70 59 7 yN 0),(136,yu 69 70 7 yN 0),(135,yu 68 49 5 yW 0),(121,yl 54 9 5 50 yW 0)],bk:=[(6,yc 3 7),(5,yc 2 7),(4,yc 1 5)]})
   (.br (.aB (.var 4) (.lit 4))
    (.fin {lo:=71,az:=4,iv:=yo [(137,yv 70)]<|yr 132 65 7<|yo [(124,yv 57),(123,yv 56),(120,yv 53),(119,yv 52),(136,yv 69),(117,yv 50),(116,yv 49),(114,yv 47)]<|yr 112 45 4<|yr 107 40 4<|yr 102 16 4<|yr 97 11 7<|yo [(90,.lit 2),(89,.lit 1)]<|yr 88 21 4<|yr 83 16 4<|yr 78 11 8 [],bv:=[(134,yw 67),(133,yw 66),(125,yw 58),(122,yw 55),(118,yw 51),(115,yw 48),(113,yw 46),(108,yw 41),(103,yw 17),(98,yw 12),(84,yw 17),(79,yw 12)],ct:=[(137,yu 70 59 7 yN 0),(136,yu 69 70 7 yN 0),(135,yu 68 49 5 yW 0),(121,yl 54 9 5 50 yW 0)],bk:=[(6,yc 3 7),(5,yc 2 7),(4,yc 1 5)]})
    (.br (.aB (.var 4) (.lit 5))
     (.fin {lo:=71,az:=4,iv:=yo [(137,yv 70)]<|yr 132 65 7<|yo [(124,yv 57),(123,yv 56),(120,yv 53),(119,yv 52),(136,yv 69),(117,yv 50),(116,yv 49),(114,yv 47)]<|yr 112 45 4<|yr 107 40 4<|yr 102 16 4<|yr 97 11 7<|yo [(90,.lit 3),(89,.lit 1)]<|yr 88 21 4<|yr 83 16 4<|yr 78 11 8 [],bv:=[(134,yw 67),(133,yw 66),(125,yw 58),(122,yw 55),(118,yw 51),(115,yw 48),(113,yw 46),(108,yw 41),(103,yw 17),(98,yw 12),(84,yw 17),(79,yw 12)],ct:=[(137,yu 70 59 7 yN 0),(136,yu 69 70 7 yN 0),(135,yu 68 49 5 yW 0),(121,yl 54 9 5 50 yW 0)],bk:=[(6,yc 3 7),(5,yc 2 7),(4,yc 1 5)]})
     (.br (.aB (.var 4) (.lit 6))
      (.fin {lo:=71,az:=4,iv:=yo [(137,yv 70)]<|yr 132 65 7<|yo [(124,yv 57),(123,yv 56),(120,yv 53),(119,yv 52),(136,yv 69),(117,yv 50),(116,yv 49),(114,yv 47)]<|yr 112 45 4<|yr 107 40 4<|yo [(102,.lit 0),(101,.lit 0),(100,.lit 0),(99,.lit 0),(97,.lit 0),(96,.lit 0),(95,.lit 0),(94,.lit 0)]<|yr 93 7 3<|yo [(90,.lit 1),(89,.lit 5)]<|yr 88 21 4<|yr 83 16 4<|yr 78 11 8 [],bv:=[(134,yw 67),(133,yw 66),(125,yw 58),(122,yw 55),(118,yw 51),(115,yw 48),(113,yw 46),(108,yw 41),(103,.lit false),(98,.lit false),(84,yw 17),(79,yw 12)],ct:=[(137,yu 70 59 7 yN 0),(136,yu 69 70 7 yN 0),(135,yu 68 49 5 yW 0),(121,yl 54 9 5 50 yW 0)],bk:=[(6,yc 3 7),(5,yc 2 7),(4,yc 1 5)]})
      (.br (.aB (.var 4) (.lit 7))
       (.ob (.or (.not (.or (.aB (.var 0) (.lit 2)) (.aB (.var 0) (.lit 3)))) (.aA (.lit 0) (.var 18))) <|
        .ob (.or (.not (.or (.aB (.var 0) (.lit 2)) (.aB (.var 0) (.lit 3)))) (.bR (.var 18) (.lit 9))) <|
        .ob (.or (.not (.or (.aB (.var 0) (.lit 2)) (.aB (.var 0) (.lit 3)))) (.aA (.lit 0) (.var 19))) <|
        .ob (.or (.not (.or (.aB (.var 0) (.lit 2)) (.aB (.var 0) (.lit 3)))) (.bR (.var 19) (.lit 9))) <|
        .br (.and (.or (.aB (.var 0) (.lit 2)) (.aB (.var 0) (.lit 3))) (.not (.and (.aB (.cell 54 (.var 18) (.lit 0) 0) (.cell 54 (.var 19) (.lit 0) 0)) (.and (.aB (.cell 54 (.var 18) (.lit 0) 1) (.cell 54 (.var 19) (.lit 0) 1)) (.and (.aB (.cell 54 (.var 18) (.lit 0) 2) (.cell 54 (.var 19) (.lit 0) 2)) (.and (.aB (.cell 54 (.var 18) (.lit 0) 3) (.cell 54 (.var 19) (.lit 0) 3)) (.beq (.cell 54 (.var 18) (.lit 0) 4) (.cell 54 (.var 19) (.lit 0) 4))))))))
        (.ob (.aA (.lit 0) (.var 19)) <|
         .ob (.bR (.var 19) (.lit 9)) <|
         .ob (.aA (.lit 0) (.var 18)) <|
         .ob (.bR (.var 18) (.lit 9)) <|
         .call 1 {lo:=0,az:=0,iv:=[(1,yv 18),(0,yv 1)]} 71 <|
         .fin {lo:=71,az:=4,iv:=yo [(137,yv 70)]<|yr 132 65 7<|yo [(124,yv 57),(123,yv 56),(120,yv 53),(119,yv 52),(136,yv 69),(117,yv 50),(116,yv 49),(114,yv 47)]<|yr 112 45 4<|yr 107 40 4<|yo [(102,.cell 54 (.var 19) (.lit 0) 3),(101,.cell 54 (.var 19) (.lit 0) 2),(100,.cell 54 (.var 19) (.lit 0) 1),(99,.cell 54 (.var 19) (.lit 0) 0),(97,.lit 0),(96,.lit 0),(95,.lit 0),(94,.lit 0),(93,.add (.add (.lit 25) (.mul (.var 1) (.lit 9))) (.var 18)),(92,.lit 0),(91,.lit 0),(90,.lit 2),(89,.lit 2)]<|yr 88 21 4<|yr 83 16 4<|yr 78 11 8 [],bv:=[(134,yw 67),(133,yw 66),(125,yw 58),(122,yw 55),(118,yw 51),(115,yw 48),(113,yw 46),(108,yw 41),(103,.cell 54 (.var 19) (.lit 0) 4),(98,.lit false),(84,yw 17),(79,yw 12)],ct:=[(137,yu 70 59 7 yN 0),(136,yu 69 70 7 yN 0),(135,yu 68 49 5 yW 0),(121,.up {r:=54,n1:=.lit 9,s1:=5,lo:=50,ks:=yW} 0 [⟨0,(.var 18),(.lit 0),4,.bool (.cell 54 (.var 19) (.lit 0) 4)⟩,⟨0,(.var 18),(.lit 0),3,.int .i64 (.cell 54 (.var 19) (.lit 0) 3)⟩,⟨0,(.var 18),(.lit 0),2,.int .i64 (.cell 54 (.var 19) (.lit 0) 2)⟩,⟨0,(.var 18),(.lit 0),1,.int .i64 (.cell 54 (.var 19) (.lit 0) 1)⟩,⟨0,(.var 18),(.lit 0),0,.int .i64 (.cell 54 (.var 19) (.lit 0) 0)⟩] (.lit 0))],bk:=[(6,yc 3 7),(5,yc 2 7),(4,yc 1 5)]})
        (.fin {lo:=71,az:=4,iv:=yo [(132,.lit 0),(131,.lit 0),(130,.lit 0),(129,.lit 0)]<|yr 128 61 3<|[(124,yv 57),(123,yv 56),(120,.lit 0),(119,.lit 0),(117,.lit 0),(116,.lit 0),(114,.lit 0),(112,.lit 0),(111,.lit 0),(110,.lit 0),(109,.lit 0),(107,.lit 0),(106,.lit 0),(105,.lit 0),(104,.lit 0),(102,.lit 0),(101,.lit 0),(100,.lit 0),(99,.lit 0),(97,.lit 0),(96,.lit 0),(95,.lit 0),(94,.lit 0),(93,.lit 0),(92,.lit 0),(91,.lit 0),(90,.lit 0),(89,.lit 0),(88,.lit 0),(87,.lit 0),(86,.lit 0),(85,.lit 0),(83,.lit 0),(82,.lit 0),(81,.lit 0),(80,.lit 0),(78,.lit 0),(77,.lit 0),(76,.lit 0),(75,.lit 0),(74,.lit 0),(73,.lit 0),(72,.lit 0),(71,.lit 0)],bv:=[(134,.lit true),(133,.lit false),(125,yw 58),(122,yw 55),(118,.lit true),(115,.lit true),(113,.lit false),(108,.lit false),(103,.lit false),(98,.lit false),(84,.lit false),(79,.lit false)],ct:=[(137,yu 70 59 7 yN 0),(121,yl 54 9 5 50 yW 0)],bk:=[(6,yc 3 7)],nb:=[5,4,5,4]}))
       (.br (.aB (.var 4) (.lit 8))
        (.br (.or (.aB (.var 0) (.lit 3)) (.aB (.var 0) (.lit 5)))
         (.fin {lo:=71,az:=4,iv:=yo [(137,yv 70)]<|yr 132 65 7<|yo [(124,yv 57),(123,yv 56),(120,yv 53),(119,yv 52),(136,yv 69),(117,yv 50),(116,yv 49),(114,yv 47)]<|yr 112 45 4<|yr 107 40 4<|yo [(102,.lit 0),(101,.lit 0),(100,.lit 0),(99,.lit 0),(97,.lit 0),(96,.lit 0),(95,.lit 0),(94,.lit 0),(93,.lit 24),(92,.lit 0),(91,.lit 0),(90,.lit 1),(89,.lit 8)]<|yr 88 21 4<|yr 83 16 4<|yr 78 11 8 [],bv:=[(134,yw 67),(133,yw 66),(125,yw 58),(122,yw 55),(118,yw 51),(115,yw 48),(113,yw 46),(108,yw 41),(103,.lit false),(98,.lit false),(84,yw 17),(79,yw 12)],ct:=[(137,yu 70 59 7 yN 0),(136,yu 69 70 7 yN 0),(135,yu 68 49 5 yW 0),(121,yl 54 9 5 50 yW 0)],bk:=[(6,yc 3 7),(5,yc 2 7),(4,yc 1 5)]})
         (.fin {lo:=71,az:=4,iv:=yo [(137,yv 70)]<|yr 132 65 7<|yo [(124,yv 57),(123,yv 56),(120,yv 53),(119,yv 52),(136,yv 69),(117,yv 50),(116,yv 49),(114,yv 47)]<|yr 112 45 4<|yr 107 40 4<|yo [(102,.lit 0),(101,.lit 0),(100,.lit 0),(99,.lit 0),(97,.lit 0),(96,.lit 0),(95,.lit 0),(94,.lit 0),(93,.lit 0),(92,.lit 0),(91,.lit 0),(90,.lit 4),(89,.lit 1)]<|yr 88 21 4<|yr 83 16 4<|yr 78 11 8 [],bv:=[(134,yw 67),(133,yw 66),(125,yw 58),(122,yw 55),(118,yw 51),(115,yw 48),(113,yw 46),(108,yw 41),(103,.lit false),(98,.lit false),(84,yw 17),(79,yw 12)],ct:=[(137,yu 70 59 7 yN 0),(136,yu 69 70 7 yN 0),(135,yu 68 49 5 yW 0),(121,yl 54 9 5 50 yW 0)],bk:=[(6,yc 3 7),(5,yc 2 7),(4,yc 1 5)]}))
        (.br (.aB (.var 4) (.lit 9))
         (.fin {lo:=71,az:=4,iv:=yo [(137,yv 70)]<|yr 132 65 7<|yo [(124,yv 57),(123,yv 56),(120,yv 53),(119,yv 52),(136,yv 69),(117,yv 50),(116,yv 49),(114,yv 47)]<|yr 112 45 4<|yr 107 40 4<|yo [(102,.lit 0),(101,.lit 0),(100,.lit 0),(99,.lit 0)]<|yr 97 11 4<|yo [(93,.lit 0),(92,.lit 0),(91,.lit 0),(90,.lit 5),(89,.lit 2)]<|yr 88 21 4<|yr 83 16 4<|yr 78 11 8 [],bv:=[(134,yw 67),(133,yw 66),(125,yw 58),(122,yw 55),(118,yw 51),(115,yw 48),(113,yw 46),(108,yw 41),(103,.lit false),(98,yw 12),(84,yw 17),(79,yw 12)],ct:=[(137,yu 70 59 7 yN 0),(136,yu 69 70 7 yN 0),(135,yu 68 49 5 yW 0),(121,yl 54 9 5 50 yW 0)],bk:=[(6,yc 3 7),(5,yc 2 7),(4,yc 1 5)]})
         (.br (.aB (.var 4) (.lit 10))
          (.call 3 {lo:=0,az:=0,iv:=yo [(70,yv 70)]<|yr 65 65 7<|yo [(57,yv 57),(56,yv 56)]<|yr 3 3 4<|yo [(53,yv 53),(52,yv 52),(69,yv 69),(50,yv 50),(49,yv 49),(47,yv 47)]<|yr 45 45 4<|yr 40 40 4<|yr 35 35 4<|yr 30 30 13<|yr 16 16 4<|yr 11 11 8 [],bv:=[(67,yw 67),(66,yw 66),(58,yw 58),(55,yw 55),(51,yw 51),(48,yw 48),(46,yw 46),(41,yw 41),(36,yw 36),(31,yw 31),(17,yw 17),(12,yw 12)],ct:=[(70,yu 70 59 7 yN 0),(69,yu 69 70 7 yN 0),(68,yu 68 49 5 yW 0),(54,yl 54 9 5 50 yW 0)],bk:=[(3,yc 3 7),(2,yc 2 7),(1,yc 1 5),(0,yb 0)]} 71 <|
           .fin {lo:=71,az:=4,iv:=yo [(137,yv 137)]<|yr 132 132 7<|yo [(124,yv 124),(123,yv 123),(120,yv 120),(119,yv 119),(136,yv 136),(117,yv 117),(116,yv 116),(114,yv 114)]<|yr 112 112 4<|yr 107 107 4<|yr 102 102 4<|yr 97 97 13<|yr 83 83 4<|yr 78 78 8 [],bv:=[(134,yw 134),(133,yw 133),(125,yw 125),(122,yw 122),(118,yw 118),(115,yw 115),(113,yw 113),(108,yw 108),(103,yw 103),(98,yw 98),(84,yw 84),(79,yw 79)],ct:=[(137,yu 137 126 7 yN 0),(136,yu 136 137 7 yN 0),(135,yu 135 116 5 yW 0),(121,yl 121 9 5 50 yW 0)],bk:=[(6,yc 7 7),(5,yc 6 7),(4,yc 5 5)]})
          (.br (.aB (.var 4) (.lit 11))
           (.call 2 {lo:=0,az:=0,iv:=yo [(70,yv 70)]<|yr 65 65 7<|yo [(57,yv 57),(56,yv 56)]<|yr 3 3 4<|yo [(53,yv 53),(52,yv 52),(69,yv 69),(50,yv 50),(49,yv 49),(47,yv 47)]<|yr 45 45 4<|yr 40 40 4<|yr 35 35 4<|yr 30 30 13<|yr 16 16 4<|yr 11 11 8 [],bv:=[(67,yw 67),(66,yw 66),(58,yw 58),(55,yw 55),(51,yw 51),(48,yw 48),(46,yw 46),(41,yw 41),(36,yw 36),(31,yw 31),(17,yw 17),(12,yw 12)],ct:=[(70,yu 70 59 7 yN 0),(69,yu 69 70 7 yN 0),(68,yu 68 49 5 yW 0),(54,yl 54 9 5 50 yW 0)],bk:=[(3,yc 3 7),(2,yc 2 7),(1,yc 1 5),(0,yb 0)]} 71 <|
            .fin {lo:=71,az:=4,iv:=yo [(137,yv 137)]<|yr 132 132 7<|yo [(124,yv 124),(123,yv 123),(120,yv 120),(119,yv 119),(136,yv 136),(117,yv 117),(116,yv 116),(114,yv 114)]<|yr 112 112 4<|yr 107 107 4<|yr 102 102 4<|yr 97 97 13<|yr 83 83 4<|yr 78 78 8 [],bv:=[(134,yw 134),(133,yw 133),(125,yw 125),(122,yw 122),(118,yw 118),(115,yw 115),(113,yw 113),(108,yw 108),(103,yw 103),(98,yw 98),(84,yw 84),(79,yw 79)],ct:=[(137,yu 137 126 7 yN 0),(136,yu 136 137 7 yN 0),(135,yu 135 116 5 yW 0),(121,yl 121 9 5 50 yW 0)],bk:=[(6,yc 7 7),(5,yc 6 7),(4,yc 5 5)]})
           (.fin {lo:=71,az:=4,iv:=yo [(137,yv 70)]<|yr 132 65 7<|yo [(124,yv 57),(123,yv 56),(120,yv 53),(119,yv 52),(136,yv 69),(117,yv 50),(116,yv 49),(114,yv 47)]<|yr 112 45 4<|yr 107 40 4<|yr 102 35 4<|yr 97 30 13<|yr 83 16 4<|yr 78 11 8 [],bv:=[(134,yw 67),(133,yw 66),(125,yw 58),(122,yw 55),(118,yw 51),(115,yw 48),(113,yw 46),(108,yw 41),(103,yw 36),(98,yw 31),(84,yw 17),(79,yw 12)],ct:=[(137,yu 70 59 7 yN 0),(136,yu 69 70 7 yN 0),(135,yu 68 49 5 yW 0),(121,yl 54 9 5 50 yW 0)],bk:=[(6,yc 3 7),(5,yc 2 7),(4,yc 1 5)]})))))))))))
theorem Tg:exec tab U9 8000 [] (fB kY.f kY.nv [] kY.gl kY.hp kY.args)=Fq:=by kernel_rfl
def Ab (ρ:Env):Prop:=bE ρ 4∧uZ ρ∧JS ρ 4∧(0≤ρ.iv 18∧ρ.iv 18<9)∧0≤ρ.iv 19∧ρ.iv 19<9
def Cb (ρ:Env):Prop:=bE ρ 71∧aa ρ 0 71=(aa ρ 0 4).opened
set_option maxHeartbeats 4000000 in
theorem Ti (ρ:Env) (hpre:Ab ρ.num):Sat Cb NL [] ρ Fq:=by
 replace hpre:Ab ρ:=hpre
 obtain ⟨⟨o1,o2,o3⟩,hs,hf,⟨n1,n2⟩,m1,m2⟩:=hpre
 unfold Fq
 refine Sat.br (fun c1=>?_) (fun c1=>?_)
 ·simp only [Da] at c1
  have h0:(aa ρ 0 4).opened=if (aa ρ 0 4).bW then (aa ρ 0 4).era 3 else (aa ρ 0 4).done:=if_pos c1
  refine Sat.br (fun c=>?_) (fun c=>?_)
  ·simp only [Da] at c
   have hm:(aa ρ 0 4).opened=(aa ρ 0 4).era 3:=h0.trans (if_pos c)
   exact Sat.fin ⟨⟨(by first | exact o1 | exact o2 | exact o3 | exact aj rfl rfl | assumption),(by first | exact o2 | exact ⟨aj rfl rfl,Int.le_refl 0,.inl rfl⟩ | assumption),(by first | exact o1 | exact o2 | exact o3 | exact aj rfl rfl | assumption)⟩,Eq.trans (b:=(aa ρ 0 4).era 3) (RS.ext' rfl rfl rfl rfl rfl rfl bu bC rfl rfl rfl rfl bB rfl bz rfl rfl) (Eq.symm (hm))⟩
  ·simp only [Da] at c
   have hm:(aa ρ 0 4).opened=(aa ρ 0 4).done:=h0.trans (if_neg (fun h:ρ.iv 0=4∨ρ.iv 0=5=>by omega))
   exact Sat.fin ⟨⟨(by first | exact o1 | exact o2 | exact o3 | exact aj rfl rfl | assumption),(by first | exact o2 | exact ⟨aj rfl rfl,Int.le_refl 0,.inl rfl⟩ | assumption),(by first | exact o1 | exact o2 | exact o3 | exact aj rfl rfl | assumption)⟩,Eq.trans (b:=(aa ρ 0 4).done) (RS.ext' rfl rfl rfl rfl rfl rfl bu bC rfl rfl rfl rfl bB rfl bz rfl rfl) (Eq.symm (hm))⟩
 simp only [Da] at c1
 refine Sat.br (fun c2=>?_) (fun c2=>?_)
 ·simp only [Da] at c2
  have hm:(aa ρ 0 4).opened=(aa ρ 0 4).leave 0:=(if_neg c1).trans (if_pos c2)
  refine eH (c:=iw) rfl (aa ρ 0 4) ((aa ρ 0 4).leave 0) (by decide) (by decide) (jk rfl rfl rfl rfl) ⟨⟨o1,o2,o3⟩,hs,Int.le_refl 0,(show (0:Int)≤9 by decide)⟩ (RS.ext' rfl rfl rfl rfl rfl rfl bu bC rfl rfl rfl rfl bB rfl bz rfl rfl) (fun e hq hr=>⟨hq.1,by rw [←hr];exact hq.2⟩) (fun u=>(bE u 71)∧aa u 0 71=(aa u 0 4).opened) (fun e h1 h2=>⟨h1,h2.trans hm.symm⟩) fun u hu=>?_
  obtain ⟨⟨o1,o2,o3⟩,hm⟩:=hu
  exact Sat.fin ⟨⟨(by first | exact o1 | exact o2 | exact o3 | exact aj rfl rfl | assumption),(by first | exact o2 | exact ⟨aj rfl rfl,Int.le_refl 0,.inl rfl⟩ | assumption),(by first | exact o1 | exact o2 | exact o3 | exact aj rfl rfl | assumption)⟩,Eq.trans (b:=(aa u 0 71)) (RS.ext' rfl rfl rfl rfl rfl rfl bu bC rfl rfl rfl rfl bB rfl bz rfl rfl) (Eq.symm (hm.symm))⟩
 simp only [Da] at c2
 refine Sat.br (fun c3=>?_) (fun c3=>?_)
 ·simp only [Da] at c3
  have hm:(aa ρ 0 4).opened=(aa ρ 0 4).load 1 (ρ.iv 5) (ρ.iv 6) (ρ.iv 7):=(if_neg c1).trans ((if_neg c2).trans (if_pos c3))
  exact Sat.fin ⟨⟨(by first | exact o1 | exact o2 | exact o3 | exact aj rfl rfl | assumption),(by first | exact o2 | exact ⟨aj rfl rfl,Int.le_refl 0,.inl rfl⟩ | assumption),(by first | exact o1 | exact o2 | exact o3 | exact aj rfl rfl | assumption)⟩,Eq.trans (b:=(aa ρ 0 4).load 1 (ρ.iv 5) (ρ.iv 6) (ρ.iv 7)) (RS.ext' rfl rfl rfl rfl rfl rfl bu bC rfl rfl rfl rfl bB rfl bz rfl rfl) (Eq.symm (hm))⟩
 simp only [Da] at c3
 refine Sat.br (fun c4=>?_) (fun c4=>?_)
 ·simp only [Da] at c4
  have hm:(aa ρ 0 4).opened=(aa ρ 0 4).ask 1 ⟨2,ρ.iv 5,ρ.iv 6,ρ.iv 7,ak ρ 8,ak ρ 13⟩:=(if_neg c1).trans ((if_neg c2).trans ((if_neg c3).trans (if_pos c4)))
  exact Sat.fin ⟨⟨(by first | exact o1 | exact o2 | exact o3 | exact aj rfl rfl | assumption),(by first | exact o2 | exact ⟨aj rfl rfl,Int.le_refl 0,.inl rfl⟩ | assumption),(by first | exact o1 | exact o2 | exact o3 | exact aj rfl rfl | assumption)⟩,Eq.trans (b:=(aa ρ 0 4).ask 1 ⟨2,ρ.iv 5,ρ.iv 6,ρ.iv 7,ak ρ 8,ak ρ 13⟩) (RS.ext' rfl rfl rfl rfl rfl rfl bu bC rfl rfl rfl rfl bB rfl bz rfl rfl) (Eq.symm (hm))⟩
 simp only [Da] at c4
 refine Sat.br (fun c5=>?_) (fun c5=>?_)
 ·simp only [Da] at c5
  have hm:(aa ρ 0 4).opened=(aa ρ 0 4).ask 1 ⟨3,ρ.iv 5,ρ.iv 6,ρ.iv 7,ak ρ 8,ak ρ 13⟩:=(if_neg c1).trans ((if_neg c2).trans ((if_neg c3).trans ((if_neg c4).trans (if_pos c5))))
  exact Sat.fin ⟨⟨(by first | exact o1 | exact o2 | exact o3 | exact aj rfl rfl | assumption),(by first | exact o2 | exact ⟨aj rfl rfl,Int.le_refl 0,.inl rfl⟩ | assumption),(by first | exact o1 | exact o2 | exact o3 | exact aj rfl rfl | assumption)⟩,Eq.trans (b:=(aa ρ 0 4).ask 1 ⟨3,ρ.iv 5,ρ.iv 6,ρ.iv 7,ak ρ 8,ak ρ 13⟩) (RS.ext' rfl rfl rfl rfl rfl rfl bu bC rfl rfl rfl rfl bB rfl bz rfl rfl) (Eq.symm (hm))⟩
 simp only [Da] at c5
 refine Sat.br (fun c6=>?_) (fun c6=>?_)
 ·simp only [Da] at c6
  have hm:(aa ρ 0 4).opened=(aa ρ 0 4).load 5 (ρ.iv 5) (ρ.iv 6) (ρ.iv 7):=(if_neg c1).trans ((if_neg c2).trans ((if_neg c3).trans ((if_neg c4).trans ((if_neg c5).trans (if_pos c6)))))
  exact Sat.fin ⟨⟨(by first | exact o1 | exact o2 | exact o3 | exact aj rfl rfl | assumption),(by first | exact o2 | exact ⟨aj rfl rfl,Int.le_refl 0,.inl rfl⟩ | assumption),(by first | exact o1 | exact o2 | exact o3 | exact aj rfl rfl | assumption)⟩,Eq.trans (b:=(aa ρ 0 4).load 5 (ρ.iv 5) (ρ.iv 6) (ρ.iv 7)) (RS.ext' rfl rfl rfl rfl rfl rfl bu bC rfl rfl rfl rfl bB rfl bz rfl rfl) (Eq.symm (hm))⟩
 simp only [Da] at c6
 have hB:∀X:RS,(if ρ.iv 4=7 then (if (aa ρ 0 4).bI∧(aa ρ 0 4).holds (ρ.iv 18).toNat≠(aa ρ 0 4).holds (ρ.iv 19).toNat then (aa ρ 0 4).post 2 (ρ.iv 18) ((aa ρ 0 4).holds (ρ.iv 19).toNat) else (aa ρ 0 4).done)
     else if ρ.iv 4=8 then (if (aa ρ 0 4).bJ then (aa ρ 0 4).era 8 else (aa ρ 0 4).ask 1 ⟨4,0,0,0,Wd.zero,Wd.zero⟩)
     else if ρ.iv 4=9 then (aa ρ 0 4).ask 2 ⟨5,0,0,0,ak ρ 8,Wd.zero⟩ else if ρ.iv 4=10 then (aa ρ 0 4).fH else if ρ.iv 4=11 then (aa ρ 0 4).scan else aa ρ 0 4)=X→(aa ρ 0 4).opened=X :=
  fun X h=>((if_neg c1).trans ((if_neg c2).trans ((if_neg c3).trans ((if_neg c4).trans ((if_neg c5).trans (if_neg c6)))))).trans h
 refine Sat.br (fun c7=>?_) (fun c7=>?_)
 ·simp only [Da] at c7
  refine Sat.ob (by simp only [Da];omega) (Sat.ob (by simp only [Da];omega) (Sat.ob (by simp only [Da];omega) (Sat.ob (by simp only [Da];omega) (Sat.br (fun c=>?_) (fun c=>?_)))))
  ·simp only [Da] at c
   have hne:(aa ρ 0 4).holds (ρ.iv 18).toNat≠(aa ρ 0 4).holds (ρ.iv 19).toNat:=fun h=>by
    have h':=ou.1 h
    simp only [aa,aG] at h'
    simp_all
   have hm:(aa ρ 0 4).opened=(aa ρ 0 4).post 2 (ρ.iv 18) ((aa ρ 0 4).holds (ρ.iv 19).toNat):=hB _ ((if_pos c7).trans (if_pos ⟨c.1,hne⟩))
   refine Sat.ob (decide_eq_true m1) (Sat.ob (by simp only [Da];omega) (Sat.ob (decide_eq_true n1) (Sat.ob (by simp only [Da];omega) (Sat.iL (c:=fT) rfl ⟨⟨hs.1,hs.2.1⟩,n1,n2⟩ (fun r=>((bE r 4)∧0≤r.iv 18)∧(aa r 0 4).opened=(aa r 0 4).post 2 (r.iv 18) ((aa r 0 4).holds (r.iv 19).toNat)) (fun e _=>⟨⟨⟨o1,o2,o3⟩,n1⟩,hm⟩) fun r hr=>?_))))
   obtain ⟨⟨⟨o1,o2,o3⟩,i1⟩,hm⟩:=hr
   refine Sat.fin ⟨⟨(by first | exact o1 | exact o2 | exact o3 | exact aj rfl rfl | assumption),(by first | exact o2 | exact ⟨aj rfl rfl,Int.le_refl 0,.inl rfl⟩ | assumption),(by first | exact o1 | exact o2 | exact o3 | exact aj rfl rfl | assumption)⟩,Eq.trans (b:=(aa r 0 4).post 2 (r.iv 18) ((aa r 0 4).holds (r.iv 19).toNat)) (RS.ext' rfl rfl rfl rfl rfl rfl bu bC rfl rfl rfl rfl ?_ rfl bz rfl rfl) (Eq.symm (hm))⟩
   intro i
   show _=if i=(r.iv 18).toNat then aG (r.ic 54 (r.iv 19).toNat 0) (r.bc 54 (r.iv 19).toNat 0) else aG (r.ic 54 i 0) (r.bc 54 i 0)
   by_cases h:i=(r.iv 18).toNat
   ·subst h
    simp [aa,aG,Wd.dS,ak,-Int.pred_toNat,Sub.ag,assoc,CV.I,CV.B,ah,ai,ae.I,ae.B,SC.I,SC.B,IE.den,BE.den]
   ·simp [aa,aG,-Int.pred_toNat,Sub.ag,assoc,CV.I,CV.B,ah,ai,ae.I,ae.B,SC.I,SC.B,IE.den,BE.den,h,Ne.symm h]
  ·simp only [Da] at c
   have he:¬((aa ρ 0 4).bI∧(aa ρ 0 4).holds (ρ.iv 18).toNat≠(aa ρ 0 4).holds (ρ.iv 19).toNat):=by
    rintro ⟨h1,h2⟩
    have h1:ρ.iv 0=2∨ρ.iv 0=3:=h1
    apply h2
    apply ou.2
    simp only [aa,aG]
    rcases c with c | c
    ·omega
    ·exact c
   have hm:(aa ρ 0 4).opened=(aa ρ 0 4).done:=hB _ ((if_pos c7).trans (if_neg he))
   exact Sat.fin ⟨⟨(by first | exact o1 | exact o2 | exact o3 | exact aj rfl rfl | assumption),(by first | exact o2 | exact ⟨aj rfl rfl,Int.le_refl 0,.inl rfl⟩ | assumption),(by first | exact o1 | exact o2 | exact o3 | exact aj rfl rfl | assumption)⟩,Eq.trans (b:=(aa ρ 0 4).done) (RS.ext' rfl rfl rfl rfl rfl rfl bu bC rfl rfl rfl rfl bB rfl bz rfl rfl) (Eq.symm (hm))⟩
 simp only [Da] at c7
 refine Sat.br (fun c8=>?_) (fun c8=>?_)
 ·simp only [Da] at c8
  refine Sat.br (fun c=>?_) (fun c=>?_)
  ·simp only [Da] at c
   have hm:(aa ρ 0 4).opened=(aa ρ 0 4).era 8:=hB _ ((if_neg c7).trans ((if_pos c8).trans (if_pos c)))
   exact Sat.fin ⟨⟨(by first | exact o1 | exact o2 | exact o3 | exact aj rfl rfl | assumption),(by first | exact o2 | exact ⟨aj rfl rfl,Int.le_refl 0,.inl rfl⟩ | assumption),(by first | exact o1 | exact o2 | exact o3 | exact aj rfl rfl | assumption)⟩,Eq.trans (b:=(aa ρ 0 4).era 8) (RS.ext' rfl rfl rfl rfl rfl rfl bu bC rfl rfl rfl rfl bB rfl bz rfl rfl) (Eq.symm (hm))⟩
  ·simp only [Da] at c
   have hm:(aa ρ 0 4).opened=(aa ρ 0 4).ask 1 ⟨4,0,0,0,Wd.zero,Wd.zero⟩:=hB _ ((if_neg c7).trans ((if_pos c8).trans (if_neg (fun h:ρ.iv 0=3∨ρ.iv 0=5=>by omega))))
   exact Sat.fin ⟨⟨(by first | exact o1 | exact o2 | exact o3 | exact aj rfl rfl | assumption),(by first | exact o2 | exact ⟨aj rfl rfl,Int.le_refl 0,.inl rfl⟩ | assumption),(by first | exact o1 | exact o2 | exact o3 | exact aj rfl rfl | assumption)⟩,Eq.trans (b:=(aa ρ 0 4).ask 1 ⟨4,0,0,0,Wd.zero,Wd.zero⟩) (RS.ext' rfl rfl rfl rfl rfl rfl bu bC rfl rfl rfl rfl bB rfl bz rfl rfl) (Eq.symm (hm))⟩
 simp only [Da] at c8
 refine Sat.br (fun c9=>?_) (fun c9=>?_)
 ·simp only [Da] at c9
  have hm:(aa ρ 0 4).opened=(aa ρ 0 4).ask 2 ⟨5,0,0,0,ak ρ 8,Wd.zero⟩:=hB _ ((if_neg c7).trans ((if_neg c8).trans (if_pos c9)))
  exact Sat.fin ⟨⟨(by first | exact o1 | exact o2 | exact o3 | exact aj rfl rfl | assumption),(by first | exact o2 | exact ⟨aj rfl rfl,Int.le_refl 0,.inl rfl⟩ | assumption),(by first | exact o1 | exact o2 | exact o3 | exact aj rfl rfl | assumption)⟩,Eq.trans (b:=(aa ρ 0 4).ask 2 ⟨5,0,0,0,ak ρ 8,Wd.zero⟩) (RS.ext' rfl rfl rfl rfl rfl rfl bu bC rfl rfl rfl rfl bB rfl bz rfl rfl) (Eq.symm (hm))⟩
 simp only [Da] at c9
 refine Sat.br (fun c10=>?_) (fun c10=>?_)
 ·simp only [Da] at c10
  have hm:(aa ρ 0 4).opened=(aa ρ 0 4).fH:=hB _ ((if_neg c7).trans ((if_neg c8).trans ((if_neg c9).trans (if_pos c10))))
  refine eH (c:=iZ) rfl (aa ρ 0 4) (aa ρ 0 4).fH (by decide) (by decide) (jk rfl rfl rfl rfl) ⟨⟨o1,o2,o3⟩,hs,hf⟩ (RS.ext' rfl rfl rfl rfl rfl rfl bu bC rfl rfl rfl rfl bB rfl bz rfl rfl) (fun e hq hr=>⟨hq.1,by rw [←hr];exact hq.2⟩) (fun u=>(bE u 71)∧aa u 0 71=(aa u 0 4).opened) (fun e h1 h2=>⟨h1,h2.trans hm.symm⟩) fun u hu=>?_
  obtain ⟨⟨o1,o2,o3⟩,hm⟩:=hu
  exact Sat.fin ⟨⟨(by first | exact o1 | exact o2 | exact o3 | exact aj rfl rfl | assumption),(by first | exact o2 | exact ⟨aj rfl rfl,Int.le_refl 0,.inl rfl⟩ | assumption),(by first | exact o1 | exact o2 | exact o3 | exact aj rfl rfl | assumption)⟩,Eq.trans (b:=(aa u 0 71)) (RS.ext' rfl rfl rfl rfl rfl rfl bu bC rfl rfl rfl rfl bB rfl bz rfl rfl) (Eq.symm (hm.symm))⟩
 simp only [Da] at c10
 refine Sat.br (fun c11=>?_) (fun c11=>?_)
 ·simp only [Da] at c11
  have hm:(aa ρ 0 4).opened=(aa ρ 0 4).scan:=hB _ ((if_neg c7).trans ((if_neg c8).trans ((if_neg c9).trans ((if_neg c10).trans (if_pos c11)))))
  refine eH (c:=ja) rfl (aa ρ 0 4) (aa ρ 0 4).scan (by decide) (by decide) (jk rfl rfl rfl rfl) ⟨⟨o1,o2,o3⟩,hs⟩ (RS.ext' rfl rfl rfl rfl rfl rfl bu bC rfl rfl rfl rfl bB rfl bz rfl rfl) (fun e hq hr=>⟨hq.1,by rw [←hr];exact hq.2⟩) (fun u=>(bE u 71)∧aa u 0 71=(aa u 0 4).opened) (fun e h1 h2=>⟨h1,h2.trans hm.symm⟩) fun u hu=>?_
  obtain ⟨⟨o1,o2,o3⟩,hm⟩:=hu
  exact Sat.fin ⟨⟨(by first | exact o1 | exact o2 | exact o3 | exact aj rfl rfl | assumption),(by first | exact o2 | exact ⟨aj rfl rfl,Int.le_refl 0,.inl rfl⟩ | assumption),(by first | exact o1 | exact o2 | exact o3 | exact aj rfl rfl | assumption)⟩,Eq.trans (b:=(aa u 0 71)) (RS.ext' rfl rfl rfl rfl rfl rfl bu bC rfl rfl rfl rfl bB rfl bz rfl rfl) (Eq.symm (hm.symm))⟩
 ·simp only [Da] at c11
  have hm:(aa ρ 0 4).opened=aa ρ 0 4:=hB _ ((if_neg c7).trans ((if_neg c8).trans ((if_neg c9).trans ((if_neg c10).trans (if_neg c11)))))
  exact Sat.fin ⟨⟨(by first | exact o1 | exact o2 | exact o3 | exact aj rfl rfl | assumption),(by first | exact o2 | exact ⟨aj rfl rfl,Int.le_refl 0,.inl rfl⟩ | assumption),(by first | exact o1 | exact o2 | exact o3 | exact aj rfl rfl | assumption)⟩,Eq.trans (b:=(aa ρ 0 4)) (RS.ext' rfl rfl rfl rfl rfl rfl bu bC rfl rfl rfl rfl bB rfl bz rfl rfl) (Eq.symm (hm))⟩
theorem Tj:bf Tryz.prog kY Ab Cb :=
 dw dY (E:=U9) (cs:=NL) rfl Wt bZ rfl Tg (by kernel_rfl) (fun ρ _ p hp=>by cases hp) Ti
structure Lo where
 av:Int
 me:Int
 threads:Int
 most:Int
 h:Nat→Wd
 s:Sp
 notes:List Nt
 freed:Int
namespace Lo
variable (l:Lo)
def bI:Prop:=l.av=2∨l.av=3
def bJ:Prop:=l.av=3∨l.av=5
def bW:Prop:=l.av=4∨l.av=5
instance:Decidable l.bI:=by unfold bI;exact inferInstance
instance:Decidable l.bJ:=by unfold bJ;exact inferInstance
instance:Decidable l.bW:=by unfold bW;exact inferInstance
def hold (n:Int) (w:Wd):Lo:={l with h:=fun i=>if i=n.toNat then w else l.h i}
def all:Int:=if l.bI then l.threads * 9 else l.threads
def base:Int:=if l.bI then 25 else 79
end Lo
inductive RT where
 | idle (x:Rp)
 | one (a:Ac)
 | fin (a:Ac)
 | qy
 | ji (i:Int)
 | gK (c:Ca)
 | jq (c:Ca) (w:Wd)
 | iE (c:Ca) (a:Ac)
 | wT
 | lS (old:Wd)
 | lT (old:Wd) (b:Int)
 | mE (clock:Wd)
 | qz
 | gY (clock:Wd) (seen:List Wd)
 | qA (clock:Wd)
 | iQ
 | jT (d:Nt) (l:List Nt)
def Ac.load (slot gen field:Int):Ac:=⟨1,slot,gen,field,Wd.zero,Wd.zero⟩
def Ac.era:Ac:=Ac.load 0 0 24
def Ac.eu (clock:Wd):Ac:=⟨3,0,0,24,clock,⟨0,0,clock.tag+1,clock.num+1,false⟩⟩
def Ac.store (slot gen field:Int) (w:Wd):Ac:=⟨2,slot,gen,field,Wd.zero,w⟩
def RT.acc (l:Lo):RT→Ac
 | .idle _=>Ac.zero
 | .one a=>a
 | .fin a=>a
 | .qy=>Ac.era
 | .ji i=>Ac.store 0 0 (25+l.me * 9+i) Wd.zero
 | .gK c=>Ac.load c.slot c.gen c.field
 | .jq _ _=>Ac.era
 | .iE _ a=>a
 | .wT=>Ac.era
 | .lS old=>Ac.load old.slot old.gen 9
 | .lT _ _=>Ac.era
 | .mE clock=>Ac.eu clock
 | .qz=>Ac.era
 | .gY _ seen=>Ac.load 0 0 (l.base+seen.length)
 | .qA clock=>Ac.eu clock
 | .iQ=>Ac.era
 | .jT d _=>⟨5,0,0,0,d.ref,Wd.zero⟩
def RT.iF:RT→Int
 | .idle _=>0
 | .one _=>1
 | .fin _=>2
 | .qy=>3
 | .ji _=>4
 | .gK _=>5
 | .jq _ _=>6
 | .iE _ _=>7
 | .wT=>8
 | .lS _=>9
 | .lT _ _=>10
 | .mE _=>11
 | .qz=>12
 | .gY _ _=>13
 | .qA _=>14
 | .iQ=>15
 | .jT _ _=>16
def Rp.yes:Rp:=⟨Wd.zero,true⟩
abbrev LR:=Lo × RT
namespace RT
def j6 (l:Lo) (s:Sp):Ac:=Ac.store 0 0 (79+l.me) (RS.qM s)
def leave (l:Lo) (start:Int):LR :=
 if l.bW∧l.s≠Sp.zero then ({l with s:=Sp.zero},.fin (j6 l Sp.zero))
 else if l.bI then
  match RS.first l.h start.toNat (9-start.toNat) with
  | some n=>(l.hold n Wd.zero,.ji n)
  | none=>(l,.idle Rp.yes)
 else (l,.idle Rp.yes)
def scan (l:Lo):LR :=
 if l.av=1 then (l,.idle Rp.yes)
 else if l.av=4 then (l,.qz)
 else (l,.gY Wd.zero [])
def dC (l:Lo):LR:=if l.notes.length≥l.most then scan l else (l,.idle Rp.yes)
def note (l:Lo) (old:Wd) (b d:Int):Lo:={l with notes:=l.notes ++ [⟨old.dS,b,d⟩]}
def fH (l:Lo) (old:Wd):LR :=
 if l.av=2 then dC (note l old 0 0)
 else if l.av=4 then (l,.lT old 0)
 else if l.av=3∨l.av=5 then (l,.lS old)
 else (l,.idle Rp.yes)
def begin (l:Lo) (c:Ca):LR :=
 if c.kind=1 then (if l.bW then (l,.qy) else (l,.idle Rp.yes))
 else if c.kind=2 then leave l 0
 else if c.kind=3 then (l,.one (Ac.load c.slot c.gen c.field))
 else if c.kind=4 then (l,.one ⟨2,c.slot,c.gen,c.field,c.old,c.new⟩)
 else if c.kind=5 then (l,.one ⟨3,c.slot,c.gen,c.field,c.old,c.new⟩)
 else if c.kind=6 then (l,.gK c)
 else if c.kind=7 then (if l.bI∧l.h c.i.toNat≠l.h c.j.toNat then (l.hold c.i (l.h c.j.toNat),.fin (Ac.store 0 0 (25+l.me * 9+c.i) (l.h c.j.toNat))) else (l,.idle Rp.yes))
 else if c.kind=8 then (if l.bJ then (l,.wT) else (l,.one ⟨4,0,0,0,Wd.zero,Wd.zero⟩))
 else if c.kind=9 then (l,.fin ⟨5,0,0,0,c.old,Wd.zero⟩)
 else if c.kind=10 then fH l c.old
 else scan l
def dE (l:Lo) (i now:Int):Prop :=
 if l.av=3 then l.h i.toNat≠Wd.zero∧(l.h i.toNat).num=now
 else l.s.is=true∧l.s.high=now
instance (l:Lo) (i now:Int):Decidable (dE l i now):=by unfold dE;exact inferInstance
def kept (l:Lo) (clock:Wd) (seen:List Wd) (n:Nt):Bool :=
 if l.av=2 then seen.any fun w=>RS.wI w n
 else if l.av=3 then seen.any fun w=>RS.uU w.num n
 else if l.av=5 then seen.any fun w=>RS.rY (RS.jP w) n
 else RS.qa clock.num n
def ed (l:Lo):List Nt→LR
 | []=>(l,.idle Rp.yes)
 | d :: r=>(l,.jT d r)
def fV (l:Lo) (clock:Wd) (seen:List Wd):LR:=ed l (l.notes.filter fun n=>!kept l clock seen n)
def bL (l:Lo):RT→Rp→LR
 | .idle x,_=>(l,.idle x)
 | .one _,x=>(l,.idle x)
 | .fin _,_=>(l,.idle Rp.yes)
 | .qy,x=>({l with s:=⟨true,x.word.num,x.word.num⟩},.fin (j6 l ⟨true,x.word.num,x.word.num⟩))
 | .ji i,_=>leave l (i+1)
 | .gK c,x =>
  if l.bJ then (l,.jq c x.word)
  else if l.av=2∧x.word.slot≠0∧l.h c.i.toNat≠x.word.dS then (l.hold c.i x.word.dS,.iE c (Ac.store 0 0 (25+l.me * 9+c.i) x.word.dS))
  else (l,.idle ⟨x.word,true⟩)
 | .jq c w,x =>
  if dE l c.i x.word.num then (l,.idle ⟨w,true⟩)
  else if l.av=3 then (l.hold c.i (Wd.dK x.word.num),.iE c (Ac.store 0 0 (25+l.me * 9+c.i) (Wd.dK x.word.num)))
  else ({l with s:=⟨true,if l.s.is=true then l.s.low else x.word.num,x.word.num⟩},.iE c (j6 l ⟨true,if l.s.is=true then l.s.low else x.word.num,x.word.num⟩))
 | .iE c _,_=>(l,.gK c)
 | .wT,x=>(l,.one ⟨4,0,0,0,Wd.zero,Wd.dK x.word.num⟩)
 | .lS old,x=>(l,.lT old x.word.num)
 | .lT old b,x=>if l.bJ then (note l old b x.word.num,.mE x.word) else dC (note l old b x.word.num)
 | .mE _,_=>dC l
 | .qz,x=>(l,.gY x.word [])
 | .gY clock seen,x =>
  if (seen.length:Int)+1<l.all then (l,.gY clock (seen ++ [x.word]))
  else if l.av≠4 then fV l clock (seen ++ [x.word])
  else if RS.may clock.num ((seen ++ [x.word]).map RS.jP)=true then (l,.qA clock)
  else (l,.iQ)
 | .qA _,_=>(l,.iQ)
 | .iQ,x=>fV l x.word []
 | .jT d r,_=>ed {l with notes:=l.notes.erase d,freed:=l.freed+1} r
end RT
structure ib (l:Lo) (t:RT) (r:RS):Prop where
 av:r.av=l.av
 me:r.me=l.me
 threads:r.threads=l.threads
 most:r.most=l.most
 holds:r.holds=l.h
 span:r.span=l.s
 notes:r.notes=l.notes
 freed:r.freed=l.freed
 step:r.step=t.iF
 acc:t.iF≠0→r.acc=t.acc l
 more:match t with
  | .idle x=>r.bT=x
  | .ji i=>r.index=i
  | .gK c=>r.call=c
  | .jq c w=>r.call=c∧r.word=w
  | .iE c _=>r.call=c
  | .lS old=>r.call.old=old∧r.seen=[]
  | .lT old b=>r.call.old=old∧r.word.num=b∧r.seen=[]
  | .mE _=>r.seen=[]
  | .qz=>r.seen=[]
  | .gY clock seen=>(l.av=4→r.clock=clock)∧r.seen=seen∧r.index=seen.length
  | .jT d rest=>r.bG=d :: rest
  | _=>True
structure Lo.OK (l:Lo):Prop where
 av:1≤l.av∧l.av≤5
 me:0≤l.me∧l.me<l.threads
 threads:1≤l.threads∧l.threads≤6
 most:1≤l.most
section
variable {l:Lo} {r:RS}
theorem ib.bI {t:RT} (h:ib l t r):r.bI↔l.bI:=by simp only [RS.bI,Lo.bI,h.av]
theorem ib.bJ {t:RT} (h:ib l t r):r.bJ↔l.bJ:=by simp only [RS.bJ,Lo.bJ,h.av]
theorem ib.bW {t:RT} (h:ib l t r):r.bW↔l.bW:=by simp only [RS.bW,Lo.bW,h.av]
end
structure bQ (l:Lo) (r:RS):Prop where
 av:r.av=l.av
 me:r.me=l.me
 threads:r.threads=l.threads
 most:r.most=l.most
 holds:r.holds=l.h
 span:r.span=l.s
 notes:r.notes=l.notes
 freed:r.freed=l.freed
theorem ib.keeps {l:Lo} {t:RT} {r:RS} (h:ib l t r):bQ l r:=⟨h.av,h.me,h.threads,h.most,h.holds,h.span,h.notes,h.freed⟩
section
variable {l:Lo} {r:RS}
theorem bQ.bI (h:bQ l r):r.bI↔l.bI:=by simp only [RS.bI,Lo.bI,h.av]
theorem bQ.bJ (h:bQ l r):r.bJ↔l.bJ:=by simp only [RS.bJ,Lo.bJ,h.av]
theorem bQ.bW (h:bQ l r):r.bW↔l.bW:=by simp only [RS.bW,Lo.bW,h.av]
theorem bQ.fin (h:bQ l r) (x:Rp):ib l (.idle x) (r.finish x) :=
 ⟨h.av,h.me,h.threads,h.most,h.holds,h.span,h.notes,h.freed,rfl,fun h=>absurd rfl h,rfl⟩
theorem bQ.done (h:bQ l r):ib l (.idle Rp.yes) r.done:=h.fin _
theorem bQ.ask (h:bQ l r) {t:RT} {a:Ac} (h0:t.iF≠0) (ha:a=t.acc l) (hm:match t with
    | .idle x=>r.bT=x
    | .ji i=>r.index=i
    | .gK c=>r.call=c
    | .jq c w=>r.call=c∧r.word=w
    | .iE c _=>r.call=c
    | .lS old=>r.call.old=old∧r.seen=[]
    | .lT old b=>r.call.old=old∧r.word.num=b∧r.seen=[]
    | .mE _=>r.seen=[]
    | .qz=>r.seen=[]
    | .gY clock seen=>(l.av=4→r.clock=clock)∧r.seen=seen∧r.index=seen.length
    | .jT d rest=>r.bG=d :: rest
    | _=>True):ib l t (r.ask t.iF a):=by
 refine ⟨h.av,h.me,h.threads,h.most,h.holds,h.span,h.notes,h.freed,rfl,fun _=>ha,?_⟩
 cases t <;> exact hm
theorem bQ.hold (h:bQ l r) (n:Int) (w:Wd):bQ (l.hold n w) (r.hold n w) :=
 ⟨h.av,h.me,h.threads,h.most,by simp only [RS.hold,Lo.hold,h.holds],h.span,h.notes,h.freed⟩
theorem bQ.leave (h:bQ l r) (n:Int):ib (RT.leave l n).1 (RT.leave l n).2 (r.leave n):=by
 have c1:(r.bW∧r.span≠Sp.zero)↔(l.bW∧l.s≠Sp.zero):=by rw [h.bW,h.span]
 unfold RS.leave RT.leave
 by_cases hA:l.bW∧l.s≠Sp.zero
 ·rw [if_pos (c1.2 hA),if_pos hA]
  refine bQ.ask (l:={l with s:=Sp.zero}) (r:={r with span:=Sp.zero}) (t:=.fin (RT.j6 l Sp.zero)) ⟨h.av,h.me,h.threads,h.most,h.holds,rfl,h.notes,h.freed⟩ (show (2:Int)≠0 by decide) ?_ trivial
  show (⟨2,0,0,79+r.me,Wd.zero,RS.qM Sp.zero⟩:Ac)=_
  rw [h.me];rfl
 ·rw [if_neg (fun x=>hA (c1.1 x)),if_neg hA]
  by_cases hB:l.bI
  ·rw [if_pos (h.bI.2 hB),if_pos hB]
   have e:RS.first r.holds n.toNat (9-n.toNat)=RS.first l.h n.toNat (9-n.toNat):=by rw [h.holds]
   rw [e]
   cases RS.first l.h n.toNat (9-n.toNat) with
   | some k =>
    refine bQ.ask (l:=l.hold k Wd.zero) (r:=({r with index:=k}:RS).hold k Wd.zero) (t:=.ji k) (bQ.hold (r:={r with index:=k}) ⟨h.av,h.me,h.threads,h.most,h.holds,h.span,h.notes,h.freed⟩ _ _) (show (4:Int)≠0 by decide) ?_ rfl
    show (⟨2,0,0,25+r.me * 9+k,Wd.zero,Wd.zero⟩:Ac)=_
    rw [h.me];rfl
   | none=>exact h.done
  ·rw [if_neg (fun x=>hB (h.bI.1 x)),if_neg hB]
   exact h.done
theorem bQ.look (h:bQ l r) (n:Int) {clock:Wd} {seen:List Wd} (hn:n=seen.length) (hc:l.av=4→r.clock=clock) (hs:r.seen=seen) :
  if n<l.all then ∃q,r.look n=some q∧ib l (.gY clock seen) q else r.look n=none:=by
 unfold RS.look Lo.all
 by_cases hB:l.bI
 ·rw [if_pos hB,if_pos (h.bI.2 hB)]
  have ht:=h.threads
  by_cases hn':n<l.threads * 9
  ·rw [if_pos hn',if_neg (by omega)]
   refine ⟨_,rfl,⟨h.av,h.me,h.threads,h.most,h.holds,h.span,h.notes,h.freed,rfl,fun _=>?_,hc,hs,hn⟩⟩
   show (⟨1,0,0,25+n,Wd.zero,Wd.zero⟩:Ac)=Ac.load 0 0 (l.base+seen.length)
   rw [hn,Lo.base,if_pos hB];rfl
  ·rw [if_neg hn',if_pos (by omega)]
 ·rw [if_neg hB,if_neg (fun x=>hB (h.bI.1 x))]
  have ht:=h.threads
  by_cases hn':n<l.threads
  ·rw [if_pos hn',if_neg (by omega)]
   refine ⟨_,rfl,⟨h.av,h.me,h.threads,h.most,h.holds,h.span,h.notes,h.freed,rfl,fun _=>?_,hc,hs,hn⟩⟩
   show (⟨1,0,0,79+n,Wd.zero,Wd.zero⟩:Ac)=Ac.load 0 0 (l.base+seen.length)
   rw [hn,Lo.base,if_neg hB];rfl
  ·rw [if_neg hn',if_pos (by omega)]
theorem Lo.OK.all {l:Lo} (h:l.OK):0<l.all:=by
 have:=h.threads
 unfold Lo.all
 split <;> omega
theorem bQ.Va (h:bQ l r) (ho:l.OK) {clock:Wd} (hc:l.av=4→r.clock=clock) (hs:r.seen=[]):ib l (.gY clock []) ((r.look 0).getD r):=by
 have:=h.look 0 (clock:=clock) (seen:=[]) rfl hc hs
 rw [if_pos ho.all] at this
 obtain ⟨q,h1,h2⟩:=this
 rw [h1]
 exact h2
theorem bQ.scan (h:bQ l r) (ho:l.OK) (hs:r.seen=[]):ib (RT.scan l).1 (RT.scan l).2 r.scan:=by
 unfold RS.scan RT.scan
 rw [h.av]
 by_cases h1:l.av=1
 ·rw [if_pos h1,if_pos h1];exact h.done
 ·rw [if_neg h1,if_neg h1]
  by_cases h4:l.av=4
  ·rw [if_pos h4,if_pos h4]
   exact h.ask (t:=.qz) (show (12:Int)≠0 by decide) rfl hs
  ·rw [if_neg h4,if_neg h4]
   exact h.Va ho (fun h=>absurd h h4) hs
theorem bQ.dC (h:bQ l r) (ho:l.OK) (hs:r.seen=[]):ib (RT.dC l).1 (RT.dC l).2 r.dC:=by
 unfold RS.dC RT.dC
 rw [h.notes,h.most]
 split
 ·exact h.scan ho hs
 ·exact h.done
theorem bQ.note (h:bQ l r) (b d:Int):bQ (RT.note l r.call.old b d) (r.note b d) :=
 ⟨h.av,h.me,h.threads,h.most,h.holds,h.span,by simp only [RS.note,RT.note,h.notes],h.freed⟩
theorem Lo.OK.note {l:Lo} (h:l.OK) (w:Wd) (b d:Int):(RT.note l w b d).OK:=⟨h.av,h.me,h.threads,h.most⟩
theorem bQ.fH (h:bQ l r) (ho:l.OK) (hs:r.seen=[]) (hw:r.word.num=0):ib (RT.fH l r.call.old).1 (RT.fH l r.call.old).2 r.fH:=by
 unfold RS.fH RT.fH
 rw [h.av]
 by_cases h2:l.av=2
 ·rw [if_pos h2,if_pos h2]
  exact (h.note 0 0).dC (ho.note _ _ _) hs
 rw [if_neg h2,if_neg h2]
 by_cases h4:l.av=4
 ·rw [if_pos h4,if_pos h4]
  exact h.ask (t:=.lT r.call.old 0) (show (10:Int)≠0 by decide) rfl ⟨rfl,hw,hs⟩
 rw [if_neg h4,if_neg h4]
 by_cases Vb:l.av=3∨l.av=5
 ·rw [if_pos Vb,if_pos Vb]
  exact h.ask (t:=.lS r.call.old) (show (9:Int)≠0 by decide) rfl ⟨rfl,hs⟩
 rw [if_neg Vb,if_neg Vb]
 exact h.done
def Ca.OK (c:Ca):Prop:=1≤c.kind∧c.kind≤11∧0≤c.i∧c.i<9∧0≤c.j∧c.j<9
theorem bQ.opened (h:bQ l r) (ho:l.OK) (hs:r.seen=[]) (hw:r.word.num=0) (hc:r.call.OK):ib (RT.begin l r.call).1 (RT.begin l r.call).2 r.opened:=by
 unfold RS.opened RT.begin
 simp only
 by_cases k1:r.call.kind=1
 ·rw [if_pos k1,if_pos k1]
  by_cases g:l.bW
  ·rw [if_pos g,if_pos (h.bW.2 g)]
   exact h.ask (t:=.qy) (show (3:Int)≠0 by decide) rfl trivial
  ·rw [if_neg g,if_neg (fun x=>g (h.bW.1 x))]
   exact h.done
 rw [if_neg k1,if_neg k1]
 by_cases k2:r.call.kind=2
 ·rw [if_pos k2,if_pos k2]
  exact h.leave 0
 rw [if_neg k2,if_neg k2]
 by_cases k3:r.call.kind=3
 ·rw [if_pos k3,if_pos k3]
  exact h.ask (t:=.one (Ac.load r.call.slot r.call.gen r.call.field)) (show (1:Int)≠0 by decide) rfl trivial
 rw [if_neg k3,if_neg k3]
 by_cases k4:r.call.kind=4
 ·rw [if_pos k4,if_pos k4]
  exact h.ask (t:=.one ⟨2,r.call.slot,r.call.gen,r.call.field,r.call.old,r.call.new⟩) (show (1:Int)≠0 by decide) rfl trivial
 rw [if_neg k4,if_neg k4]
 by_cases k5:r.call.kind=5
 ·rw [if_pos k5,if_pos k5]
  exact h.ask (t:=.one ⟨3,r.call.slot,r.call.gen,r.call.field,r.call.old,r.call.new⟩) (show (1:Int)≠0 by decide) rfl trivial
 rw [if_neg k5,if_neg k5]
 by_cases k6:r.call.kind=6
 ·rw [if_pos k6,if_pos k6]
  exact h.ask (t:=.gK r.call) (show (5:Int)≠0 by decide) rfl rfl
 rw [if_neg k6,if_neg k6]
 by_cases k7:r.call.kind=7
 ·rw [if_pos k7,if_pos k7]
  have e:(r.bI∧r.holds r.call.i.toNat≠r.holds r.call.j.toNat)↔(l.bI∧l.h r.call.i.toNat≠l.h r.call.j.toNat):=by rw [h.bI,h.holds]
  by_cases g:l.bI∧l.h r.call.i.toNat≠l.h r.call.j.toNat
  ·rw [if_pos g,if_pos (e.2 g)]
   have h':=h.hold r.call.i (l.h r.call.j.toNat)
   have e2:r.post 2 r.call.i (r.holds r.call.j.toNat)=(r.hold r.call.i (l.h r.call.j.toNat)).ask 2 ⟨2,0,0,25+l.me * 9+r.call.i,Wd.zero,l.h r.call.j.toNat⟩:=by
    unfold RS.post
    rw [h.holds,h.me]
   rw [e2]
   exact h'.ask (t:=.fin (Ac.store 0 0 (25+l.me * 9+r.call.i) (l.h r.call.j.toNat))) (show (2:Int)≠0 by decide) rfl trivial
  ·rw [if_neg g,if_neg (fun x=>g (e.1 x))]
   exact h.done
 rw [if_neg k7,if_neg k7]
 by_cases k8:r.call.kind=8
 ·rw [if_pos k8,if_pos k8]
  by_cases g:l.bJ
  ·rw [if_pos g,if_pos (h.bJ.2 g)]
   exact h.ask (t:=.wT) (show (8:Int)≠0 by decide) rfl trivial
  ·rw [if_neg g,if_neg (fun x=>g (h.bJ.1 x))]
   exact h.ask (t:=.one ⟨4,0,0,0,Wd.zero,Wd.zero⟩) (show (1:Int)≠0 by decide) rfl trivial
 rw [if_neg k8,if_neg k8]
 by_cases k9:r.call.kind=9
 ·rw [if_pos k9,if_pos k9]
  exact h.ask (t:=.fin ⟨5,0,0,0,r.call.old,Wd.zero⟩) (show (2:Int)≠0 by decide) rfl trivial
 rw [if_neg k9,if_neg k9]
 by_cases k10:r.call.kind=10
 ·rw [if_pos k10,if_pos k10]
  exact h.fH ho hs hw
 rw [if_neg k10,if_neg k10,if_pos (by have:=hc.1;have:=hc.2.1;omega)]
 exact h.scan ho hs
theorem ib.begin {x:Rp} (h:ib l (.idle x) r) (ho:l.OK) {c:Ca} (hc:c.OK):ib (RT.begin l c).1 (RT.begin l c).2 (r.begin c).1∧(r.begin c).2=true:=by
 have hs:r.step=0:=h.step
 unfold RS.begin
 obtain ⟨c1,c2,c3,c4,c5,c6⟩:=hc
 rw [if_neg (by omega),if_neg (by omega),if_neg (by omega)]
 exact ⟨bQ.opened (r:={r with call:=c,step:=0,acc:=Ac.zero,word:=Wd.zero,clock:=Wd.zero,index:=0,seen:=[],bG:=[]}) ⟨h.av,h.me,h.threads,h.most,h.holds,h.span,h.notes,h.freed⟩ ho rfl rfl ⟨c1,c2,c3,c4,c5,c6⟩,rfl⟩
theorem bQ.eB (h:bQ l r) (s:Sp) {t:RT} (ht:t=.fin (RT.j6 l s)∨∃c,t=.iE c (RT.j6 l s)∧r.call=c):ib {l with s:=s} t (r.eB t.iF s):=by
 have h':bQ {l with s:=s} {r with span:=s}:=⟨h.av,h.me,h.threads,h.most,h.holds,rfl,h.notes,h.freed⟩
 have e:(⟨2,0,0,79+r.me,Wd.zero,RS.qM s⟩:Ac)=RT.j6 l s:=by rw [h.me];rfl
 unfold RS.eB
 rw [e]
 rcases ht with rfl | ⟨c,rfl,hc⟩
 ·exact h'.ask (t:=.fin (RT.j6 l s)) (show (2:Int)≠0 by decide) rfl trivial
 ·exact h'.ask (t:=.iE c (RT.j6 l s)) (show (7:Int)≠0 by decide) rfl hc
theorem bQ.ed (h:bQ l r):ib (RT.ed l r.bG).1 (RT.ed l r.bG).2 r.ed:=by
 unfold RS.ed RT.ed
 cases hd:r.bG with
 | nil=>exact h.done
 | cons d q=>exact h.ask (t:=.jT d q) (show (16:Int)≠0 by decide) rfl hd
theorem bQ.fV (h:bQ l r) (ho:l.OK) (h1:l.av≠1) {clock:Wd} {seen:List Wd} (hc:l.av=4→r.clock=clock) (hs:r.seen=seen∨l.av=4):ib (RT.fV l clock seen).1 (RT.fV l clock seen).2 r.fV:=by
 have ho1:=ho.av
 unfold RS.fV RT.fV
 rw [if_pos (by rw [h.av];omega)]
 have e:(r.notes.filter fun n=>!r.kept n)=l.notes.filter fun n=>!RT.kept l clock seen n:=by
  rw [h.notes]
  congr 1
  funext n
  congr 1
  unfold RS.kept RT.kept
  rw [h.av]
  split
  ·rename_i e;rcases hs with hs | hs
   ·rw [hs]
   ·omega
  split
  ·rcases hs with hs | hs
   ·rw [hs]
   ·omega
  split
  ·rcases hs with hs | hs
   ·rw [hs]
   ·omega
  rw [if_pos (by omega),hc (by omega)]
 have:=bQ.ed (l:=l) (r:={r with bG:=r.notes.filter fun n=>!r.kept n}) ⟨h.av,h.me,h.threads,h.most,h.holds,h.span,h.notes,h.freed⟩
 rw [e] at this
 rw [e]
 exact this
def RT.fits (l:Lo):RT→Prop
 | .jq _ _=>l.bJ
 | .qz | .qA _ | .iQ=>l.av=4
 | .gY _ _=>l.av≠1
 | .gK c | .iE c _=>0≤c.i∧c.i<9
 | _=>True
theorem ib.bL {t:RT} (h:ib l t r) (ho:l.OK) (hf:t.fits l) (h0:t.iF≠0) (x:Rp):ib (RT.bL l t x).1 (RT.bL l t x).2 (r.bL x).1∧(r.bL x).2=true:=by
 have hk:=h.keeps
 have hs:=h.step
 have hm:=h.more
 unfold RS.bL
 cases t with
 | idle y=>exact absurd rfl h0
 | one a =>
  replace hs:r.step=1:=hs
  rw [if_neg (by omega),if_pos hs]
  exact ⟨hk.fin x,rfl⟩
 | fin a =>
  replace hs:r.step=2:=hs
  rw [if_neg (by omega),if_neg (by omega),if_pos hs]
  exact ⟨hk.done,rfl⟩
 | qy =>
  replace hs:r.step=3:=hs
  rw [if_neg (by omega),if_neg (by omega),if_neg (by omega),if_pos hs]
  exact ⟨hk.eB _ (t:=.fin _) (.inl rfl),rfl⟩
 | ji i =>
  replace hs:r.step=4:=hs
  replace hm:r.index=i:=hm
  rw [if_neg (by omega),if_neg (by omega),if_neg (by omega),if_neg (by omega),if_pos hs,hm]
  exact ⟨hk.leave _,rfl⟩
 | wT =>
  replace hs:r.step=8:=hs
  rw [if_neg (by omega),if_neg (by omega),if_neg (by omega),if_neg (by omega),if_neg (by omega),if_pos hs]
  exact ⟨hk.ask (t:=.one _) (show (1:Int)≠0 by decide) rfl trivial,rfl⟩
 | iE c a =>
  replace hs:r.step=7:=hs
  replace hm:r.call=c:=hm
  subst hm
  rw [if_neg (by omega),if_neg (by omega),if_neg (by omega),if_neg (by omega),if_neg (by omega),if_neg (by omega),if_pos (by omega)]
  refine ⟨?_,rfl⟩
  unfold RS.bA
  simp only
  rw [if_pos hs]
  exact hk.ask (t:=.gK r.call) (show (5:Int)≠0 by decide) rfl rfl
 | gK c =>
  replace hs:r.step=5:=hs
  replace hm:r.call=c:=hm
  subst hm
  rw [if_neg (by omega),if_neg (by omega),if_neg (by omega),if_neg (by omega),if_neg (by omega),if_neg (by omega),if_pos (by omega)]
  refine ⟨?_,rfl⟩
  have hk':bQ l {r with word:=x.word}:=⟨h.av,h.me,h.threads,h.most,h.holds,h.span,h.notes,h.freed⟩
  unfold RS.bA
  simp only
  rw [if_neg (by omega),if_pos hs]
  show ib (if l.bJ then _ else _:LR).1 (if l.bJ then _ else _:LR).2 _
  by_cases hd:l.bJ
  ·rw [if_pos (h.bJ.2 hd),if_pos hd]
   exact hk'.ask (t:=.jq r.call x.word) (show (6:Int)≠0 by decide) rfl ⟨rfl,rfl⟩
  rw [if_neg (fun y=>hd (h.bJ.1 y)),if_neg hd]
  have e:(r.av=2∧x.word.slot≠0∧r.holds r.call.i.toNat≠x.word.dS)↔(l.av=2∧x.word.slot≠0∧l.h r.call.i.toNat≠x.word.dS):=by rw [h.av,h.holds]
  by_cases g:l.av=2∧x.word.slot≠0∧l.h r.call.i.toNat≠x.word.dS
  ·rw [if_pos (e.2 g),if_pos g]
   have e2:({r with word:=x.word}:RS).post 7 r.call.i x.word.dS=(({r with word:=x.word}:RS).hold r.call.i x.word.dS).ask 7 (Ac.store 0 0 (25+l.me * 9+r.call.i) x.word.dS):=by
    unfold RS.post
    rw [show ({r with word:=x.word}:RS).me=l.me from h.me]
    rfl
   rw [e2]
   exact (hk'.hold r.call.i x.word.dS).ask (t:=.iE r.call (Ac.store 0 0 (25+l.me * 9+r.call.i) x.word.dS)) (show (7:Int)≠0 by decide) rfl rfl
  ·rw [if_neg (fun y=>g (e.1 y)),if_neg g]
   exact hk'.fin _
 | jq c w =>
  replace hs:r.step=6:=hs
  obtain ⟨hm,hw⟩:r.call=c∧r.word=w:=hm
  subst hm hw
  rw [if_neg (by omega),if_neg (by omega),if_neg (by omega),if_neg (by omega),if_neg (by omega),if_neg (by omega),if_pos (by omega)]
  refine ⟨?_,rfl⟩
  unfold RS.bA
  simp only
  rw [if_neg (by omega),if_neg (by omega),if_pos hs]
  show ib (if RT.dE l r.call.i x.word.num then _ else _:LR).1 (if RT.dE l r.call.i x.word.num then _ else _:LR).2 _
  have e:r.dE r.call.i x.word.num↔RT.dE l r.call.i x.word.num:=by unfold RS.dE RT.dE;rw [h.av,h.holds,h.span]
  by_cases g:RT.dE l r.call.i x.word.num
  ·rw [if_pos (e.2 g),if_pos g]
   exact hk.fin _
  rw [if_neg (fun y=>g (e.1 y)),if_neg g,h.av]
  by_cases g3:l.av=3
  ·rw [if_pos g3,if_pos g3]
   have e2:r.post 7 r.call.i (Wd.dK x.word.num)=(r.hold r.call.i (Wd.dK x.word.num)).ask 7 (Ac.store 0 0 (25+l.me * 9+r.call.i) (Wd.dK x.word.num)):=by
    unfold RS.post
    rw [h.me]
    rfl
   rw [e2]
   exact (hk.hold r.call.i _).ask (t:=.iE r.call (Ac.store 0 0 (25+l.me * 9+r.call.i) (Wd.dK x.word.num))) (show (7:Int)≠0 by decide) rfl rfl
  ·rw [if_neg g3,if_neg g3,h.span]
   exact hk.eB _ (t:=.iE r.call _) (.inr ⟨_,rfl,rfl⟩)
 | lS old =>
  replace hs:r.step=9:=hs
  obtain ⟨h1,h2⟩:r.call.old=old∧r.seen=[]:=hm
  rw [if_neg (by omega),if_neg (by omega),if_neg (by omega),if_neg (by omega),if_neg (by omega),if_neg (by omega),if_neg (by omega),if_pos (by omega)]
  refine ⟨?_,rfl⟩
  unfold RS.dZ
  rw [if_pos hs]
  have hk':bQ l {r with word:=x.word}:=⟨h.av,h.me,h.threads,h.most,h.holds,h.span,h.notes,h.freed⟩
  exact hk'.ask (t:=.lT old x.word.num) (show (10:Int)≠0 by decide) rfl ⟨h1,rfl,h2⟩
 | lT old b =>
  replace hs:r.step=10:=hs
  obtain ⟨h1,h2,h3⟩:r.call.old=old∧r.word.num=b∧r.seen=[]:=hm
  rw [if_neg (by omega),if_neg (by omega),if_neg (by omega),if_neg (by omega),if_neg (by omega),if_neg (by omega),if_neg (by omega),if_pos (by omega)]
  refine ⟨?_,rfl⟩
  unfold RS.dZ
  simp only
  rw [if_neg (by omega),if_pos hs,h2]
  show ib (if l.bJ then _ else _:LR).1 (if l.bJ then _ else _:LR).2 _
  have hk':bQ l {r with clock:=x.word}:=⟨h.av,h.me,h.threads,h.most,h.holds,h.span,h.notes,h.freed⟩
  have hk2:=hk'.note b x.word.num
  rw [show ({r with clock:=x.word}:RS).call.old=old from h1] at hk2
  by_cases hd:l.bJ
  ·rw [if_pos (h.bJ.2 hd),if_pos hd]
   exact hk2.ask (t:=.mE x.word) (show (11:Int)≠0 by decide) rfl h3
  ·rw [if_neg (fun y=>hd (h.bJ.1 y)),if_neg hd]
   exact hk2.dC (ho.note _ _ _) h3
 | mE clock =>
  replace hs:r.step=11:=hs
  replace hm:r.seen=[]:=hm
  rw [if_neg (by omega),if_neg (by omega),if_neg (by omega),if_neg (by omega),if_neg (by omega),if_neg (by omega),if_neg (by omega),if_pos (by omega)]
  refine ⟨?_,rfl⟩
  unfold RS.dZ
  rw [if_neg (by omega),if_neg (by omega),if_pos hs]
  exact hk.dC ho hm
 | qz =>
  replace hs:r.step=12:=hs
  replace hm:r.seen=[]:=hm
  rw [if_neg (by omega),if_neg (by omega),if_neg (by omega),if_neg (by omega),if_neg (by omega),if_neg (by omega),if_neg (by omega),if_neg (by omega)]
  refine ⟨?_,rfl⟩
  unfold RS.bK
  rw [if_pos hs]
  have hk':bQ l {r with clock:=x.word}:=⟨h.av,h.me,h.threads,h.most,h.holds,h.span,h.notes,h.freed⟩
  exact hk'.Va ho (fun _=>rfl) hm
 | gY clock seen =>
  replace hs:r.step=13:=hs
  obtain ⟨h1,h2,h3⟩:(l.av=4→r.clock=clock)∧r.seen=seen∧r.index=seen.length:=hm
  subst h2
  replace hf:l.av≠1:=hf
  rw [if_neg (by omega),if_neg (by omega),if_neg (by omega),if_neg (by omega),if_neg (by omega),if_neg (by omega),if_neg (by omega),if_neg (by omega)]
  refine ⟨?_,rfl⟩
  unfold RS.bK
  simp only
  rw [if_neg (by omega),if_pos hs]
  show ib (if (r.seen.length:Int)+1<l.all then _ else _:LR).1 (if (r.seen.length:Int)+1<l.all then _ else _:LR).2 _
  have hk':bQ l {r with seen:=r.seen ++ [x.word]}:=⟨h.av,h.me,h.threads,h.most,h.holds,h.span,h.notes,h.freed⟩
  have hl:=hk'.look (r.index+1) (clock:=clock) (seen:=r.seen ++ [x.word]) (by rw [h3];simp) h1 rfl
  by_cases g:(r.seen.length:Int)+1<l.all
  ·rw [if_pos (by omega)] at hl
   obtain ⟨q,e1,e2⟩:=hl
   rw [e1,if_pos g]
   exact e2
  ·rw [if_neg (by omega)] at hl
   rw [hl,if_neg g]
   simp only
   by_cases g4:l.av=4
   ·have g4':r.av=4:=h.av.trans g4
    obtain rfl:=h1 g4
    rw [if_neg (show ¬l.av≠4 from fun y=>y g4),if_neg (show ¬r.av≠4 from fun y=>y g4')]
    by_cases gm:RS.may r.clock.num ((r.seen ++ [x.word]).map RS.jP)=true
    ·rw [if_pos gm,if_pos gm]
     exact hk'.ask (t:=.qA r.clock) (show (14:Int)≠0 by decide) rfl trivial
    ·rw [if_neg gm,if_neg gm]
     exact hk'.ask (t:=.iQ) (show (15:Int)≠0 by decide) rfl trivial
   ·rw [if_pos (show l.av≠4 from g4),if_pos (show r.av≠4 from fun y=>g4 (h.av.symm.trans y))]
    exact hk'.fV ho hf h1 (.inl rfl)
 | qA clock =>
  replace hs:r.step=14:=hs
  rw [if_neg (by omega),if_neg (by omega),if_neg (by omega),if_neg (by omega),if_neg (by omega),if_neg (by omega),if_neg (by omega),if_neg (by omega)]
  refine ⟨?_,rfl⟩
  unfold RS.bK
  rw [if_neg (by omega),if_neg (by omega),if_pos hs]
  exact hk.ask (t:=.iQ) (show (15:Int)≠0 by decide) rfl trivial
 | iQ =>
  replace hs:r.step=15:=hs
  replace hf:l.av=4:=hf
  rw [if_neg (by omega),if_neg (by omega),if_neg (by omega),if_neg (by omega),if_neg (by omega),if_neg (by omega),if_neg (by omega),if_neg (by omega)]
  refine ⟨?_,rfl⟩
  unfold RS.bK
  rw [if_neg (by omega),if_neg (by omega),if_neg (by omega),if_pos hs]
  have hk':bQ l {r with clock:=x.word}:=⟨h.av,h.me,h.threads,h.most,h.holds,h.span,h.notes,h.freed⟩
  exact hk'.fV ho (by omega) (fun _=>rfl) (.inr hf)
 | jT d rest =>
  replace hs:r.step=16:=hs
  replace hm:r.bG=d :: rest:=hm
  rw [if_neg (by omega),if_neg (by omega),if_neg (by omega),if_neg (by omega),if_neg (by omega),if_neg (by omega),if_neg (by omega),if_neg (by omega)]
  refine ⟨?_,rfl⟩
  unfold RS.bK
  simp only
  rw [if_neg (by omega),if_neg (by omega),if_neg (by omega),if_neg (by omega),if_pos hs,hm]
  have hk':bQ {l with notes:=l.notes.erase d,freed:=l.freed+1} {r with notes:=r.notes.erase d,freed:=r.freed+1,bG:=rest}:=⟨h.av,h.me,h.threads,h.most,h.holds,h.span,by simp only [h.notes],by simp only [h.freed]⟩
  exact hk'.ed
end
end Go.Proofs.YthomdlajobnmnaaGreatDoor
namespace Go.Proofs.YthomdlajobnmnaaGreatDoor
open Go.Rex
def H5:mr:=[(kY,Ab,Cb)]
theorem Tk:∀k pre post,(k,pre,post)∈H5→jG k=true∧bf Tryz.prog k pre post:=by
 intro k pre post h
 simp only [H5,List.mem_cons,List.not_mem_nil,or_false,Prod.mk.injEq] at h
 obtain ⟨rfl,rfl,rfl⟩:=h
 exact ⟨by kernel_rfl,Tj⟩
def ZK:Kn:=[(.aB (.var 22) (.lit 0),true),(.bR (.var 71) (.lit 1),false),(.bR (.lit 11) (.var 71),false),(.bR (.var 85) (.lit 0),false),(.aA (.lit 9) (.var 85),false),(.bR (.var 86) (.lit 0),false),(.aA (.lit 9) (.var 86),false)]
noncomputable def Qo:Ex:={sched:=sched,loops:=[],cons:=[kY],fin:=kz}
def Cc:Out :=
 .br (.or (.aB (.var 71) (.lit 6)) (.aB (.var 71) (.lit 7)))
 (.call 0 {lo:=0,az:=0,iv:=yr 65 65 7<|yo [(57,yv 57),(56,yv 56)]<|yr 3 3 4<|yo [(53,.lit 0),(52,.lit 0),(50,.lit 0),(49,.lit 0),(47,.lit 0),(45,.lit 0),(44,.lit 0),(43,.lit 0),(42,.lit 0),(40,.lit 0),(39,.lit 0),(38,.lit 0),(37,.lit 0),(35,.lit 0),(34,.lit 0),(33,.lit 0),(32,.lit 0),(30,.lit 0),(29,.lit 0),(28,.lit 0),(27,.lit 0),(26,.lit 0),(25,.lit 0),(24,.lit 0),(23,.lit 0),(22,.lit 0)]<|yr 21 88 4<|yr 16 83 4<|yr 11 78 8 [],bv:=[(67,yw 67),(66,yw 66),(58,yw 58),(55,yw 55),(51,.lit true),(48,.lit true),(46,.lit false),(41,.lit false),(36,.lit false),(31,.lit false),(17,yw 84),(12,yw 79)],ct:=[(70,yu 70 59 7 yN 0),(54,yl 54 9 5 50 yW 0)],bk:=[(3,yc 3 7),(0,yb 0)],nb:=[2,1,2,1]} 89 <|
  .fin {lo:=89,az:=4,iv:=yo [(155,yv 155)]<|yr 150 150 7<|yo [(142,yv 142),(141,yv 141),(138,yv 138),(137,yv 137),(154,yv 154),(135,yv 135),(134,yv 134),(132,yv 132)]<|yr 130 130 4<|yr 125 125 4<|yr 120 120 4<|yr 115 115 13<|yr 101 101 4<|yr 96 96 8 [],bv:=[(152,yw 152),(151,yw 151),(143,yw 143),(140,yw 140),(136,yw 136),(133,yw 133),(131,yw 131),(126,yw 126),(121,yw 121),(116,yw 116),(102,yw 102),(97,yw 97)],ct:=[(155,yu 155 144 7 yN 0),(154,yu 154 155 7 yN 0),(153,yu 153 134 5 yW 0),(139,yl 139 9 5 50 yW 0)],bk:=[(6,yc 7 7),(5,yc 6 7),(4,yc 5 5)]})
 (.call 0 {lo:=0,az:=0,iv:=yr 65 65 7<|yo [(57,yv 57),(56,yv 56)]<|yr 3 3 4<|yo [(53,.lit 0),(52,.lit 0),(50,.lit 0),(49,.lit 0),(47,.lit 0),(45,.lit 0),(44,.lit 0),(43,.lit 0),(42,.lit 0),(40,.lit 0),(39,.lit 0),(38,.lit 0),(37,.lit 0),(35,.lit 0),(34,.lit 0),(33,.lit 0),(32,.lit 0),(30,.lit 0),(29,.lit 0),(28,.lit 0),(27,.lit 0),(26,.lit 0),(25,.lit 0),(24,.lit 0),(23,.lit 0),(22,.lit 0)]<|yr 21 88 4<|yr 16 83 4<|yr 11 78 8 [],bv:=[(67,yw 67),(66,yw 66),(58,yw 58),(55,yw 55),(51,.lit true),(48,.lit true),(46,.lit false),(41,.lit false),(36,.lit false),(31,.lit false),(17,yw 84),(12,yw 79)],ct:=[(70,yu 70 59 7 yN 0),(54,yl 54 9 5 50 yW 0)],bk:=[(3,yc 3 7),(0,yb 0)],nb:=[2,1,2,1]} 89 <|
  .fin {lo:=89,az:=4,iv:=yo [(155,yv 155)]<|yr 150 150 7<|yo [(142,yv 142),(141,yv 141),(138,yv 138),(137,yv 137),(154,yv 154),(135,yv 135),(134,yv 134),(132,yv 132)]<|yr 130 130 4<|yr 125 125 4<|yr 120 120 4<|yr 115 115 13<|yr 101 101 4<|yr 96 96 8 [],bv:=[(152,yw 152),(151,yw 151),(143,yw 143),(140,yw 140),(136,yw 136),(133,yw 133),(131,yw 131),(126,yw 126),(121,yw 121),(116,yw 116),(102,yw 102),(97,yw 97)],ct:=[(155,yu 155 144 7 yN 0),(154,yu 154 155 7 yN 0),(153,yu 153 134 5 yW 0),(139,yl 139 9 5 50 yW 0)],bk:=[(6,yc 7 7),(5,yc 6 7),(4,yc 5 5)]})
theorem Qp:exec tab Qo 8000 [] (fB kz.f kz.nv ZK kz.gl kz.hp kz.args)=Cc:=by kernel_rfl
def wU (ρ:Env):Prop:=(bE ρ 4∧uZ ρ∧JS ρ 4)∧ρ.iv 22=0∧(iW ρ 71).OK
def GJ (ρ:Env):Prop:=bE ρ 89∧aa ρ 0 89=((aa ρ 0 4).begin (iW ρ 71)).1
theorem Tm {r:RS} {c:Ca} (h:r.step=0) (hc:c.OK):(r.begin c).1=({r with call:=c,step:=0,acc:=Ac.zero,word:=Wd.zero,clock:=Wd.zero,index:=0,seen:=[],bG:=[]}:RS).opened∧(r.begin c).2=true:=by
 obtain ⟨c1,c2,c3,c4,c5,c6⟩:=hc
 unfold RS.begin
 rw [if_neg (by omega),if_neg (by omega),if_neg (by omega)]
 exact ⟨rfl,rfl⟩
theorem Qq (ρ:Env) (hpre:wU ρ.num):Sat GJ H5 [] ρ Cc:=by
 replace hpre:wU ρ:=hpre
 obtain ⟨⟨⟨o1,o2,o3⟩,hs,hf⟩,h0,hc⟩:=hpre
 have hm:((aa ρ 0 4).begin (iW ρ 71)).1=({aa ρ 0 4 with call:=iW ρ 71,step:=0,acc:=Ac.zero,word:=Wd.zero,clock:=Wd.zero,index:=0,seen:=[],bG:=[]}:RS).opened:=(Tm h0 hc).1
 obtain ⟨-,-,c3,c4,c5,c6⟩:=hc
 unfold Cc
 refine Sat.br (fun _=>?_) (fun _=>?_)
 all_goals
  refine eH (c:=kY) rfl ({aa ρ 0 4 with call:=iW ρ 71,step:=0,acc:=Ac.zero,word:=Wd.zero,clock:=Wd.zero,index:=0,seen:=[],bG:=[]}:RS) ({aa ρ 0 4 with call:=iW ρ 71,step:=0,acc:=Ac.zero,word:=Wd.zero,clock:=Wd.zero,index:=0,seen:=[],bG:=[]}:RS).opened (by decide) (by decide) (jk rfl rfl rfl rfl) ⟨⟨by exact aj rfl rfl,by exact ⟨aj rfl rfl,Int.le_refl 0,.inl rfl⟩,o3⟩,hs,hf,⟨c3,c4⟩,c5,c6⟩ (RS.ext' rfl rfl rfl rfl rfl rfl bu bC rfl rfl rfl rfl bB rfl bz rfl rfl) (fun e hq hr=>⟨hq.1,by rw [←hr];exact hq.2⟩) (fun u=>(bE u 89)∧aa u 0 89=((aa u 0 4).begin (iW u 71)).1) (fun e h1 h2=>⟨h1,h2.trans hm.symm⟩) fun u hu=>?_
  obtain ⟨⟨o1,o2,o3⟩,hm⟩:=hu
  exact Sat.fin ⟨⟨(by first | exact o1 | exact o2 | exact o3 | exact aj rfl rfl | assumption),(by first | exact o2 | exact ⟨aj rfl rfl,Int.le_refl 0,.inl rfl⟩ | assumption),(by first | exact o1 | exact o2 | exact o3 | exact aj rfl rfl | assumption)⟩,Eq.trans (b:=(aa u 0 89)) (RS.ext' rfl rfl rfl rfl rfl rfl bu bC rfl rfl rfl rfl bB rfl bz rfl rfl) (Eq.symm (hm.symm))⟩
theorem Qr:bf Tryz.prog kz wU GJ :=
 dw dY (E:=Qo) (cs:=H5) rfl Tk bZ rfl Qp (by kernel_rfl) (fun ρ h p hp=>by
   obtain ⟨-,h0,c1,c2,c3,c4,c5,c6⟩:=h
   replace h0:ρ.iv 22=0:=h0
   replace c1:1≤ρ.iv 71:=c1
   replace c2:ρ.iv 71≤11:=c2
   replace c3:0≤ρ.iv 85:=c3
   replace c4:ρ.iv 85<9:=c4
   replace c5:0≤ρ.iv 86:=c5
   replace c6:ρ.iv 86<9:=c6
   simp only [ZK,List.mem_cons,List.not_mem_nil,or_false] at hp
   rcases hp with rfl | rfl | rfl | rfl | rfl | rfl | rfl
   · exact beq_iff_eq.2 h0
   · exact decide_eq_false (by show ¬ρ.iv 71<1;omega)
   · exact decide_eq_false (by show ¬11<ρ.iv 71;omega)
   · exact decide_eq_false (by show ¬ρ.iv 85<0;omega)
   · exact decide_eq_false (by show ¬9≤ρ.iv 85;omega)
   · exact decide_eq_false (by show ¬ρ.iv 86<0;omega)
   · exact decide_eq_false (by show ¬9≤ρ.iv 86;omega)) Qq
theorem wV {P:Program} {k:dX} {pre post post':Env→Prop} (h:bf P k pre post) (hp:∀ρ,post ρ→post' ρ):bf P k pre post' :=
 ⟨h.fn,fun ρ ν w h1 h2 h3=>(h.run ρ ν w h1 h2 h3).mono fun e w' he=>by
   obtain ⟨ρ',aI,a,b,c,d,f,g⟩:=he
   exact ⟨ρ',aI,a,b,c,d,f,hp _ g⟩⟩
def Nt.sv (n:Nt):Sv.uo:=⟨n.ref.slot,n.ref.gen,n.ref.tag,n.ref.num,n.ref.mark,n.jS,n.kF⟩
theorem Nt.Yg {a b:Nt} (h:a.sv=b.sv):a=b:=by
 obtain ⟨⟨a1,a2,a3,a4,a5⟩,a6,a7⟩:=a
 obtain ⟨⟨b1,b2,b3,b4,b5⟩,b6,b7⟩:=b
 simp only [Nt.sv,Sv.uo.mk.injEq] at h
 obtain ⟨rfl,rfl,rfl,rfl,rfl,rfl,rfl⟩:=h
 rfl
theorem lU (ρ:Env) (b:Nat):Sv.notes ρ b=(aQ ρ (b+3) (ρ.iv (b+1))).map Nt.sv:=by
 unfold Sv.notes aQ
 rw [List.map_map]
 rfl
theorem tL {l m:List Nt} {p:Sv.uo→Bool} {q:Nt→Bool} (hq:∀n,p n.sv=q n) (h:m.map Nt.sv=(l.map Nt.sv).filter p):m=l.filter q:=by
 rw [List.filter_map] at h
 have e:p ∘ Nt.sv=q:=funext hq
 rw [e] at h
 have:∀{x y:List Nt},x.map Nt.sv=y.map Nt.sv→x=y:=by
  intro x
  induction x with
  | nil=>intro y h;cases y with | nil=>rfl | cons=>cases h
  | cons a x ih =>
   intro y h
   cases y with
   | nil=>cases h
   | cons b y =>
    simp only [List.map_cons,List.cons.injEq] at h
    rw [Nt.Yg h.1,ih h.2]
 exact this h
def oz (ρ:Env) (r:Nat) (n:Int):List Int:=(List.range n.toNat).map fun i=>ρ.ic r i 0 0
def kg (ρ:Env) (r:Nat) (i:Nat):Sp:=⟨ρ.bc r i 0 0,ρ.ic r i 0 1,ρ.ic r i 0 2⟩
def gL (ρ:Env) (r:Nat) (n:Int):List Sp:=(List.range n.toNat).map (kg ρ r)
def JU (ρ:Env):Prop:=bD ρ 8∧aQ ρ 11 (ρ.iv 9)=(aQ ρ 3 (ρ.iv 1)).filter fun n=>!((dG ρ 7 (ρ.iv 5)).any fun w=>RS.wI w n)
def NM (ρ:Env):Prop:=bD ρ 8∧aQ ρ 11 (ρ.iv 9)=(aQ ρ 3 (ρ.iv 1)).filter fun n=>!((oz ρ 7 (ρ.iv 5)).any fun e=>RS.uU e n)
def JV (ρ:Env):Prop:=bD ρ 8∧aQ ρ 11 (ρ.iv 9)=(aQ ρ 3 (ρ.iv 1)).filter fun n=>!((gL ρ 7 (ρ.iv 5)).any fun s=>RS.rY s n)
def Fs (ρ:Env):Prop:=bD ρ 8∧aQ ρ 11 (ρ.iv 9)=(aQ ρ 3 (ρ.iv 1)).filter fun n=>!(RS.qa (ρ.iv 4) n)
theorem NN:bf Tryz.prog kD Sv.lN JU:=wV Sv.P8 fun ρ h=>by
 obtain ⟨h1,h2,-⟩:=h
 refine ⟨h1,tL (fun n=>?_) ((lU ρ 8).symm.trans (h2.trans (congrArg _ (lU ρ 0))))⟩
 congr 1
 show (((List.range (ρ.iv 5).toNat).map fun j=>ρ.ic 7 j 0 0).any fun s=>decide (s=n.ref.slot))=_
 unfold dG
 rw [List.any_map,List.any_map]
 rfl
theorem Qs:bf Tryz.prog mg Sv.nJ NM:=wV Sv.Sy fun ρ h=>by
 obtain ⟨h1,h2,-⟩:=h
 refine ⟨h1,tL (fun n=>?_) ((lU ρ 8).symm.trans (h2.trans (congrArg _ (lU ρ 0))))⟩
 congr 1
 show (((List.range (ρ.iv 5).toNat).map fun j=>ρ.ic 7 j 0 0).any fun e=>decide ((0<e∧n.jS≤e)∧e≤n.kF))=_
 unfold oz
 rw [List.any_map,List.any_map]
 congr 1
 funext j
 simp only [Function.comp,RS.uU]
 exact decide_eq_decide.2 and_assoc
theorem NP:bf Tryz.prog kE Sv.lQ JV:=wV Sv.Qc fun ρ h=>by
 obtain ⟨h1,h2,-⟩:=h
 refine ⟨h1,tL (fun n=>?_) ((lU ρ 8).symm.trans (h2.trans (congrArg _ (lU ρ 0))))⟩
 congr 1
 show (((List.range (ρ.iv 5).toNat).map fun j=>(ρ.bc 7 j 0 0,ρ.ic 7 j 0 1,ρ.ic 7 j 0 2)).any fun s=>decide ((s.1=true∧s.2.1≤n.kF)∧n.jS≤s.2.2))=_
 unfold gL
 rw [List.any_map,List.any_map]
 congr 1
 funext j
 simp only [Function.comp,RS.rY,kg]
 rw [Bool.eq_iff_iff]
 simp [and_assoc]
theorem KX:bf Tryz.prog jH Sv.ku Fs:=wV Sv.NG fun ρ h=>by
 obtain ⟨h1,h2,-⟩:=h
 refine ⟨h1,tL (fun n=>?_) ((lU ρ 8).symm.trans (h2.trans (congrArg _ (lU ρ 0))))⟩
 refine congrArg (fun b=>!b) ?_
 show decide (ρ.iv 4 < -9223372036854775806∨ρ.iv 4-2<n.kF)=RS.qa (ρ.iv 4) n
 unfold RS.qa
 exact decide_eq_decide.2 (by omega)
noncomputable def Yh:Ex:={sched:=sched,loops:=[aaI],fin:=lK}
def JW:Out :=
 .ob (.or (.not (.var 1)) (.aB (.var 2) (.lit 0))) <|
 .ob (.aA (.lit 0) (.var 2)) <|
 .loop 5 {lo:=5,az:=1,iv:=[(5,.lit 0)]} <|
 .br (.bR (.var 5) (.var 2))
 (.ob (.not (.var 1)) <|
  .ob (.aA (.lit 0) (.var 5)) <|
  .br (.and (.cell 4 (.var 5) (.lit 0) 0) (.not (.aB (.cell 4 (.var 5) (.lit 0) 1) (.var 0))))
  (.fin {lo:=5,az:=1,bv:=[(5,.lit false)]})
  (.ob (.inr .i64 (.add (.var 5) (.lit 1))) <|
   .back 0 {lo:=5,az:=1,iv:=[(5,.add (.var 5) (.lit 1))]}))
 (.fin {lo:=5,az:=1,bv:=[(5,.lit true)]})
theorem Wu:exec tab Yh 8000 [] (fB lK.f lK.nv [] lK.gl lK.hp lK.args)=JW:=by kernel_rfl
def zm (ρ:Env):Prop:=bD ρ 1∧ρ.iv 2≤1000000
def Ad (ρ:Env):Prop:=ρ.bv 5=RS.may (ρ.iv 0) (gL ρ 4 (ρ.iv 2))
def Qt (ρ:Env):Prop:=zm ρ∧(0≤ρ.iv 5∧ρ.iv 5≤ρ.iv 2)∧RS.may (ρ.iv 0) (gL ρ 4 (ρ.iv 5))=true
theorem NQ {ρ:Env} {r:Nat} {n:Int} (h:0≤n):gL ρ r (n+1)=gL ρ r n ++ [kg ρ r n.toNat]:=by
 unfold gL
 rw [show (n+1).toNat=n.toNat+1 by omega,List.range_succ,List.map_append]
 rfl
theorem Wv (ρ:Env) (hpre:zm ρ.num):Sat Ad [] [] ρ JW:=by
 replace hpre:zm ρ:=hpre
 have hpre':=hpre
 obtain ⟨o1,h2⟩:=hpre
 unfold JW
 refine Sat.ob (aL o1) (Sat.ob (decide_eq_true o1.2.1) (Sat.wJ Qt (fun r=>(r.iv 2-r.iv 5).toNat) (fun _=>True) ⟨hpre',⟨Int.le_refl 0,o1.2.1⟩,rfl⟩ (fun _=>trivial) fun q _ hI=>?_))
 replace hI:Qt q:=hI
 obtain ⟨⟨o1,h2⟩,⟨i1,i2⟩,hI⟩:=hI
 refine Sat.br (fun c=>?_) (fun c=>?_)
 ·simp only [Da] at c
  refine Sat.ob (bP o1 (by simp only [Nat.reduceAdd];omega)) (Sat.ob (decide_eq_true i1) (Sat.br (fun c2=>?_) (fun c2=>?_)))
  ·simp only [Da] at c2
   refine Sat.fin ?_
   show false=RS.may (q.iv 0) (gL q 4 (q.iv 2))
   refine Eq.symm (List.all_eq_false.2 ⟨kg q 4 (q.iv 5).toNat,List.mem_map.2 ⟨(q.iv 5).toNat,List.mem_range.2 (by omega),rfl⟩,?_⟩)
   show ¬(!(q.bc 4 (q.iv 5).toNat 0 0 && q.ic 4 (q.iv 5).toNat 0 1 != q.iv 0))=true
   simp [c2.1,c2.2]
  ·simp only [Da] at c2
   refine Sat.ob (by simp only [Da];omega) (Sat.back rfl ⟨⟨⟨o1,h2⟩,⟨?_,?_⟩,?_⟩,?_⟩)
   ·show 0≤q.iv 5+1;omega
   ·show q.iv 5+1≤q.iv 2;omega
   ·show RS.may (q.iv 0) (gL q 4 (q.iv 5+1))=true
    rw [NQ i1]
    unfold RS.may at hI ⊢
    rw [List.all_append,hI,Bool.true_and,List.all_cons,List.all_nil,Bool.and_true]
    show (!(q.bc 4 (q.iv 5).toNat 0 0 && q.ic 4 (q.iv 5).toNat 0 1 != q.iv 0))=true
    rcases c2 with c2 | c2
    ·simp [c2]
    ·simp [c2]
   ·show (q.iv 2-(q.iv 5+1)).toNat<(q.iv 2-q.iv 5).toNat
    omega
 ·simp only [Da] at c
  refine Sat.fin ?_
  show true=RS.may (q.iv 0) (gL q 4 (q.iv 2))
  rw [show q.iv 2=q.iv 5 by omega]
  exact hI.symm
theorem Ww:bf Tryz.prog lK zm Ad :=
 dw dY (E:=Yh) (cs:=[]) rfl (fun k pre post h=>by cases h) bZ rfl Wu (by kernel_rfl) (fun ρ _ p hp=>by cases hp) Wv
end Go.Proofs.YthomdlajobnmnaaGreatDoor
