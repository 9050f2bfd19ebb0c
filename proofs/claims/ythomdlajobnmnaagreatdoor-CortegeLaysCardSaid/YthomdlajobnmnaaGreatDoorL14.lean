/- part 14 of the proof -/
import Derived.Test.YthomdlajobnmnaaGreatDoorL10
import Derived.Test.YthomdlajobnmnaaGreatDoorL12
import Derived.Test.YthomdlajobnmnaaGreatDoorL13
set_option linter.unusedSimpArgs false
set_option linter.unusedVariables false
namespace Go.Proofs.YthomdlajobnmnaaGreatDoor
open Go.Rex
def Ox:mY:=[(iH,nN,uh),(fV,vJ,kE),(ji,xx,xy),(jh,ui,xz)]
theorem W9:∀k pre post,(k,pre,post)∈Ox→jM k=true∧aV Tryz.prog k pre post:=by
 intro k pre post h
 simp only [Ox,List.mem_cons,List.not_mem_nil,or_false,Prod.mk.injEq] at h
 rcases h with ⟨rfl,rfl,rfl⟩ | ⟨rfl,rfl,rfl⟩ | ⟨rfl,rfl,rfl⟩ | ⟨rfl,rfl,rfl⟩
 ·exact ⟨by kernel_rfl,Hq⟩
 ·exact ⟨by kernel_rfl,Kh⟩
 ·exact ⟨by kernel_rfl,Ko⟩
 ·exact ⟨by kernel_rfl,Ow⟩
noncomputable def VI:Ex:={sched:=sched,loops:=[],cons:=[iH,fV,ji,jh],fin:=lK}
def F4:Out :=
 .br (.aB (.var 4) (.lit 1))
 (.br (.or (.aB (.var 0) (.lit 4)) (.aB (.var 0) (.lit 5)))
  (.fin {lo:=71,az:=4,iv:=yo [(137,yv 70)]<|yr 132 65 7<|yo [(124,yv 57),(123,yv 56),(120,yv 53),(119,yv 52),(136,yv 69),(117,yv 50),(116,yv 49),(114,yv 47)]<|yr 112 45 4<|yr 107 40 4<|yo [(102,.lit 0),(101,.lit 0),(100,.lit 0),(99,.lit 0),(97,.lit 0),(96,.lit 0),(95,.lit 0),(94,.lit 0),(93,.lit 24),(92,.lit 0),(91,.lit 0),(90,.lit 1),(89,.lit 3)]<|yr 88 21 4<|yr 83 16 4<|yr 78 11 8 [],bv:=[(134,yw 67),(133,yw 66),(125,yw 58),(122,yw 55),(118,yw 51),(115,yw 48),(113,yw 46),(108,yw 41),(103,.lit false),(98,.lit false),(84,yw 17),(79,yw 12)],ct:=[(137,yu 70 59 7 yN 0),(136,yu 69 70 7 yN 0),(135,yu 68 49 5 yW 0),(121,yl 54 9 5 50 yW 0)],bk:=[(6,yc 3 7),(5,yc 2 7),(4,yc 1 5)]})
  (.fin {lo:=71,az:=4,iv:=yo [(132,.lit 0),(131,.lit 0),(130,.lit 0),(129,.lit 0)]<|yr 128 61 3<|[(124,yv 57),(123,yv 56),(120,.lit 0),(119,.lit 0),(117,.lit 0),(116,.lit 0),(114,.lit 0),(112,.lit 0),(111,.lit 0),(110,.lit 0),(109,.lit 0),(107,.lit 0),(106,.lit 0),(105,.lit 0),(104,.lit 0),(102,.lit 0),(101,.lit 0),(100,.lit 0),(99,.lit 0),(97,.lit 0),(96,.lit 0),(95,.lit 0),(94,.lit 0),(93,.lit 0),(92,.lit 0),(91,.lit 0),(90,.lit 0),(89,.lit 0),(88,.lit 0),(87,.lit 0),(86,.lit 0),(85,.lit 0),(83,.lit 0),(82,.lit 0),(81,.lit 0),(80,.lit 0),(78,.lit 0),(77,.lit 0),(76,.lit 0),(75,.lit 0),(74,.lit 0),(73,.lit 0),(72,.lit 0),(71,.lit 0)],bv:=[(134,.lit true),(133,.lit false),(125,yw 58),(122,yw 55),(118,.lit true),(115,.lit true),(113,.lit false),(108,.lit false),(103,.lit false),(98,.lit false),(84,.lit false),(79,.lit false)],ct:=[(137,yu 70 59 7 yN 0),(121,yl 54 9 5 50 yW 0)],bk:=[(6,yc 3 7)],nb:=[5,4,5,4]}))
 (.br (.aB (.var 4) (.lit 2))
  (.call 0 {lo:=0,az:=0,iv:=yo [(70,yv 70)]<|yr 65 65 7<|yo [(57,yv 57),(56,yv 56)]<|yr 3 3 4<|yo [(53,yv 53),(52,yv 52),(69,yv 69),(50,yv 50),(49,yv 49),(47,yv 47)]<|yr 45 45 4<|yr 40 40 4<|yr 35 35 4<|yr 30 30 13<|yr 16 16 4<|yr 11 11 8<|[(71,.lit 0)],bv:=[(67,yw 67),(66,yw 66),(58,yw 58),(55,yw 55),(51,yw 51),(48,yw 48),(46,yw 46),(41,yw 41),(36,yw 36),(31,yw 31),(17,yw 17),(12,yw 12)],ct:=[(70,yu 70 59 7 yN 0),(69,yu 69 70 7 yN 0),(68,yu 68 49 5 yW 0),(54,yl 54 9 5 50 yW 0)],bk:=[(3,yc 3 7),(2,yc 2 7),(1,yc 1 5),(0,yb 0)]} 71 <|
   .fin {lo:=71,az:=4,iv:=yo [(137,yv 137)]<|yr 132 132 7<|yo [(124,yv 124),(123,yv 123),(120,yv 120),(119,yv 119),(136,yv 136),(117,yv 117),(116,yv 116),(114,yv 114)]<|yr 112 112 4<|yr 107 107 4<|yr 102 102 4<|yr 97 97 13<|yr 83 83 4<|yr 78 78 8 [],bv:=[(134,yw 134),(133,yw 133),(125,yw 125),(122,yw 122),(118,yw 118),(115,yw 115),(113,yw 113),(108,yw 108),(103,yw 103),(98,yw 98),(84,yw 84),(79,yw 79)],ct:=[(137,yu 137 126 7 yN 0),(136,yu 136 137 7 yN 0),(135,yu 135 116 5 yW 0),(121,yl 121 9 5 50 yW 0)],bk:=[(6,yc 7 7),(5,yc 6 7),(4,yc 5 5)]})
  (.br (.aB (.var 4) (.lit 3))
   (.fin {lo:=71,az:=4,iv:=yo [(137,yv 70)]<|yr 132 65 7<|yo [(124,yv 57),(123,yv 56),(120,yv 53),(119,yv 52),(136,yv 69),(117,yv 50),(116,yv 49),(114,yv 47)]<|yr 112 45 4<|yr 107 40 4<|yo [(102,.lit 0),(101,.lit 0),(100,.lit 0),(99,.lit 0),(97,.lit 0),(96,.lit 0),(95,.lit 0),(94,.lit 0)]<|yr 93 7 3<|yo [(90,.lit 1),(89,.lit 1)]<|yr 88 21 4<|yr 83 16 4<|yr 78 11 8 [],bv:=[(134,yw 67),(133,yw 66),(125,yw 58),(122,yw 55),(118,yw 51),(115,yw 48),(113,yw 46),(108,yw 41),(103,.lit false),(98,.lit false),(84,yw 17),(79,yw 12)],ct:=[(137,yu 70 59 7 yN 0),(136,yu 69 70 7 yN 0),(135,yu 68 49 5 yW 0),(121,yl 54 9 5 50 yW 0)],bk:=[(6,yc 3 7),(5,yc 2 7),(4,yc 1 5)]})
   (.br (.aB (.var 4) (.lit 4))
    (.fin {lo:=71,az:=4,iv:=yo [(137,yv 70)]<|yr 132 65 7<|yo [(124,yv 57),(123,yv 56),(120,yv 53),(119,yv 52),(136,yv 69),(117,yv 50),(116,yv 49),(114,yv 47)]<|yr 112 45 4<|yr 107 40 4<|yr 102 16 4<|yr 97 11 7<|yo [(90,.lit 2),(89,.lit 1)]<|yr 88 21 4<|yr 83 16 4<|yr 78 11 8 [],bv:=[(134,yw 67),(133,yw 66),(125,yw 58),(122,yw 55),(118,yw 51),(115,yw 48),(113,yw 46),(108,yw 41),(103,yw 17),(98,yw 12),(84,yw 17),(79,yw 12)],ct:=[(137,yu 70 59 7 yN 0),(136,yu 69 70 7 yN 0),(135,yu 68 49 5 yW 0),(121,yl 54 9 5 50 yW 0)],bk:=[(6,yc 3 7),(5,yc 2 7),(4,yc 1 5)]})
    (.br (.aB (.var 4) (.lit 5))
     (.fin {lo:=71,az:=4,iv:=yo [(137,yv 70)]<|yr 132 65 7<|yo [(124,yv 57),(123,yv 56),(120,yv 53),(119,yv 52),(136,yv 69),(117,yv 50),(116,yv 49),(114,yv 47)]<|yr 112 45 4<|yr 107 40 4<|yr 102 16 4<|yr 97 11 7<|yo [(90,.lit 3),(89,.lit 1)]<|yr 88 21 4<|yr 83 16 4<|yr 78 11 8 [],bv:=[(134,yw 67),(133,yw 66),(125,yw 58),(122,yw 55),(118,yw 51),(115,yw 48),(113,yw 46),(108,yw 41),(103,yw 17),(98,yw 12),(84,yw 17),(79,yw 12)],ct:=[(137,yu 70 59 7 yN 0),(136,yu 69 70 7 yN 0),(135,yu 68 49 5 yW 0),(121,yl 54 9 5 50 yW 0)],bk:=[(6,yc 3 7),(5,yc 2 7),(4,yc 1 5)]})
     (.br (.aB (.var 4) (.lit 6))
      (.fin {lo:=71,az:=4,iv:=yo [(137,yv 70)]<|yr 132 65 7<|yo [(124,yv 57),(123,yv 56),(120,yv 53),(119,yv 52),(136,yv 69),(117,yv 50),(116,yv 49),(114,yv 47)]<|yr 112 45 4<|yr 107 40 4<|yo [(102,.lit 0),(101,.lit 0),(100,.lit 0),(99,.lit 0),(97,.lit 0),(96,.lit 0),(95,.lit 0),(94,.lit 0)]<|yr 93 7 3<|yo [(90,.lit 1),(89,.lit 5)]<|yr 88 21 4<|yr 83 16 4<|yr 78 11 8 [],bv:=[(134,yw 67),(133,yw 66),(125,yw 58),(122,yw 55),(118,yw 51),(115,yw 48),(113,yw 46),(108,yw 41),(103,.lit false),(98,.lit false),(84,yw 17),(79,yw 12)],ct:=[(137,yu 70 59 7 yN 0),(136,yu 69 70 7 yN 0),(135,yu 68 49 5 yW 0),(121,yl 54 9 5 50 yW 0)],bk:=[(6,yc 3 7),(5,yc 2 7),(4,yc 1 5)]})
      (.br (.aB (.var 4) (.lit 7))
       (.ob (.or (.not (.or (.aB (.var 0) (.lit 2)) (.aB (.var 0) (.lit 3)))) (.aA (.lit 0) (.var 18))) <|
        .ob (.or (.not (.or (.aB (.var 0) (.lit 2)) (.aB (.var 0) (.lit 3)))) (.bS (.var 18) (.lit 9))) <|
        .ob (.or (.not (.or (.aB (.var 0) (.lit 2)) (.aB (.var 0) (.lit 3)))) (.aA (.lit 0) (.var 19))) <|
        .ob (.or (.not (.or (.aB (.var 0) (.lit 2)) (.aB (.var 0) (.lit 3)))) (.bS (.var 19) (.lit 9))) <|
        .br (.and (.or (.aB (.var 0) (.lit 2)) (.aB (.var 0) (.lit 3))) (.not (.and (.aB (.cell 54 (.var 18) (.lit 0) 0) (.cell 54 (.var 19) (.lit 0) 0)) (.and (.aB (.cell 54 (.var 18) (.lit 0) 1) (.cell 54 (.var 19) (.lit 0) 1)) (.and (.aB (.cell 54 (.var 18) (.lit 0) 2) (.cell 54 (.var 19) (.lit 0) 2)) (.and (.aB (.cell 54 (.var 18) (.lit 0) 3) (.cell 54 (.var 19) (.lit 0) 3)) (.beq (.cell 54 (.var 18) (.lit 0) 4) (.cell 54 (.var 19) (.lit 0) 4))))))))
        (.ob (.aA (.lit 0) (.var 19)) <|
         .ob (.bS (.var 19) (.lit 9)) <|
         .ob (.aA (.lit 0) (.var 18)) <|
         .ob (.bS (.var 18) (.lit 9)) <|
         .call 1 {lo:=0,az:=0,iv:=[(1,yv 18),(0,yv 1)]} 71 <|
         .fin {lo:=71,az:=4,iv:=yo [(137,yv 70)]<|yr 132 65 7<|yo [(124,yv 57),(123,yv 56),(120,yv 53),(119,yv 52),(136,yv 69),(117,yv 50),(116,yv 49),(114,yv 47)]<|yr 112 45 4<|yr 107 40 4<|yo [(102,.cell 54 (.var 19) (.lit 0) 3),(101,.cell 54 (.var 19) (.lit 0) 2),(100,.cell 54 (.var 19) (.lit 0) 1),(99,.cell 54 (.var 19) (.lit 0) 0),(97,.lit 0),(96,.lit 0),(95,.lit 0),(94,.lit 0),(93,.add (.add (.lit 25) (.mul (.var 1) (.lit 9))) (.var 18)),(92,.lit 0),(91,.lit 0),(90,.lit 2),(89,.lit 2)]<|yr 88 21 4<|yr 83 16 4<|yr 78 11 8 [],bv:=[(134,yw 67),(133,yw 66),(125,yw 58),(122,yw 55),(118,yw 51),(115,yw 48),(113,yw 46),(108,yw 41),(103,.cell 54 (.var 19) (.lit 0) 4),(98,.lit false),(84,yw 17),(79,yw 12)],ct:=[(137,yu 70 59 7 yN 0),(136,yu 69 70 7 yN 0),(135,yu 68 49 5 yW 0),(121,.up {r:=54,n1:=.lit 9,s1:=5,lo:=50,ks:=yW} 0 [⟨0,(.var 18),(.lit 0),4,.bool (.cell 54 (.var 19) (.lit 0) 4)⟩,⟨0,(.var 18),(.lit 0),3,.int .i64 (.cell 54 (.var 19) (.lit 0) 3)⟩,⟨0,(.var 18),(.lit 0),2,.int .i64 (.cell 54 (.var 19) (.lit 0) 2)⟩,⟨0,(.var 18),(.lit 0),1,.int .i64 (.cell 54 (.var 19) (.lit 0) 1)⟩,⟨0,(.var 18),(.lit 0),0,.int .i64 (.cell 54 (.var 19) (.lit 0) 0)⟩] (.lit 0))],bk:=[(6,yc 3 7),(5,yc 2 7),(4,yc 1 5)]})
        (.fin {lo:=71,az:=4,iv:=yo [(132,.lit 0),(131,.lit 0),(130,.lit 0),(129,.lit 0)]<|yr 128 61 3<|[(124,yv 57),(123,yv 56),(120,.lit 0),(119,.lit 0),(117,.lit 0),(116,.lit 0),(114,.lit 0),(112,.lit 0),(111,.lit 0),(110,.lit 0),(109,.lit 0),(107,.lit 0),(106,.lit 0),(105,.lit 0),(104,.lit 0),(102,.lit 0),(101,.lit 0),(100,.lit 0),(99,.lit 0),(97,.lit 0),(96,.lit 0),(95,.lit 0),(94,.lit 0),(93,.lit 0),(92,.lit 0),(91,.lit 0),(90,.lit 0),(89,.lit 0),(88,.lit 0),(87,.lit 0),(86,.lit 0),(85,.lit 0),(83,.lit 0),(82,.lit 0),(81,.lit 0),(80,.lit 0),(78,.lit 0),(77,.lit 0),(76,.lit 0),(75,.lit 0),(74,.lit 0),(73,.lit 0),(72,.lit 0),(71,.lit 0)],bv:=[(134,.lit true),(133,.lit false),(125,yw 58),(122,yw 55),(118,.lit true),(115,.lit true),(113,.lit false),(108,.lit false),(103,.lit false),(98,.lit false),(84,.lit false),(79,.lit false)],ct:=[(137,yu 70 59 7 yN 0),(121,yl 54 9 5 50 yW 0)],bk:=[(6,yc 3 7)],nb:=[5,4,5,4]}))
       (.br (.aB (.var 4) (.lit 8))
        (.br (.or (.aB (.var 0) (.lit 3)) (.aB (.var 0) (.lit 5)))
         (.fin {lo:=71,az:=4,iv:=yo [(137,yv 70)]<|yr 132 65 7<|yo [(124,yv 57),(123,yv 56),(120,yv 53),(119,yv 52),(136,yv 69),(117,yv 50),(116,yv 49),(114,yv 47)]<|yr 112 45 4<|yr 107 40 4<|yo [(102,.lit 0),(101,.lit 0),(100,.lit 0),(99,.lit 0),(97,.lit 0),(96,.lit 0),(95,.lit 0),(94,.lit 0),(93,.lit 24),(92,.lit 0),(91,.lit 0),(90,.lit 1),(89,.lit 8)]<|yr 88 21 4<|yr 83 16 4<|yr 78 11 8 [],bv:=[(134,yw 67),(133,yw 66),(125,yw 58),(122,yw 55),(118,yw 51),(115,yw 48),(113,yw 46),(108,yw 41),(103,.lit false),(98,.lit false),(84,yw 17),(79,yw 12)],ct:=[(137,yu 70 59 7 yN 0),(136,yu 69 70 7 yN 0),(135,yu 68 49 5 yW 0),(121,yl 54 9 5 50 yW 0)],bk:=[(6,yc 3 7),(5,yc 2 7),(4,yc 1 5)]})
         (.fin {lo:=71,az:=4,iv:=yo [(137,yv 70)]<|yr 132 65 7<|yo [(124,yv 57),(123,yv 56),(120,yv 53),(119,yv 52),(136,yv 69),(117,yv 50),(116,yv 49),(114,yv 47)]<|yr 112 45 4<|yr 107 40 4<|yo [(102,.lit 0),(101,.lit 0),(100,.lit 0),(99,.lit 0),(97,.lit 0),(96,.lit 0),(95,.lit 0),(94,.lit 0),(93,.lit 0),(92,.lit 0),(91,.lit 0),(90,.lit 4),(89,.lit 1)]<|yr 88 21 4<|yr 83 16 4<|yr 78 11 8 [],bv:=[(134,yw 67),(133,yw 66),(125,yw 58),(122,yw 55),(118,yw 51),(115,yw 48),(113,yw 46),(108,yw 41),(103,.lit false),(98,.lit false),(84,yw 17),(79,yw 12)],ct:=[(137,yu 70 59 7 yN 0),(136,yu 69 70 7 yN 0),(135,yu 68 49 5 yW 0),(121,yl 54 9 5 50 yW 0)],bk:=[(6,yc 3 7),(5,yc 2 7),(4,yc 1 5)]}))
        (.br (.aB (.var 4) (.lit 9))
         (.fin {lo:=71,az:=4,iv:=yo [(137,yv 70)]<|yr 132 65 7<|yo [(124,yv 57),(123,yv 56),(120,yv 53),(119,yv 52),(136,yv 69),(117,yv 50),(116,yv 49),(114,yv 47)]<|yr 112 45 4<|yr 107 40 4<|yo [(102,.lit 0),(101,.lit 0),(100,.lit 0),(99,.lit 0)]<|yr 97 11 4<|yo [(93,.lit 0),(92,.lit 0),(91,.lit 0),(90,.lit 5),(89,.lit 2)]<|yr 88 21 4<|yr 83 16 4<|yr 78 11 8 [],bv:=[(134,yw 67),(133,yw 66),(125,yw 58),(122,yw 55),(118,yw 51),(115,yw 48),(113,yw 46),(108,yw 41),(103,.lit false),(98,yw 12),(84,yw 17),(79,yw 12)],ct:=[(137,yu 70 59 7 yN 0),(136,yu 69 70 7 yN 0),(135,yu 68 49 5 yW 0),(121,yl 54 9 5 50 yW 0)],bk:=[(6,yc 3 7),(5,yc 2 7),(4,yc 1 5)]})
         (.br (.aB (.var 4) (.lit 10))
          (.call 3 {lo:=0,az:=0,iv:=yo [(70,yv 70)]<|yr 65 65 7<|yo [(57,yv 57),(56,yv 56)]<|yr 3 3 4<|yo [(53,yv 53),(52,yv 52),(69,yv 69),(50,yv 50),(49,yv 49),(47,yv 47)]<|yr 45 45 4<|yr 40 40 4<|yr 35 35 4<|yr 30 30 13<|yr 16 16 4<|yr 11 11 8 [],bv:=[(67,yw 67),(66,yw 66),(58,yw 58),(55,yw 55),(51,yw 51),(48,yw 48),(46,yw 46),(41,yw 41),(36,yw 36),(31,yw 31),(17,yw 17),(12,yw 12)],ct:=[(70,yu 70 59 7 yN 0),(69,yu 69 70 7 yN 0),(68,yu 68 49 5 yW 0),(54,yl 54 9 5 50 yW 0)],bk:=[(3,yc 3 7),(2,yc 2 7),(1,yc 1 5),(0,yb 0)]} 71 <|
           .fin {lo:=71,az:=4,iv:=yo [(137,yv 137)]<|yr 132 132 7<|yo [(124,yv 124),(123,yv 123),(120,yv 120),(119,yv 119),(136,yv 136),(117,yv 117),(116,yv 116),(114,yv 114)]<|yr 112 112 4<|yr 107 107 4<|yr 102 102 4<|yr 97 97 13<|yr 83 83 4<|yr 78 78 8 [],bv:=[(134,yw 134),(133,yw 133),(125,yw 125),(122,yw 122),(118,yw 118),(115,yw 115),(113,yw 113),(108,yw 108),(103,yw 103),(98,yw 98),(84,yw 84),(79,yw 79)],ct:=[(137,yu 137 126 7 yN 0),(136,yu 136 137 7 yN 0),(135,yu 135 116 5 yW 0),(121,yl 121 9 5 50 yW 0)],bk:=[(6,yc 7 7),(5,yc 6 7),(4,yc 5 5)]})
          (.br (.aB (.var 4) (.lit 11))
           (.call 2 {lo:=0,az:=0,iv:=yo [(70,yv 70)]<|yr 65 65 7<|yo [(57,yv 57),(56,yv 56)]<|yr 3 3 4<|yo [(53,yv 53),(52,yv 52),(69,yv 69),(50,yv 50),(49,yv 49),(47,yv 47)]<|yr 45 45 4<|yr 40 40 4<|yr 35 35 4<|yr 30 30 13<|yr 16 16 4<|yr 11 11 8 [],bv:=[(67,yw 67),(66,yw 66),(58,yw 58),(55,yw 55),(51,yw 51),(48,yw 48),(46,yw 46),(41,yw 41),(36,yw 36),(31,yw 31),(17,yw 17),(12,yw 12)],ct:=[(70,yu 70 59 7 yN 0),(69,yu 69 70 7 yN 0),(68,yu 68 49 5 yW 0),(54,yl 54 9 5 50 yW 0)],bk:=[(3,yc 3 7),(2,yc 2 7),(1,yc 1 5),(0,yb 0)]} 71 <|
            .fin {lo:=71,az:=4,iv:=yo [(137,yv 137)]<|yr 132 132 7<|yo [(124,yv 124),(123,yv 123),(120,yv 120),(119,yv 119),(136,yv 136),(117,yv 117),(116,yv 116),(114,yv 114)]<|yr 112 112 4<|yr 107 107 4<|yr 102 102 4<|yr 97 97 13<|yr 83 83 4<|yr 78 78 8 [],bv:=[(134,yw 134),(133,yw 133),(125,yw 125),(122,yw 122),(118,yw 118),(115,yw 115),(113,yw 113),(108,yw 108),(103,yw 103),(98,yw 98),(84,yw 84),(79,yw 79)],ct:=[(137,yu 137 126 7 yN 0),(136,yu 136 137 7 yN 0),(135,yu 135 116 5 yW 0),(121,yl 121 9 5 50 yW 0)],bk:=[(6,yc 7 7),(5,yc 6 7),(4,yc 5 5)]})
           (.fin {lo:=71,az:=4,iv:=yo [(137,yv 70)]<|yr 132 65 7<|yo [(124,yv 57),(123,yv 56),(120,yv 53),(119,yv 52),(136,yv 69),(117,yv 50),(116,yv 49),(114,yv 47)]<|yr 112 45 4<|yr 107 40 4<|yr 102 35 4<|yr 97 30 13<|yr 83 16 4<|yr 78 11 8 [],bv:=[(134,yw 67),(133,yw 66),(125,yw 58),(122,yw 55),(118,yw 51),(115,yw 48),(113,yw 46),(108,yw 41),(103,yw 36),(98,yw 31),(84,yw 17),(79,yw 12)],ct:=[(137,yu 70 59 7 yN 0),(136,yu 69 70 7 yN 0),(135,yu 68 49 5 yW 0),(121,yl 54 9 5 50 yW 0)],bk:=[(6,yc 3 7),(5,yc 2 7),(4,yc 1 5)]})))))))))))
theorem TZ:exec tab VI 8000 [] (dZ lK.f lK.nv [] lK.gl lK.hp lK.args)=F4:=by kernel_rfl
def AJ (ρ:Env):Prop:=bK ρ 4∧vL ρ∧Kq ρ 4∧(0≤ρ.iv 18∧ρ.iv 18<9)∧0≤ρ.iv 19∧ρ.iv 19<9
def CG (ρ:Env):Prop:=bK ρ 71∧aa ρ 0 71=(aa ρ 0 4).opened
set_option maxHeartbeats 4000000 in
theorem T9 (ρ:Env) (hpre:AJ ρ.num):Sat CG Ox [] ρ F4:=by
 replace hpre:AJ ρ:=hpre
 obtain ⟨⟨o1,o2,o3⟩,hs,hf,⟨n1,n2⟩,m1,m2⟩:=hpre
 unfold F4
 refine Sat.br (fun c1=>?_) (fun c1=>?_)
 ·simp only [Da] at c1
  have h0:(aa ρ 0 4).opened=if (aa ρ 0 4).bZ then (aa ρ 0 4).era 3 else (aa ρ 0 4).done:=if_pos c1
  refine Sat.br (fun c=>?_) (fun c=>?_)
  ·simp only [Da] at c
   have hm:(aa ρ 0 4).opened=(aa ρ 0 4).era 3:=h0.trans (if_pos c)
   exact Sat.fin ⟨⟨(by first | exact o1 | exact o2 | exact o3 | exact aj rfl rfl | assumption),(by first | exact o2 | exact ⟨aj rfl rfl,Int.le_refl 0,.inl rfl⟩ | assumption),(by first | exact o1 | exact o2 | exact o3 | exact aj rfl rfl | assumption)⟩,Eq.trans (b:=(aa ρ 0 4).era 3) (RS.ext' rfl rfl rfl rfl rfl rfl bA bF rfl rfl rfl rfl bE rfl bB rfl rfl) (Eq.symm (hm))⟩
  ·simp only [Da] at c
   have hm:(aa ρ 0 4).opened=(aa ρ 0 4).done:=h0.trans (if_neg (fun h:ρ.iv 0=4∨ρ.iv 0=5=>by omega))
   exact Sat.fin ⟨⟨(by first | exact o1 | exact o2 | exact o3 | exact aj rfl rfl | assumption),(by first | exact o2 | exact ⟨aj rfl rfl,Int.le_refl 0,.inl rfl⟩ | assumption),(by first | exact o1 | exact o2 | exact o3 | exact aj rfl rfl | assumption)⟩,Eq.trans (b:=(aa ρ 0 4).done) (RS.ext' rfl rfl rfl rfl rfl rfl bA bF rfl rfl rfl rfl bE rfl bB rfl rfl) (Eq.symm (hm))⟩
 simp only [Da] at c1
 refine Sat.br (fun c2=>?_) (fun c2=>?_)
 ·simp only [Da] at c2
  have hm:(aa ρ 0 4).opened=(aa ρ 0 4).leave 0:=(if_neg c1).trans (if_pos c2)
  refine eB (c:=iH) rfl (aa ρ 0 4) ((aa ρ 0 4).leave 0) (by decide) (by decide) (jq rfl rfl rfl rfl) ⟨⟨o1,o2,o3⟩,hs,Int.le_refl 0,(show (0:Int)≤9 by decide)⟩ (RS.ext' rfl rfl rfl rfl rfl rfl bA bF rfl rfl rfl rfl bE rfl bB rfl rfl) (fun e hq hr=>⟨hq.1,by rw [←hr];exact hq.2⟩) (fun u=>(bK u 71)∧aa u 0 71=(aa u 0 4).opened) (fun e h1 h2=>⟨h1,h2.trans hm.symm⟩) fun u hu=>?_
  obtain ⟨⟨o1,o2,o3⟩,hm⟩:=hu
  exact Sat.fin ⟨⟨(by first | exact o1 | exact o2 | exact o3 | exact aj rfl rfl | assumption),(by first | exact o2 | exact ⟨aj rfl rfl,Int.le_refl 0,.inl rfl⟩ | assumption),(by first | exact o1 | exact o2 | exact o3 | exact aj rfl rfl | assumption)⟩,Eq.trans (b:=(aa u 0 71)) (RS.ext' rfl rfl rfl rfl rfl rfl bA bF rfl rfl rfl rfl bE rfl bB rfl rfl) (Eq.symm (hm.symm))⟩
 simp only [Da] at c2
 refine Sat.br (fun c3=>?_) (fun c3=>?_)
 ·simp only [Da] at c3
  have hm:(aa ρ 0 4).opened=(aa ρ 0 4).load 1 (ρ.iv 5) (ρ.iv 6) (ρ.iv 7):=(if_neg c1).trans ((if_neg c2).trans (if_pos c3))
  exact Sat.fin ⟨⟨(by first | exact o1 | exact o2 | exact o3 | exact aj rfl rfl | assumption),(by first | exact o2 | exact ⟨aj rfl rfl,Int.le_refl 0,.inl rfl⟩ | assumption),(by first | exact o1 | exact o2 | exact o3 | exact aj rfl rfl | assumption)⟩,Eq.trans (b:=(aa ρ 0 4).load 1 (ρ.iv 5) (ρ.iv 6) (ρ.iv 7)) (RS.ext' rfl rfl rfl rfl rfl rfl bA bF rfl rfl rfl rfl bE rfl bB rfl rfl) (Eq.symm (hm))⟩
 simp only [Da] at c3
 refine Sat.br (fun c4=>?_) (fun c4=>?_)
 ·simp only [Da] at c4
  have hm:(aa ρ 0 4).opened=(aa ρ 0 4).ask 1 ⟨2,ρ.iv 5,ρ.iv 6,ρ.iv 7,ak ρ 8,ak ρ 13⟩:=(if_neg c1).trans ((if_neg c2).trans ((if_neg c3).trans (if_pos c4)))
  exact Sat.fin ⟨⟨(by first | exact o1 | exact o2 | exact o3 | exact aj rfl rfl | assumption),(by first | exact o2 | exact ⟨aj rfl rfl,Int.le_refl 0,.inl rfl⟩ | assumption),(by first | exact o1 | exact o2 | exact o3 | exact aj rfl rfl | assumption)⟩,Eq.trans (b:=(aa ρ 0 4).ask 1 ⟨2,ρ.iv 5,ρ.iv 6,ρ.iv 7,ak ρ 8,ak ρ 13⟩) (RS.ext' rfl rfl rfl rfl rfl rfl bA bF rfl rfl rfl rfl bE rfl bB rfl rfl) (Eq.symm (hm))⟩
 simp only [Da] at c4
 refine Sat.br (fun c5=>?_) (fun c5=>?_)
 ·simp only [Da] at c5
  have hm:(aa ρ 0 4).opened=(aa ρ 0 4).ask 1 ⟨3,ρ.iv 5,ρ.iv 6,ρ.iv 7,ak ρ 8,ak ρ 13⟩:=(if_neg c1).trans ((if_neg c2).trans ((if_neg c3).trans ((if_neg c4).trans (if_pos c5))))
  exact Sat.fin ⟨⟨(by first | exact o1 | exact o2 | exact o3 | exact aj rfl rfl | assumption),(by first | exact o2 | exact ⟨aj rfl rfl,Int.le_refl 0,.inl rfl⟩ | assumption),(by first | exact o1 | exact o2 | exact o3 | exact aj rfl rfl | assumption)⟩,Eq.trans (b:=(aa ρ 0 4).ask 1 ⟨3,ρ.iv 5,ρ.iv 6,ρ.iv 7,ak ρ 8,ak ρ 13⟩) (RS.ext' rfl rfl rfl rfl rfl rfl bA bF rfl rfl rfl rfl bE rfl bB rfl rfl) (Eq.symm (hm))⟩
 simp only [Da] at c5
 refine Sat.br (fun c6=>?_) (fun c6=>?_)
 ·simp only [Da] at c6
  have hm:(aa ρ 0 4).opened=(aa ρ 0 4).load 5 (ρ.iv 5) (ρ.iv 6) (ρ.iv 7):=(if_neg c1).trans ((if_neg c2).trans ((if_neg c3).trans ((if_neg c4).trans ((if_neg c5).trans (if_pos c6)))))
  exact Sat.fin ⟨⟨(by first | exact o1 | exact o2 | exact o3 | exact aj rfl rfl | assumption),(by first | exact o2 | exact ⟨aj rfl rfl,Int.le_refl 0,.inl rfl⟩ | assumption),(by first | exact o1 | exact o2 | exact o3 | exact aj rfl rfl | assumption)⟩,Eq.trans (b:=(aa ρ 0 4).load 5 (ρ.iv 5) (ρ.iv 6) (ρ.iv 7)) (RS.ext' rfl rfl rfl rfl rfl rfl bA bF rfl rfl rfl rfl bE rfl bB rfl rfl) (Eq.symm (hm))⟩
 simp only [Da] at c6
 have hB:∀X:RS,(if ρ.iv 4=7 then (if (aa ρ 0 4).bP∧(aa ρ 0 4).holds (ρ.iv 18).toNat≠(aa ρ 0 4).holds (ρ.iv 19).toNat then (aa ρ 0 4).post 2 (ρ.iv 18) ((aa ρ 0 4).holds (ρ.iv 19).toNat) else (aa ρ 0 4).done)
     else if ρ.iv 4=8 then (if (aa ρ 0 4).bN then (aa ρ 0 4).era 8 else (aa ρ 0 4).ask 1 ⟨4,0,0,0,Wd.zero,Wd.zero⟩)
     else if ρ.iv 4=9 then (aa ρ 0 4).ask 2 ⟨5,0,0,0,ak ρ 8,Wd.zero⟩ else if ρ.iv 4=10 then (aa ρ 0 4).fU else if ρ.iv 4=11 then (aa ρ 0 4).scan else aa ρ 0 4)=X→(aa ρ 0 4).opened=X :=
  fun X h=>((if_neg c1).trans ((if_neg c2).trans ((if_neg c3).trans ((if_neg c4).trans ((if_neg c5).trans (if_neg c6)))))).trans h
 refine Sat.br (fun c7=>?_) (fun c7=>?_)
 ·simp only [Da] at c7
  refine Sat.ob (by simp only [Da];omega) (Sat.ob (by simp only [Da];omega) (Sat.ob (by simp only [Da];omega) (Sat.ob (by simp only [Da];omega) (Sat.br (fun c=>?_) (fun c=>?_)))))
  ·simp only [Da] at c
   have hne:(aa ρ 0 4).holds (ρ.iv 18).toNat≠(aa ρ 0 4).holds (ρ.iv 19).toNat:=fun h=>by
    have h':=oU.1 h
    simp only [aa,aF] at h'
    simp_all
   have hm:(aa ρ 0 4).opened=(aa ρ 0 4).post 2 (ρ.iv 18) ((aa ρ 0 4).holds (ρ.iv 19).toNat):=hB _ ((if_pos c7).trans (if_pos ⟨c.1,hne⟩))
   refine Sat.ob (decide_eq_true m1) (Sat.ob (by simp only [Da];omega) (Sat.ob (decide_eq_true n1) (Sat.ob (by simp only [Da];omega) (Sat.iT (c:=fV) rfl ⟨⟨hs.1,hs.2.1⟩,n1,n2⟩ (fun r=>((bK r 4)∧0≤r.iv 18)∧(aa r 0 4).opened=(aa r 0 4).post 2 (r.iv 18) ((aa r 0 4).holds (r.iv 19).toNat)) (fun e _=>⟨⟨⟨o1,o2,o3⟩,n1⟩,hm⟩) fun r hr=>?_))))
   obtain ⟨⟨⟨o1,o2,o3⟩,i1⟩,hm⟩:=hr
   refine Sat.fin ⟨⟨(by first | exact o1 | exact o2 | exact o3 | exact aj rfl rfl | assumption),(by first | exact o2 | exact ⟨aj rfl rfl,Int.le_refl 0,.inl rfl⟩ | assumption),(by first | exact o1 | exact o2 | exact o3 | exact aj rfl rfl | assumption)⟩,Eq.trans (b:=(aa r 0 4).post 2 (r.iv 18) ((aa r 0 4).holds (r.iv 19).toNat)) (RS.ext' rfl rfl rfl rfl rfl rfl bA bF rfl rfl rfl rfl ?_ rfl bB rfl rfl) (Eq.symm (hm))⟩
   intro i
   show _=if i=(r.iv 18).toNat then aF (r.ic 54 (r.iv 19).toNat 0) (r.bc 54 (r.iv 19).toNat 0) else aF (r.ic 54 i 0) (r.bc 54 i 0)
   by_cases h:i=(r.iv 18).toNat
   ·subst h
    simp [aa,aF,Wd.gF,ak,-Int.pred_toNat,Sub.ag,assoc,CV.I,CV.B,ah,ai,ae.I,ae.B,SC.I,SC.B,IE.den,BE.den]
   ·simp [aa,aF,-Int.pred_toNat,Sub.ag,assoc,CV.I,CV.B,ah,ai,ae.I,ae.B,SC.I,SC.B,IE.den,BE.den,h,Ne.symm h]
  ·simp only [Da] at c
   have he:¬((aa ρ 0 4).bP∧(aa ρ 0 4).holds (ρ.iv 18).toNat≠(aa ρ 0 4).holds (ρ.iv 19).toNat):=by
    rintro ⟨h1,h2⟩
    have h1:ρ.iv 0=2∨ρ.iv 0=3:=h1
    apply h2
    apply oU.2
    simp only [aa,aF]
    rcases c with c | c
    ·omega
    ·exact c
   have hm:(aa ρ 0 4).opened=(aa ρ 0 4).done:=hB _ ((if_pos c7).trans (if_neg he))
   exact Sat.fin ⟨⟨(by first | exact o1 | exact o2 | exact o3 | exact aj rfl rfl | assumption),(by first | exact o2 | exact ⟨aj rfl rfl,Int.le_refl 0,.inl rfl⟩ | assumption),(by first | exact o1 | exact o2 | exact o3 | exact aj rfl rfl | assumption)⟩,Eq.trans (b:=(aa ρ 0 4).done) (RS.ext' rfl rfl rfl rfl rfl rfl bA bF rfl rfl rfl rfl bE rfl bB rfl rfl) (Eq.symm (hm))⟩
 simp only [Da] at c7
 refine Sat.br (fun c8=>?_) (fun c8=>?_)
 ·simp only [Da] at c8
  refine Sat.br (fun c=>?_) (fun c=>?_)
  ·simp only [Da] at c
   have hm:(aa ρ 0 4).opened=(aa ρ 0 4).era 8:=hB _ ((if_neg c7).trans ((if_pos c8).trans (if_pos c)))
   exact Sat.fin ⟨⟨(by first | exact o1 | exact o2 | exact o3 | exact aj rfl rfl | assumption),(by first | exact o2 | exact ⟨aj rfl rfl,Int.le_refl 0,.inl rfl⟩ | assumption),(by first | exact o1 | exact o2 | exact o3 | exact aj rfl rfl | assumption)⟩,Eq.trans (b:=(aa ρ 0 4).era 8) (RS.ext' rfl rfl rfl rfl rfl rfl bA bF rfl rfl rfl rfl bE rfl bB rfl rfl) (Eq.symm (hm))⟩
  ·simp only [Da] at c
   have hm:(aa ρ 0 4).opened=(aa ρ 0 4).ask 1 ⟨4,0,0,0,Wd.zero,Wd.zero⟩:=hB _ ((if_neg c7).trans ((if_pos c8).trans (if_neg (fun h:ρ.iv 0=3∨ρ.iv 0=5=>by omega))))
   exact Sat.fin ⟨⟨(by first | exact o1 | exact o2 | exact o3 | exact aj rfl rfl | assumption),(by first | exact o2 | exact ⟨aj rfl rfl,Int.le_refl 0,.inl rfl⟩ | assumption),(by first | exact o1 | exact o2 | exact o3 | exact aj rfl rfl | assumption)⟩,Eq.trans (b:=(aa ρ 0 4).ask 1 ⟨4,0,0,0,Wd.zero,Wd.zero⟩) (RS.ext' rfl rfl rfl rfl rfl rfl bA bF rfl rfl rfl rfl bE rfl bB rfl rfl) (Eq.symm (hm))⟩
 simp only [Da] at c8
 refine Sat.br (fun c9=>?_) (fun c9=>?_)
 ·simp only [Da] at c9
  have hm:(aa ρ 0 4).opened=(aa ρ 0 4).ask 2 ⟨5,0,0,0,ak ρ 8,Wd.zero⟩:=hB _ ((if_neg c7).trans ((if_neg c8).trans (if_pos c9)))
  exact Sat.fin ⟨⟨(by first | exact o1 | exact o2 | exact o3 | exact aj rfl rfl | assumption),(by first | exact o2 | exact ⟨aj rfl rfl,Int.le_refl 0,.inl rfl⟩ | assumption),(by first | exact o1 | exact o2 | exact o3 | exact aj rfl rfl | assumption)⟩,Eq.trans (b:=(aa ρ 0 4).ask 2 ⟨5,0,0,0,ak ρ 8,Wd.zero⟩) (RS.ext' rfl rfl rfl rfl rfl rfl bA bF rfl rfl rfl rfl bE rfl bB rfl rfl) (Eq.symm (hm))⟩
 simp only [Da] at c9
 refine Sat.br (fun c10=>?_) (fun c10=>?_)
 ·simp only [Da] at c10
  have hm:(aa ρ 0 4).opened=(aa ρ 0 4).fU:=hB _ ((if_neg c7).trans ((if_neg c8).trans ((if_neg c9).trans (if_pos c10))))
  refine eB (c:=jh) rfl (aa ρ 0 4) (aa ρ 0 4).fU (by decide) (by decide) (jq rfl rfl rfl rfl) ⟨⟨o1,o2,o3⟩,hs,hf⟩ (RS.ext' rfl rfl rfl rfl rfl rfl bA bF rfl rfl rfl rfl bE rfl bB rfl rfl) (fun e hq hr=>⟨hq.1,by rw [←hr];exact hq.2⟩) (fun u=>(bK u 71)∧aa u 0 71=(aa u 0 4).opened) (fun e h1 h2=>⟨h1,h2.trans hm.symm⟩) fun u hu=>?_
  obtain ⟨⟨o1,o2,o3⟩,hm⟩:=hu
  exact Sat.fin ⟨⟨(by first | exact o1 | exact o2 | exact o3 | exact aj rfl rfl | assumption),(by first | exact o2 | exact ⟨aj rfl rfl,Int.le_refl 0,.inl rfl⟩ | assumption),(by first | exact o1 | exact o2 | exact o3 | exact aj rfl rfl | assumption)⟩,Eq.trans (b:=(aa u 0 71)) (RS.ext' rfl rfl rfl rfl rfl rfl bA bF rfl rfl rfl rfl bE rfl bB rfl rfl) (Eq.symm (hm.symm))⟩
 simp only [Da] at c10
 refine Sat.br (fun c11=>?_) (fun c11=>?_)
 ·simp only [Da] at c11
  have hm:(aa ρ 0 4).opened=(aa ρ 0 4).scan:=hB _ ((if_neg c7).trans ((if_neg c8).trans ((if_neg c9).trans ((if_neg c10).trans (if_pos c11)))))
  refine eB (c:=ji) rfl (aa ρ 0 4) (aa ρ 0 4).scan (by decide) (by decide) (jq rfl rfl rfl rfl) ⟨⟨o1,o2,o3⟩,hs⟩ (RS.ext' rfl rfl rfl rfl rfl rfl bA bF rfl rfl rfl rfl bE rfl bB rfl rfl) (fun e hq hr=>⟨hq.1,by rw [←hr];exact hq.2⟩) (fun u=>(bK u 71)∧aa u 0 71=(aa u 0 4).opened) (fun e h1 h2=>⟨h1,h2.trans hm.symm⟩) fun u hu=>?_
  obtain ⟨⟨o1,o2,o3⟩,hm⟩:=hu
  exact Sat.fin ⟨⟨(by first | exact o1 | exact o2 | exact o3 | exact aj rfl rfl | assumption),(by first | exact o2 | exact ⟨aj rfl rfl,Int.le_refl 0,.inl rfl⟩ | assumption),(by first | exact o1 | exact o2 | exact o3 | exact aj rfl rfl | assumption)⟩,Eq.trans (b:=(aa u 0 71)) (RS.ext' rfl rfl rfl rfl rfl rfl bA bF rfl rfl rfl rfl bE rfl bB rfl rfl) (Eq.symm (hm.symm))⟩
 ·simp only [Da] at c11
  have hm:(aa ρ 0 4).opened=aa ρ 0 4:=hB _ ((if_neg c7).trans ((if_neg c8).trans ((if_neg c9).trans ((if_neg c10).trans (if_neg c11)))))
  exact Sat.fin ⟨⟨(by first | exact o1 | exact o2 | exact o3 | exact aj rfl rfl | assumption),(by first | exact o2 | exact ⟨aj rfl rfl,Int.le_refl 0,.inl rfl⟩ | assumption),(by first | exact o1 | exact o2 | exact o3 | exact aj rfl rfl | assumption)⟩,Eq.trans (b:=(aa ρ 0 4)) (RS.ext' rfl rfl rfl rfl rfl rfl bA bF rfl rfl rfl rfl bE rfl bB rfl rfl) (Eq.symm (hm))⟩
theorem Ua:aV Tryz.prog lK AJ CG :=
 cK dF (E:=VI) (cs:=Ox) rfl W9 bO rfl TZ (by kernel_rfl) (fun ρ _ p hp=>by cases hp) T9
structure Lo where
 av:Int
 me:Int
 threads:Int
 most:Int
 h:Nat→Wd
 s:Sp
 notes:List Nt
 freed:Int
namespace Lo
variable (l:Lo)
def bP:Prop:=l.av=2∨l.av=3
def bN:Prop:=l.av=3∨l.av=5
def bZ:Prop:=l.av=4∨l.av=5
instance:Decidable l.bP:=by unfold bP;exact inferInstance
instance:Decidable l.bN:=by unfold bN;exact inferInstance
instance:Decidable l.bZ:=by unfold bZ;exact inferInstance
def hold (n:Int) (w:Wd):Lo:={l with h:=fun i=>if i=n.toNat then w else l.h i}
def all:Int:=if l.bP then l.threads * 9 else l.threads
def base:Int:=if l.bP then 25 else 79
end Lo
inductive RT where
 | idle (x:Rp)
 | one (a:Ac)
 | fin (a:Ac)
 | qL
 | jo (i:Int)
 | gV (c:Ca)
 | jy (c:Ca) (w:Wd)
 | iN (c:Ca) (a:Ac)
 | xB
 | nC (old:Wd)
 | ng (old:Wd) (b:Int)
 | nO (clock:Wd)
 | qM
 | iL (clock:Wd) (seen:List Wd)
 | qN (clock:Wd)
 | iZ
 | lh (d:Nt) (l:List Nt)
def Ac.load (slot gen field:Int):Ac:=⟨1,slot,gen,field,Wd.zero,Wd.zero⟩
def Ac.era:Ac:=Ac.load 0 0 24
def Ac.eG (clock:Wd):Ac:=⟨3,0,0,24,clock,⟨0,0,clock.tag+1,clock.num+1,false⟩⟩
def Ac.store (slot gen field:Int) (w:Wd):Ac:=⟨2,slot,gen,field,Wd.zero,w⟩
def RT.acc (l:Lo):RT→Ac
 | .idle _=>Ac.zero
 | .one a=>a
 | .fin a=>a
 | .qL=>Ac.era
 | .jo i=>Ac.store 0 0 (25+l.me * 9+i) Wd.zero
 | .gV c=>Ac.load c.slot c.gen c.field
 | .jy _ _=>Ac.era
 | .iN _ a=>a
 | .xB=>Ac.era
 | .nC old=>Ac.load old.slot old.gen 9
 | .ng _ _=>Ac.era
 | .nO clock=>Ac.eG clock
 | .qM=>Ac.era
 | .iL _ seen=>Ac.load 0 0 (l.base+seen.length)
 | .qN clock=>Ac.eG clock
 | .iZ=>Ac.era
 | .lh d _=>⟨5,0,0,0,d.ref,Wd.zero⟩
def RT.ig:RT→Int
 | .idle _=>0
 | .one _=>1
 | .fin _=>2
 | .qL=>3
 | .jo _=>4
 | .gV _=>5
 | .jy _ _=>6
 | .iN _ _=>7
 | .xB=>8
 | .nC _=>9
 | .ng _ _=>10
 | .nO _=>11
 | .qM=>12
 | .iL _ _=>13
 | .qN _=>14
 | .iZ=>15
 | .lh _ _=>16
def Rp.yes:Rp:=⟨Wd.zero,true⟩
abbrev LR:=Lo × RT
namespace RT
def kF (l:Lo) (s:Sp):Ac:=Ac.store 0 0 (79+l.me) (RS.qY s)
def leave (l:Lo) (start:Int):LR :=
 if l.bZ∧l.s≠Sp.zero then ({l with s:=Sp.zero},.fin (kF l Sp.zero))
 else if l.bP then
  match RS.first l.h start.toNat (9-start.toNat) with
  | some n=>(l.hold n Wd.zero,.jo n)
  | none=>(l,.idle Rp.yes)
 else (l,.idle Rp.yes)
def scan (l:Lo):LR :=
 if l.av=1 then (l,.idle Rp.yes)
 else if l.av=4 then (l,.qM)
 else (l,.iL Wd.zero [])
def dO (l:Lo):LR:=if l.notes.length≥l.most then scan l else (l,.idle Rp.yes)
def note (l:Lo) (old:Wd) (b d:Int):Lo:={l with notes:=l.notes ++ [⟨old.gF,b,d⟩]}
def fU (l:Lo) (old:Wd):LR :=
 if l.av=2 then dO (note l old 0 0)
 else if l.av=4 then (l,.ng old 0)
 else if l.av=3∨l.av=5 then (l,.nC old)
 else (l,.idle Rp.yes)
def begin (l:Lo) (c:Ca):LR :=
 if c.kind=1 then (if l.bZ then (l,.qL) else (l,.idle Rp.yes))
 else if c.kind=2 then leave l 0
 else if c.kind=3 then (l,.one (Ac.load c.slot c.gen c.field))
 else if c.kind=4 then (l,.one ⟨2,c.slot,c.gen,c.field,c.old,c.new⟩)
 else if c.kind=5 then (l,.one ⟨3,c.slot,c.gen,c.field,c.old,c.new⟩)
 else if c.kind=6 then (l,.gV c)
 else if c.kind=7 then (if l.bP∧l.h c.i.toNat≠l.h c.j.toNat then (l.hold c.i (l.h c.j.toNat),.fin (Ac.store 0 0 (25+l.me * 9+c.i) (l.h c.j.toNat))) else (l,.idle Rp.yes))
 else if c.kind=8 then (if l.bN then (l,.xB) else (l,.one ⟨4,0,0,0,Wd.zero,Wd.zero⟩))
 else if c.kind=9 then (l,.fin ⟨5,0,0,0,c.old,Wd.zero⟩)
 else if c.kind=10 then fU l c.old
 else scan l
def dK (l:Lo) (i now:Int):Prop :=
 if l.av=3 then l.h i.toNat≠Wd.zero∧(l.h i.toNat).num=now
 else l.s.is=true∧l.s.high=now
instance (l:Lo) (i now:Int):Decidable (dK l i now):=by unfold dK;exact inferInstance
def kept (l:Lo) (clock:Wd) (seen:List Wd) (n:Nt):Bool :=
 if l.av=2 then seen.any fun w=>RS.xh w n
 else if l.av=3 then seen.any fun w=>RS.vH w.num n
 else if l.av=5 then seen.any fun w=>RS.sI (RS.j4 w) n
 else RS.qy clock.num n
def eD (l:Lo):List Nt→LR
 | []=>(l,.idle Rp.yes)
 | d :: r=>(l,.lh d r)
def gK (l:Lo) (clock:Wd) (seen:List Wd):LR:=eD l (l.notes.filter fun n=>!kept l clock seen n)
def bM (l:Lo):RT→Rp→LR
 | .idle x,_=>(l,.idle x)
 | .one _,x=>(l,.idle x)
 | .fin _,_=>(l,.idle Rp.yes)
 | .qL,x=>({l with s:=⟨true,x.word.num,x.word.num⟩},.fin (kF l ⟨true,x.word.num,x.word.num⟩))
 | .jo i,_=>leave l (i+1)
 | .gV c,x =>
  if l.bN then (l,.jy c x.word)
  else if l.av=2∧x.word.slot≠0∧l.h c.i.toNat≠x.word.gF then (l.hold c.i x.word.gF,.iN c (Ac.store 0 0 (25+l.me * 9+c.i) x.word.gF))
  else (l,.idle ⟨x.word,true⟩)
 | .jy c w,x =>
  if dK l c.i x.word.num then (l,.idle ⟨w,true⟩)
  else if l.av=3 then (l.hold c.i (Wd.fC x.word.num),.iN c (Ac.store 0 0 (25+l.me * 9+c.i) (Wd.fC x.word.num)))
  else ({l with s:=⟨true,if l.s.is=true then l.s.low else x.word.num,x.word.num⟩},.iN c (kF l ⟨true,if l.s.is=true then l.s.low else x.word.num,x.word.num⟩))
 | .iN c _,_=>(l,.gV c)
 | .xB,x=>(l,.one ⟨4,0,0,0,Wd.zero,Wd.fC x.word.num⟩)
 | .nC old,x=>(l,.ng old x.word.num)
 | .ng old b,x=>if l.bN then (note l old b x.word.num,.nO x.word) else dO (note l old b x.word.num)
 | .nO _,_=>dO l
 | .qM,x=>(l,.iL x.word [])
 | .iL clock seen,x =>
  if (seen.length:Int)+1<l.all then (l,.iL clock (seen ++ [x.word]))
  else if l.av≠4 then gK l clock (seen ++ [x.word])
  else if RS.may clock.num ((seen ++ [x.word]).map RS.j4)=true then (l,.qN clock)
  else (l,.iZ)
 | .qN _,_=>(l,.iZ)
 | .iZ,x=>gK l x.word []
 | .lh d r,_=>eD {l with notes:=l.notes.erase d,freed:=l.freed+1} r
end RT
structure ik (l:Lo) (t:RT) (r:RS):Prop where
 av:r.av=l.av
 me:r.me=l.me
 threads:r.threads=l.threads
 most:r.most=l.most
 holds:r.holds=l.h
 span:r.span=l.s
 notes:r.notes=l.notes
 freed:r.freed=l.freed
 step:r.step=t.ig
 acc:t.ig≠0→r.acc=t.acc l
 more:match t with
  | .idle x=>r.bV=x
  | .jo i=>r.index=i
  | .gV c=>r.call=c
  | .jy c w=>r.call=c∧r.word=w
  | .iN c _=>r.call=c
  | .nC old=>r.call.old=old∧r.seen=[]
  | .ng old b=>r.call.old=old∧r.word.num=b∧r.seen=[]
  | .nO _=>r.seen=[]
  | .qM=>r.seen=[]
  | .iL clock seen=>(l.av=4→r.clock=clock)∧r.seen=seen∧r.index=seen.length
  | .lh d rest=>r.bL=d :: rest
  | _=>True
structure Lo.OK (l:Lo):Prop where
 av:1≤l.av∧l.av≤5
 me:0≤l.me∧l.me<l.threads
 threads:1≤l.threads∧l.threads≤6
 most:1≤l.most
section
variable {l:Lo} {r:RS}
theorem ik.bP {t:RT} (h:ik l t r):r.bP↔l.bP:=by simp only [RS.bP,Lo.bP,h.av]
theorem ik.bN {t:RT} (h:ik l t r):r.bN↔l.bN:=by simp only [RS.bN,Lo.bN,h.av]
theorem ik.bZ {t:RT} (h:ik l t r):r.bZ↔l.bZ:=by simp only [RS.bZ,Lo.bZ,h.av]
end
structure bX (l:Lo) (r:RS):Prop where
 av:r.av=l.av
 me:r.me=l.me
 threads:r.threads=l.threads
 most:r.most=l.most
 holds:r.holds=l.h
 span:r.span=l.s
 notes:r.notes=l.notes
 freed:r.freed=l.freed
theorem ik.keeps {l:Lo} {t:RT} {r:RS} (h:ik l t r):bX l r:=⟨h.av,h.me,h.threads,h.most,h.holds,h.span,h.notes,h.freed⟩
section
variable {l:Lo} {r:RS}
theorem bX.bP (h:bX l r):r.bP↔l.bP:=by simp only [RS.bP,Lo.bP,h.av]
theorem bX.bN (h:bX l r):r.bN↔l.bN:=by simp only [RS.bN,Lo.bN,h.av]
theorem bX.bZ (h:bX l r):r.bZ↔l.bZ:=by simp only [RS.bZ,Lo.bZ,h.av]
theorem bX.fin (h:bX l r) (x:Rp):ik l (.idle x) (r.finish x) :=
 ⟨h.av,h.me,h.threads,h.most,h.holds,h.span,h.notes,h.freed,rfl,fun h=>absurd rfl h,rfl⟩
theorem bX.done (h:bX l r):ik l (.idle Rp.yes) r.done:=h.fin _
theorem bX.ask (h:bX l r) {t:RT} {a:Ac} (h0:t.ig≠0) (ha:a=t.acc l) (hm:match t with
    | .idle x=>r.bV=x
    | .jo i=>r.index=i
    | .gV c=>r.call=c
    | .jy c w=>r.call=c∧r.word=w
    | .iN c _=>r.call=c
    | .nC old=>r.call.old=old∧r.seen=[]
    | .ng old b=>r.call.old=old∧r.word.num=b∧r.seen=[]
    | .nO _=>r.seen=[]
    | .qM=>r.seen=[]
    | .iL clock seen=>(l.av=4→r.clock=clock)∧r.seen=seen∧r.index=seen.length
    | .lh d rest=>r.bL=d :: rest
    | _=>True):ik l t (r.ask t.ig a):=by
 refine ⟨h.av,h.me,h.threads,h.most,h.holds,h.span,h.notes,h.freed,rfl,fun _=>ha,?_⟩
 cases t <;> exact hm
theorem bX.hold (h:bX l r) (n:Int) (w:Wd):bX (l.hold n w) (r.hold n w) :=
 ⟨h.av,h.me,h.threads,h.most,by simp only [RS.hold,Lo.hold,h.holds],h.span,h.notes,h.freed⟩
theorem bX.leave (h:bX l r) (n:Int):ik (RT.leave l n).1 (RT.leave l n).2 (r.leave n):=by
 have c1:(r.bZ∧r.span≠Sp.zero)↔(l.bZ∧l.s≠Sp.zero):=by rw [h.bZ,h.span]
 unfold RS.leave RT.leave
 by_cases hA:l.bZ∧l.s≠Sp.zero
 ·rw [if_pos (c1.2 hA),if_pos hA]
  refine bX.ask (l:={l with s:=Sp.zero}) (r:={r with span:=Sp.zero}) (t:=.fin (RT.kF l Sp.zero)) ⟨h.av,h.me,h.threads,h.most,h.holds,rfl,h.notes,h.freed⟩ (show (2:Int)≠0 by decide) ?_ trivial
  show (⟨2,0,0,79+r.me,Wd.zero,RS.qY Sp.zero⟩:Ac)=_
  rw [h.me];rfl
 ·rw [if_neg (fun x=>hA (c1.1 x)),if_neg hA]
  by_cases hB:l.bP
  ·rw [if_pos (h.bP.2 hB),if_pos hB]
   have e:RS.first r.holds n.toNat (9-n.toNat)=RS.first l.h n.toNat (9-n.toNat):=by rw [h.holds]
   rw [e]
   cases RS.first l.h n.toNat (9-n.toNat) with
   | some k =>
    refine bX.ask (l:=l.hold k Wd.zero) (r:=({r with index:=k}:RS).hold k Wd.zero) (t:=.jo k) (bX.hold (r:={r with index:=k}) ⟨h.av,h.me,h.threads,h.most,h.holds,h.span,h.notes,h.freed⟩ _ _) (show (4:Int)≠0 by decide) ?_ rfl
    show (⟨2,0,0,25+r.me * 9+k,Wd.zero,Wd.zero⟩:Ac)=_
    rw [h.me];rfl
   | none=>exact h.done
  ·rw [if_neg (fun x=>hB (h.bP.1 x)),if_neg hB]
   exact h.done
theorem bX.look (h:bX l r) (n:Int) {clock:Wd} {seen:List Wd} (hn:n=seen.length) (hc:l.av=4→r.clock=clock) (hs:r.seen=seen) :
  if n<l.all then ∃q,r.look n=some q∧ik l (.iL clock seen) q else r.look n=none:=by
 unfold RS.look Lo.all
 by_cases hB:l.bP
 ·rw [if_pos hB,if_pos (h.bP.2 hB)]
  have ht:=h.threads
  by_cases hn':n<l.threads * 9
  ·rw [if_pos hn',if_neg (by omega)]
   refine ⟨_,rfl,⟨h.av,h.me,h.threads,h.most,h.holds,h.span,h.notes,h.freed,rfl,fun _=>?_,hc,hs,hn⟩⟩
   show (⟨1,0,0,25+n,Wd.zero,Wd.zero⟩:Ac)=Ac.load 0 0 (l.base+seen.length)
   rw [hn,Lo.base,if_pos hB];rfl
  ·rw [if_neg hn',if_pos (by omega)]
 ·rw [if_neg hB,if_neg (fun x=>hB (h.bP.1 x))]
  have ht:=h.threads
  by_cases hn':n<l.threads
  ·rw [if_pos hn',if_neg (by omega)]
   refine ⟨_,rfl,⟨h.av,h.me,h.threads,h.most,h.holds,h.span,h.notes,h.freed,rfl,fun _=>?_,hc,hs,hn⟩⟩
   show (⟨1,0,0,79+n,Wd.zero,Wd.zero⟩:Ac)=Ac.load 0 0 (l.base+seen.length)
   rw [hn,Lo.base,if_neg hB];rfl
  ·rw [if_neg hn',if_pos (by omega)]
theorem Lo.OK.all {l:Lo} (h:l.OK):0<l.all:=by
 have:=h.threads
 unfold Lo.all
 split <;> omega
theorem bX.VJ (h:bX l r) (ho:l.OK) {clock:Wd} (hc:l.av=4→r.clock=clock) (hs:r.seen=[]):ik l (.iL clock []) ((r.look 0).getD r):=by
 have:=h.look 0 (clock:=clock) (seen:=[]) rfl hc hs
 rw [if_pos ho.all] at this
 obtain ⟨q,h1,h2⟩:=this
 rw [h1]
 exact h2
theorem bX.scan (h:bX l r) (ho:l.OK) (hs:r.seen=[]):ik (RT.scan l).1 (RT.scan l).2 r.scan:=by
 unfold RS.scan RT.scan
 rw [h.av]
 by_cases h1:l.av=1
 ·rw [if_pos h1,if_pos h1];exact h.done
 ·rw [if_neg h1,if_neg h1]
  by_cases h4:l.av=4
  ·rw [if_pos h4,if_pos h4]
   exact h.ask (t:=.qM) (show (12:Int)≠0 by decide) rfl hs
  ·rw [if_neg h4,if_neg h4]
   exact h.VJ ho (fun h=>absurd h h4) hs
theorem bX.dO (h:bX l r) (ho:l.OK) (hs:r.seen=[]):ik (RT.dO l).1 (RT.dO l).2 r.dO:=by
 unfold RS.dO RT.dO
 rw [h.notes,h.most]
 split
 ·exact h.scan ho hs
 ·exact h.done
theorem bX.note (h:bX l r) (b d:Int):bX (RT.note l r.call.old b d) (r.note b d) :=
 ⟨h.av,h.me,h.threads,h.most,h.holds,h.span,by simp only [RS.note,RT.note,h.notes],h.freed⟩
theorem Lo.OK.note {l:Lo} (h:l.OK) (w:Wd) (b d:Int):(RT.note l w b d).OK:=⟨h.av,h.me,h.threads,h.most⟩
theorem bX.fU (h:bX l r) (ho:l.OK) (hs:r.seen=[]) (hw:r.word.num=0):ik (RT.fU l r.call.old).1 (RT.fU l r.call.old).2 r.fU:=by
 unfold RS.fU RT.fU
 rw [h.av]
 by_cases h2:l.av=2
 ·rw [if_pos h2,if_pos h2]
  exact (h.note 0 0).dO (ho.note _ _ _) hs
 rw [if_neg h2,if_neg h2]
 by_cases h4:l.av=4
 ·rw [if_pos h4,if_pos h4]
  exact h.ask (t:=.ng r.call.old 0) (show (10:Int)≠0 by decide) rfl ⟨rfl,hw,hs⟩
 rw [if_neg h4,if_neg h4]
 by_cases VK:l.av=3∨l.av=5
 ·rw [if_pos VK,if_pos VK]
  exact h.ask (t:=.nC r.call.old) (show (9:Int)≠0 by decide) rfl ⟨rfl,hs⟩
 rw [if_neg VK,if_neg VK]
 exact h.done
def Ca.OK (c:Ca):Prop:=1≤c.kind∧c.kind≤11∧0≤c.i∧c.i<9∧0≤c.j∧c.j<9
theorem bX.opened (h:bX l r) (ho:l.OK) (hs:r.seen=[]) (hw:r.word.num=0) (hc:r.call.OK):ik (RT.begin l r.call).1 (RT.begin l r.call).2 r.opened:=by
 unfold RS.opened RT.begin
 simp only
 by_cases k1:r.call.kind=1
 ·rw [if_pos k1,if_pos k1]
  by_cases g:l.bZ
  ·rw [if_pos g,if_pos (h.bZ.2 g)]
   exact h.ask (t:=.qL) (show (3:Int)≠0 by decide) rfl trivial
  ·rw [if_neg g,if_neg (fun x=>g (h.bZ.1 x))]
   exact h.done
 rw [if_neg k1,if_neg k1]
 by_cases k2:r.call.kind=2
 ·rw [if_pos k2,if_pos k2]
  exact h.leave 0
 rw [if_neg k2,if_neg k2]
 by_cases k3:r.call.kind=3
 ·rw [if_pos k3,if_pos k3]
  exact h.ask (t:=.one (Ac.load r.call.slot r.call.gen r.call.field)) (show (1:Int)≠0 by decide) rfl trivial
 rw [if_neg k3,if_neg k3]
 by_cases k4:r.call.kind=4
 ·rw [if_pos k4,if_pos k4]
  exact h.ask (t:=.one ⟨2,r.call.slot,r.call.gen,r.call.field,r.call.old,r.call.new⟩) (show (1:Int)≠0 by decide) rfl trivial
 rw [if_neg k4,if_neg k4]
 by_cases k5:r.call.kind=5
 ·rw [if_pos k5,if_pos k5]
  exact h.ask (t:=.one ⟨3,r.call.slot,r.call.gen,r.call.field,r.call.old,r.call.new⟩) (show (1:Int)≠0 by decide) rfl trivial
 rw [if_neg k5,if_neg k5]
 by_cases k6:r.call.kind=6
 ·rw [if_pos k6,if_pos k6]
  exact h.ask (t:=.gV r.call) (show (5:Int)≠0 by decide) rfl rfl
 rw [if_neg k6,if_neg k6]
 by_cases k7:r.call.kind=7
 ·rw [if_pos k7,if_pos k7]
  have e:(r.bP∧r.holds r.call.i.toNat≠r.holds r.call.j.toNat)↔(l.bP∧l.h r.call.i.toNat≠l.h r.call.j.toNat):=by rw [h.bP,h.holds]
  by_cases g:l.bP∧l.h r.call.i.toNat≠l.h r.call.j.toNat
  ·rw [if_pos g,if_pos (e.2 g)]
   have h':=h.hold r.call.i (l.h r.call.j.toNat)
   have e2:r.post 2 r.call.i (r.holds r.call.j.toNat)=(r.hold r.call.i (l.h r.call.j.toNat)).ask 2 ⟨2,0,0,25+l.me * 9+r.call.i,Wd.zero,l.h r.call.j.toNat⟩:=by
    unfold RS.post
    rw [h.holds,h.me]
   rw [e2]
   exact h'.ask (t:=.fin (Ac.store 0 0 (25+l.me * 9+r.call.i) (l.h r.call.j.toNat))) (show (2:Int)≠0 by decide) rfl trivial
  ·rw [if_neg g,if_neg (fun x=>g (e.1 x))]
   exact h.done
 rw [if_neg k7,if_neg k7]
 by_cases k8:r.call.kind=8
 ·rw [if_pos k8,if_pos k8]
  by_cases g:l.bN
  ·rw [if_pos g,if_pos (h.bN.2 g)]
   exact h.ask (t:=.xB) (show (8:Int)≠0 by decide) rfl trivial
  ·rw [if_neg g,if_neg (fun x=>g (h.bN.1 x))]
   exact h.ask (t:=.one ⟨4,0,0,0,Wd.zero,Wd.zero⟩) (show (1:Int)≠0 by decide) rfl trivial
 rw [if_neg k8,if_neg k8]
 by_cases k9:r.call.kind=9
 ·rw [if_pos k9,if_pos k9]
  exact h.ask (t:=.fin ⟨5,0,0,0,r.call.old,Wd.zero⟩) (show (2:Int)≠0 by decide) rfl trivial
 rw [if_neg k9,if_neg k9]
 by_cases k10:r.call.kind=10
 ·rw [if_pos k10,if_pos k10]
  exact h.fU ho hs hw
 rw [if_neg k10,if_neg k10,if_pos (by have:=hc.1;have:=hc.2.1;omega)]
 exact h.scan ho hs
theorem ik.begin {x:Rp} (h:ik l (.idle x) r) (ho:l.OK) {c:Ca} (hc:c.OK):ik (RT.begin l c).1 (RT.begin l c).2 (r.begin c).1∧(r.begin c).2=true:=by
 have hs:r.step=0:=h.step
 unfold RS.begin
 obtain ⟨c1,c2,c3,c4,c5,c6⟩:=hc
 rw [if_neg (by omega),if_neg (by omega),if_neg (by omega)]
 exact ⟨bX.opened (r:={r with call:=c,step:=0,acc:=Ac.zero,word:=Wd.zero,clock:=Wd.zero,index:=0,seen:=[],bL:=[]}) ⟨h.av,h.me,h.threads,h.most,h.holds,h.span,h.notes,h.freed⟩ ho rfl rfl ⟨c1,c2,c3,c4,c5,c6⟩,rfl⟩
theorem bX.ed (h:bX l r) (s:Sp) {t:RT} (ht:t=.fin (RT.kF l s)∨∃c,t=.iN c (RT.kF l s)∧r.call=c):ik {l with s:=s} t (r.ed t.ig s):=by
 have h':bX {l with s:=s} {r with span:=s}:=⟨h.av,h.me,h.threads,h.most,h.holds,rfl,h.notes,h.freed⟩
 have e:(⟨2,0,0,79+r.me,Wd.zero,RS.qY s⟩:Ac)=RT.kF l s:=by rw [h.me];rfl
 unfold RS.ed
 rw [e]
 rcases ht with rfl | ⟨c,rfl,hc⟩
 ·exact h'.ask (t:=.fin (RT.kF l s)) (show (2:Int)≠0 by decide) rfl trivial
 ·exact h'.ask (t:=.iN c (RT.kF l s)) (show (7:Int)≠0 by decide) rfl hc
theorem bX.eD (h:bX l r):ik (RT.eD l r.bL).1 (RT.eD l r.bL).2 r.eD:=by
 unfold RS.eD RT.eD
 cases hd:r.bL with
 | nil=>exact h.done
 | cons d q=>exact h.ask (t:=.lh d q) (show (16:Int)≠0 by decide) rfl hd
theorem bX.gK (h:bX l r) (ho:l.OK) (h1:l.av≠1) {clock:Wd} {seen:List Wd} (hc:l.av=4→r.clock=clock) (hs:r.seen=seen∨l.av=4):ik (RT.gK l clock seen).1 (RT.gK l clock seen).2 r.gK:=by
 have ho1:=ho.av
 unfold RS.gK RT.gK
 rw [if_pos (by rw [h.av];omega)]
 have e:(r.notes.filter fun n=>!r.kept n)=l.notes.filter fun n=>!RT.kept l clock seen n:=by
  rw [h.notes]
  congr 1
  funext n
  congr 1
  unfold RS.kept RT.kept
  rw [h.av]
  split
  ·rename_i e;rcases hs with hs | hs
   ·rw [hs]
   ·omega
  split
  ·rcases hs with hs | hs
   ·rw [hs]
   ·omega
  split
  ·rcases hs with hs | hs
   ·rw [hs]
   ·omega
  rw [if_pos (by omega),hc (by omega)]
 have:=bX.eD (l:=l) (r:={r with bL:=r.notes.filter fun n=>!r.kept n}) ⟨h.av,h.me,h.threads,h.most,h.holds,h.span,h.notes,h.freed⟩
 rw [e] at this
 rw [e]
 exact this
def RT.fits (l:Lo):RT→Prop
 | .jy _ _=>l.bN
 | .qM | .qN _ | .iZ=>l.av=4
 | .iL _ _=>l.av≠1
 | .gV c | .iN c _=>0≤c.i∧c.i<9
 | _=>True
theorem ik.bM {t:RT} (h:ik l t r) (ho:l.OK) (hf:t.fits l) (h0:t.ig≠0) (x:Rp):ik (RT.bM l t x).1 (RT.bM l t x).2 (r.bM x).1∧(r.bM x).2=true:=by
 have hk:=h.keeps
 have hs:=h.step
 have hm:=h.more
 unfold RS.bM
 cases t with
 | idle y=>exact absurd rfl h0
 | one a =>
  replace hs:r.step=1:=hs
  rw [if_neg (by omega),if_pos hs]
  exact ⟨hk.fin x,rfl⟩
 | fin a =>
  replace hs:r.step=2:=hs
  rw [if_neg (by omega),if_neg (by omega),if_pos hs]
  exact ⟨hk.done,rfl⟩
 | qL =>
  replace hs:r.step=3:=hs
  rw [if_neg (by omega),if_neg (by omega),if_neg (by omega),if_pos hs]
  exact ⟨hk.ed _ (t:=.fin _) (.inl rfl),rfl⟩
 | jo i =>
  replace hs:r.step=4:=hs
  replace hm:r.index=i:=hm
  rw [if_neg (by omega),if_neg (by omega),if_neg (by omega),if_neg (by omega),if_pos hs,hm]
  exact ⟨hk.leave _,rfl⟩
 | xB =>
  replace hs:r.step=8:=hs
  rw [if_neg (by omega),if_neg (by omega),if_neg (by omega),if_neg (by omega),if_neg (by omega),if_pos hs]
  exact ⟨hk.ask (t:=.one _) (show (1:Int)≠0 by decide) rfl trivial,rfl⟩
 | iN c a =>
  replace hs:r.step=7:=hs
  replace hm:r.call=c:=hm
  subst hm
  rw [if_neg (by omega),if_neg (by omega),if_neg (by omega),if_neg (by omega),if_neg (by omega),if_neg (by omega),if_pos (by omega)]
  refine ⟨?_,rfl⟩
  unfold RS.bD
  simp only
  rw [if_pos hs]
  exact hk.ask (t:=.gV r.call) (show (5:Int)≠0 by decide) rfl rfl
 | gV c =>
  replace hs:r.step=5:=hs
  replace hm:r.call=c:=hm
  subst hm
  rw [if_neg (by omega),if_neg (by omega),if_neg (by omega),if_neg (by omega),if_neg (by omega),if_neg (by omega),if_pos (by omega)]
  refine ⟨?_,rfl⟩
  have hk':bX l {r with word:=x.word}:=⟨h.av,h.me,h.threads,h.most,h.holds,h.span,h.notes,h.freed⟩
  unfold RS.bD
  simp only
  rw [if_neg (by omega),if_pos hs]
  show ik (if l.bN then _ else _:LR).1 (if l.bN then _ else _:LR).2 _
  by_cases hd:l.bN
  ·rw [if_pos (h.bN.2 hd),if_pos hd]
   exact hk'.ask (t:=.jy r.call x.word) (show (6:Int)≠0 by decide) rfl ⟨rfl,rfl⟩
  rw [if_neg (fun y=>hd (h.bN.1 y)),if_neg hd]
  have e:(r.av=2∧x.word.slot≠0∧r.holds r.call.i.toNat≠x.word.gF)↔(l.av=2∧x.word.slot≠0∧l.h r.call.i.toNat≠x.word.gF):=by rw [h.av,h.holds]
  by_cases g:l.av=2∧x.word.slot≠0∧l.h r.call.i.toNat≠x.word.gF
  ·rw [if_pos (e.2 g),if_pos g]
   have e2:({r with word:=x.word}:RS).post 7 r.call.i x.word.gF=(({r with word:=x.word}:RS).hold r.call.i x.word.gF).ask 7 (Ac.store 0 0 (25+l.me * 9+r.call.i) x.word.gF):=by
    unfold RS.post
    rw [show ({r with word:=x.word}:RS).me=l.me from h.me]
    rfl
   rw [e2]
   exact (hk'.hold r.call.i x.word.gF).ask (t:=.iN r.call (Ac.store 0 0 (25+l.me * 9+r.call.i) x.word.gF)) (show (7:Int)≠0 by decide) rfl rfl
  ·rw [if_neg (fun y=>g (e.1 y)),if_neg g]
   exact hk'.fin _
 | jy c w =>
  replace hs:r.step=6:=hs
  obtain ⟨hm,hw⟩:r.call=c∧r.word=w:=hm
  subst hm hw
  rw [if_neg (by omega),if_neg (by omega),if_neg (by omega),if_neg (by omega),if_neg (by omega),if_neg (by omega),if_pos (by omega)]
  refine ⟨?_,rfl⟩
  unfold RS.bD
  simp only
  rw [if_neg (by omega),if_neg (by omega),if_pos hs]
  show ik (if RT.dK l r.call.i x.word.num then _ else _:LR).1 (if RT.dK l r.call.i x.word.num then _ else _:LR).2 _
  have e:r.dK r.call.i x.word.num↔RT.dK l r.call.i x.word.num:=by unfold RS.dK RT.dK;rw [h.av,h.holds,h.span]
  by_cases g:RT.dK l r.call.i x.word.num
  ·rw [if_pos (e.2 g),if_pos g]
   exact hk.fin _
  rw [if_neg (fun y=>g (e.1 y)),if_neg g,h.av]
  by_cases g3:l.av=3
  ·rw [if_pos g3,if_pos g3]
   have e2:r.post 7 r.call.i (Wd.fC x.word.num)=(r.hold r.call.i (Wd.fC x.word.num)).ask 7 (Ac.store 0 0 (25+l.me * 9+r.call.i) (Wd.fC x.word.num)):=by
    unfold RS.post
    rw [h.me]
    rfl
   rw [e2]
   exact (hk.hold r.call.i _).ask (t:=.iN r.call (Ac.store 0 0 (25+l.me * 9+r.call.i) (Wd.fC x.word.num))) (show (7:Int)≠0 by decide) rfl rfl
  ·rw [if_neg g3,if_neg g3,h.span]
   exact hk.ed _ (t:=.iN r.call _) (.inr ⟨_,rfl,rfl⟩)
 | nC old =>
  replace hs:r.step=9:=hs
  obtain ⟨h1,h2⟩:r.call.old=old∧r.seen=[]:=hm
  rw [if_neg (by omega),if_neg (by omega),if_neg (by omega),if_neg (by omega),if_neg (by omega),if_neg (by omega),if_neg (by omega),if_pos (by omega)]
  refine ⟨?_,rfl⟩
  unfold RS.dY
  rw [if_pos hs]
  have hk':bX l {r with word:=x.word}:=⟨h.av,h.me,h.threads,h.most,h.holds,h.span,h.notes,h.freed⟩
  exact hk'.ask (t:=.ng old x.word.num) (show (10:Int)≠0 by decide) rfl ⟨h1,rfl,h2⟩
 | ng old b =>
  replace hs:r.step=10:=hs
  obtain ⟨h1,h2,h3⟩:r.call.old=old∧r.word.num=b∧r.seen=[]:=hm
  rw [if_neg (by omega),if_neg (by omega),if_neg (by omega),if_neg (by omega),if_neg (by omega),if_neg (by omega),if_neg (by omega),if_pos (by omega)]
  refine ⟨?_,rfl⟩
  unfold RS.dY
  simp only
  rw [if_neg (by omega),if_pos hs,h2]
  show ik (if l.bN then _ else _:LR).1 (if l.bN then _ else _:LR).2 _
  have hk':bX l {r with clock:=x.word}:=⟨h.av,h.me,h.threads,h.most,h.holds,h.span,h.notes,h.freed⟩
  have hk2:=hk'.note b x.word.num
  rw [show ({r with clock:=x.word}:RS).call.old=old from h1] at hk2
  by_cases hd:l.bN
  ·rw [if_pos (h.bN.2 hd),if_pos hd]
   exact hk2.ask (t:=.nO x.word) (show (11:Int)≠0 by decide) rfl h3
  ·rw [if_neg (fun y=>hd (h.bN.1 y)),if_neg hd]
   exact hk2.dO (ho.note _ _ _) h3
 | nO clock =>
  replace hs:r.step=11:=hs
  replace hm:r.seen=[]:=hm
  rw [if_neg (by omega),if_neg (by omega),if_neg (by omega),if_neg (by omega),if_neg (by omega),if_neg (by omega),if_neg (by omega),if_pos (by omega)]
  refine ⟨?_,rfl⟩
  unfold RS.dY
  rw [if_neg (by omega),if_neg (by omega),if_pos hs]
  exact hk.dO ho hm
 | qM =>
  replace hs:r.step=12:=hs
  replace hm:r.seen=[]:=hm
  rw [if_neg (by omega),if_neg (by omega),if_neg (by omega),if_neg (by omega),if_neg (by omega),if_neg (by omega),if_neg (by omega),if_neg (by omega)]
  refine ⟨?_,rfl⟩
  unfold RS.bQ
  rw [if_pos hs]
  have hk':bX l {r with clock:=x.word}:=⟨h.av,h.me,h.threads,h.most,h.holds,h.span,h.notes,h.freed⟩
  exact hk'.VJ ho (fun _=>rfl) hm
 | iL clock seen =>
  replace hs:r.step=13:=hs
  obtain ⟨h1,h2,h3⟩:(l.av=4→r.clock=clock)∧r.seen=seen∧r.index=seen.length:=hm
  subst h2
  replace hf:l.av≠1:=hf
  rw [if_neg (by omega),if_neg (by omega),if_neg (by omega),if_neg (by omega),if_neg (by omega),if_neg (by omega),if_neg (by omega),if_neg (by omega)]
  refine ⟨?_,rfl⟩
  unfold RS.bQ
  simp only
  rw [if_neg (by omega),if_pos hs]
  show ik (if (r.seen.length:Int)+1<l.all then _ else _:LR).1 (if (r.seen.length:Int)+1<l.all then _ else _:LR).2 _
  have hk':bX l {r with seen:=r.seen ++ [x.word]}:=⟨h.av,h.me,h.threads,h.most,h.holds,h.span,h.notes,h.freed⟩
  have hl:=hk'.look (r.index+1) (clock:=clock) (seen:=r.seen ++ [x.word]) (by rw [h3];simp) h1 rfl
  by_cases g:(r.seen.length:Int)+1<l.all
  ·rw [if_pos (by omega)] at hl
   obtain ⟨q,e1,e2⟩:=hl
   rw [e1,if_pos g]
   exact e2
  ·rw [if_neg (by omega)] at hl
   rw [hl,if_neg g]
   simp only
   by_cases g4:l.av=4
   ·have g4':r.av=4:=h.av.trans g4
    obtain rfl:=h1 g4
    rw [if_neg (show ¬l.av≠4 from fun y=>y g4),if_neg (show ¬r.av≠4 from fun y=>y g4')]
    by_cases gm:RS.may r.clock.num ((r.seen ++ [x.word]).map RS.j4)=true
    ·rw [if_pos gm,if_pos gm]
     exact hk'.ask (t:=.qN r.clock) (show (14:Int)≠0 by decide) rfl trivial
    ·rw [if_neg gm,if_neg gm]
     exact hk'.ask (t:=.iZ) (show (15:Int)≠0 by decide) rfl trivial
   ·rw [if_pos (show l.av≠4 from g4),if_pos (show r.av≠4 from fun y=>g4 (h.av.symm.trans y))]
    exact hk'.gK ho hf h1 (.inl rfl)
 | qN clock =>
  replace hs:r.step=14:=hs
  rw [if_neg (by omega),if_neg (by omega),if_neg (by omega),if_neg (by omega),if_neg (by omega),if_neg (by omega),if_neg (by omega),if_neg (by omega)]
  refine ⟨?_,rfl⟩
  unfold RS.bQ
  rw [if_neg (by omega),if_neg (by omega),if_pos hs]
  exact hk.ask (t:=.iZ) (show (15:Int)≠0 by decide) rfl trivial
 | iZ =>
  replace hs:r.step=15:=hs
  replace hf:l.av=4:=hf
  rw [if_neg (by omega),if_neg (by omega),if_neg (by omega),if_neg (by omega),if_neg (by omega),if_neg (by omega),if_neg (by omega),if_neg (by omega)]
  refine ⟨?_,rfl⟩
  unfold RS.bQ
  rw [if_neg (by omega),if_neg (by omega),if_neg (by omega),if_pos hs]
  have hk':bX l {r with clock:=x.word}:=⟨h.av,h.me,h.threads,h.most,h.holds,h.span,h.notes,h.freed⟩
  exact hk'.gK ho (by omega) (fun _=>rfl) (.inr hf)
 | lh d rest =>
  replace hs:r.step=16:=hs
  replace hm:r.bL=d :: rest:=hm
  rw [if_neg (by omega),if_neg (by omega),if_neg (by omega),if_neg (by omega),if_neg (by omega),if_neg (by omega),if_neg (by omega),if_neg (by omega)]
  refine ⟨?_,rfl⟩
  unfold RS.bQ
  simp only
  rw [if_neg (by omega),if_neg (by omega),if_neg (by omega),if_neg (by omega),if_pos hs,hm]
  have hk':bX {l with notes:=l.notes.erase d,freed:=l.freed+1} {r with notes:=r.notes.erase d,freed:=r.freed+1,bL:=rest}:=⟨h.av,h.me,h.threads,h.most,h.holds,h.span,by simp only [h.notes],by simp only [h.freed]⟩
  exact hk'.eD
end
end Go.Proofs.YthomdlajobnmnaaGreatDoor
namespace Go.Proofs.YthomdlajobnmnaaGreatDoor
open Go.Rex
def IA:mY:=[(lK,AJ,CG)]
theorem Ub:∀k pre post,(k,pre,post)∈IA→jM k=true∧aV Tryz.prog k pre post:=by
 intro k pre post h
 simp only [IA,List.mem_cons,List.not_mem_nil,or_false,Prod.mk.injEq] at h
 obtain ⟨rfl,rfl,rfl⟩:=h
 exact ⟨by kernel_rfl,Ua⟩
def knB:Kn:=[(.aB (.var 22) (.lit 0),true),(.bS (.var 71) (.lit 1),false),(.bS (.lit 11) (.var 71),false),(.bS (.var 85) (.lit 0),false),(.aA (.lit 9) (.var 85),false),(.bS (.var 86) (.lit 0),false),(.aA (.lit 9) (.var 86),false)]
noncomputable def QO:Ex:={sched:=sched,loops:=[],cons:=[lK],fin:=kV}
def CJ:Out :=
 .br (.or (.aB (.var 71) (.lit 6)) (.aB (.var 71) (.lit 7)))
 (.call 0 {lo:=0,az:=0,iv:=yr 65 65 7<|yo [(57,yv 57),(56,yv 56)]<|yr 3 3 4<|yo [(53,.lit 0),(52,.lit 0),(50,.lit 0),(49,.lit 0),(47,.lit 0),(45,.lit 0),(44,.lit 0),(43,.lit 0),(42,.lit 0),(40,.lit 0),(39,.lit 0),(38,.lit 0),(37,.lit 0),(35,.lit 0),(34,.lit 0),(33,.lit 0),(32,.lit 0),(30,.lit 0),(29,.lit 0),(28,.lit 0),(27,.lit 0),(26,.lit 0),(25,.lit 0),(24,.lit 0),(23,.lit 0),(22,.lit 0)]<|yr 21 88 4<|yr 16 83 4<|yr 11 78 8 [],bv:=[(67,yw 67),(66,yw 66),(58,yw 58),(55,yw 55),(51,.lit true),(48,.lit true),(46,.lit false),(41,.lit false),(36,.lit false),(31,.lit false),(17,yw 84),(12,yw 79)],ct:=[(70,yu 70 59 7 yN 0),(54,yl 54 9 5 50 yW 0)],bk:=[(3,yc 3 7),(0,yb 0)],nb:=[2,1,2,1]} 89 <|
  .fin {lo:=89,az:=4,iv:=yo [(155,yv 155)]<|yr 150 150 7<|yo [(142,yv 142),(141,yv 141),(138,yv 138),(137,yv 137),(154,yv 154),(135,yv 135),(134,yv 134),(132,yv 132)]<|yr 130 130 4<|yr 125 125 4<|yr 120 120 4<|yr 115 115 13<|yr 101 101 4<|yr 96 96 8 [],bv:=[(152,yw 152),(151,yw 151),(143,yw 143),(140,yw 140),(136,yw 136),(133,yw 133),(131,yw 131),(126,yw 126),(121,yw 121),(116,yw 116),(102,yw 102),(97,yw 97)],ct:=[(155,yu 155 144 7 yN 0),(154,yu 154 155 7 yN 0),(153,yu 153 134 5 yW 0),(139,yl 139 9 5 50 yW 0)],bk:=[(6,yc 7 7),(5,yc 6 7),(4,yc 5 5)]})
 (.call 0 {lo:=0,az:=0,iv:=yr 65 65 7<|yo [(57,yv 57),(56,yv 56)]<|yr 3 3 4<|yo [(53,.lit 0),(52,.lit 0),(50,.lit 0),(49,.lit 0),(47,.lit 0),(45,.lit 0),(44,.lit 0),(43,.lit 0),(42,.lit 0),(40,.lit 0),(39,.lit 0),(38,.lit 0),(37,.lit 0),(35,.lit 0),(34,.lit 0),(33,.lit 0),(32,.lit 0),(30,.lit 0),(29,.lit 0),(28,.lit 0),(27,.lit 0),(26,.lit 0),(25,.lit 0),(24,.lit 0),(23,.lit 0),(22,.lit 0)]<|yr 21 88 4<|yr 16 83 4<|yr 11 78 8 [],bv:=[(67,yw 67),(66,yw 66),(58,yw 58),(55,yw 55),(51,.lit true),(48,.lit true),(46,.lit false),(41,.lit false),(36,.lit false),(31,.lit false),(17,yw 84),(12,yw 79)],ct:=[(70,yu 70 59 7 yN 0),(54,yl 54 9 5 50 yW 0)],bk:=[(3,yc 3 7),(0,yb 0)],nb:=[2,1,2,1]} 89 <|
  .fin {lo:=89,az:=4,iv:=yo [(155,yv 155)]<|yr 150 150 7<|yo [(142,yv 142),(141,yv 141),(138,yv 138),(137,yv 137),(154,yv 154),(135,yv 135),(134,yv 134),(132,yv 132)]<|yr 130 130 4<|yr 125 125 4<|yr 120 120 4<|yr 115 115 13<|yr 101 101 4<|yr 96 96 8 [],bv:=[(152,yw 152),(151,yw 151),(143,yw 143),(140,yw 140),(136,yw 136),(133,yw 133),(131,yw 131),(126,yw 126),(121,yw 121),(116,yw 116),(102,yw 102),(97,yw 97)],ct:=[(155,yu 155 144 7 yN 0),(154,yu 154 155 7 yN 0),(153,yu 153 134 5 yW 0),(139,yl 139 9 5 50 yW 0)],bk:=[(6,yc 7 7),(5,yc 6 7),(4,yc 5 5)]})
theorem QP:exec tab QO 8000 [] (dZ kV.f kV.nv knB kV.gl kV.hp kV.args)=CJ:=by kernel_rfl
def xC (ρ:Env):Prop:=(bK ρ 4∧vL ρ∧Kq ρ 4)∧ρ.iv 22=0∧(iW ρ 71).OK
def Hr (ρ:Env):Prop:=bK ρ 89∧aa ρ 0 89=((aa ρ 0 4).begin (iW ρ 71)).1
theorem Uc {r:RS} {c:Ca} (h:r.step=0) (hc:c.OK):(r.begin c).1=({r with call:=c,step:=0,acc:=Ac.zero,word:=Wd.zero,clock:=Wd.zero,index:=0,seen:=[],bL:=[]}:RS).opened∧(r.begin c).2=true:=by
 obtain ⟨c1,c2,c3,c4,c5,c6⟩:=hc
 unfold RS.begin
 rw [if_neg (by omega),if_neg (by omega),if_neg (by omega)]
 exact ⟨rfl,rfl⟩
theorem QQ (ρ:Env) (hpre:xC ρ.num):Sat Hr IA [] ρ CJ:=by
 replace hpre:xC ρ:=hpre
 obtain ⟨⟨⟨o1,o2,o3⟩,hs,hf⟩,h0,hc⟩:=hpre
 have hm:((aa ρ 0 4).begin (iW ρ 71)).1=({aa ρ 0 4 with call:=iW ρ 71,step:=0,acc:=Ac.zero,word:=Wd.zero,clock:=Wd.zero,index:=0,seen:=[],bL:=[]}:RS).opened:=(Uc h0 hc).1
 obtain ⟨-,-,c3,c4,c5,c6⟩:=hc
 unfold CJ
 refine Sat.br (fun _=>?_) (fun _=>?_)
 all_goals
  refine eB (c:=lK) rfl ({aa ρ 0 4 with call:=iW ρ 71,step:=0,acc:=Ac.zero,word:=Wd.zero,clock:=Wd.zero,index:=0,seen:=[],bL:=[]}:RS) ({aa ρ 0 4 with call:=iW ρ 71,step:=0,acc:=Ac.zero,word:=Wd.zero,clock:=Wd.zero,index:=0,seen:=[],bL:=[]}:RS).opened (by decide) (by decide) (jq rfl rfl rfl rfl) ⟨⟨by exact aj rfl rfl,by exact ⟨aj rfl rfl,Int.le_refl 0,.inl rfl⟩,o3⟩,hs,hf,⟨c3,c4⟩,c5,c6⟩ (RS.ext' rfl rfl rfl rfl rfl rfl bA bF rfl rfl rfl rfl bE rfl bB rfl rfl) (fun e hq hr=>⟨hq.1,by rw [←hr];exact hq.2⟩) (fun u=>(bK u 89)∧aa u 0 89=((aa u 0 4).begin (iW u 71)).1) (fun e h1 h2=>⟨h1,h2.trans hm.symm⟩) fun u hu=>?_
  obtain ⟨⟨o1,o2,o3⟩,hm⟩:=hu
  exact Sat.fin ⟨⟨(by first | exact o1 | exact o2 | exact o3 | exact aj rfl rfl | assumption),(by first | exact o2 | exact ⟨aj rfl rfl,Int.le_refl 0,.inl rfl⟩ | assumption),(by first | exact o1 | exact o2 | exact o3 | exact aj rfl rfl | assumption)⟩,Eq.trans (b:=(aa u 0 89)) (RS.ext' rfl rfl rfl rfl rfl rfl bA bF rfl rfl rfl rfl bE rfl bB rfl rfl) (Eq.symm (hm.symm))⟩
theorem QR:aV Tryz.prog kV xC Hr :=
 cK dF (E:=QO) (cs:=IA) rfl Ub bO rfl QP (by kernel_rfl) (fun ρ h p hp=>by
   obtain ⟨-,h0,c1,c2,c3,c4,c5,c6⟩:=h
   replace h0:ρ.iv 22=0:=h0
   replace c1:1≤ρ.iv 71:=c1
   replace c2:ρ.iv 71≤11:=c2
   replace c3:0≤ρ.iv 85:=c3
   replace c4:ρ.iv 85<9:=c4
   replace c5:0≤ρ.iv 86:=c5
   replace c6:ρ.iv 86<9:=c6
   simp only [knB,List.mem_cons,List.not_mem_nil,or_false] at hp
   rcases hp with rfl | rfl | rfl | rfl | rfl | rfl | rfl
   · exact beq_iff_eq.2 h0
   · exact decide_eq_false (by show ¬ρ.iv 71<1;omega)
   · exact decide_eq_false (by show ¬11<ρ.iv 71;omega)
   · exact decide_eq_false (by show ¬ρ.iv 85<0;omega)
   · exact decide_eq_false (by show ¬9≤ρ.iv 85;omega)
   · exact decide_eq_false (by show ¬ρ.iv 86<0;omega)
   · exact decide_eq_false (by show ¬9≤ρ.iv 86;omega)) QQ
theorem xD {P:Program} {k:dJ} {pre post post':Env→Prop} (h:aV P k pre post) (hp:∀ρ,post ρ→post' ρ):aV P k pre post' :=
 ⟨h.fn,fun ρ ν w h1 h2 h3=>(h.run ρ ν w h1 h2 h3).mono fun e w' he=>by
   obtain ⟨ρ',aI,a,b,c,d,f,g⟩:=he
   exact ⟨ρ',aI,a,b,c,d,f,hp _ g⟩⟩
def Nt.sv (n:Nt):Sv.uI:=⟨n.ref.slot,n.ref.gen,n.ref.tag,n.ref.num,n.ref.mark,n.ko,n.lg⟩
theorem Nt.YT {a b:Nt} (h:a.sv=b.sv):a=b:=by
 obtain ⟨⟨a1,a2,a3,a4,a5⟩,a6,a7⟩:=a
 obtain ⟨⟨b1,b2,b3,b4,b5⟩,b6,b7⟩:=b
 simp only [Nt.sv,Sv.uI.mk.injEq] at h
 obtain ⟨rfl,rfl,rfl,rfl,rfl,rfl,rfl⟩:=h
 rfl
theorem mi (ρ:Env) (b:Nat):Sv.notes ρ b=(aT ρ (b+3) (ρ.iv (b+1))).map Nt.sv:=by
 unfold Sv.notes aT
 rw [List.map_map]
 rfl
theorem uj {l m:List Nt} {p:Sv.uI→Bool} {q:Nt→Bool} (hq:∀n,p n.sv=q n) (h:m.map Nt.sv=(l.map Nt.sv).filter p):m=l.filter q:=by
 rw [List.filter_map] at h
 have e:p ∘ Nt.sv=q:=funext hq
 rw [e] at h
 have:∀{x y:List Nt},x.map Nt.sv=y.map Nt.sv→x=y:=by
  intro x
  induction x with
  | nil=>intro y h;cases y with | nil=>rfl | cons=>cases h
  | cons a x ih =>
   intro y h
   cases y with
   | nil=>cases h
   | cons b y =>
    simp only [List.map_cons,List.cons.injEq] at h
    rw [Nt.YT h.1,ih h.2]
 exact this h
def oV (ρ:Env) (r:Nat) (n:Int):List Int:=(List.range n.toNat).map fun i=>ρ.ic r i 0 0
def kG (ρ:Env) (r:Nat) (i:Nat):Sp:=⟨ρ.bc r i 0 0,ρ.ic r i 0 1,ρ.ic r i 0 2⟩
def gW (ρ:Env) (r:Nat) (n:Int):List Sp:=(List.range n.toNat).map (kG ρ r)
def Kr (ρ:Env):Prop:=bG ρ 8∧aT ρ 11 (ρ.iv 9)=(aT ρ 3 (ρ.iv 1)).filter fun n=>!((dL ρ 7 (ρ.iv 5)).any fun w=>RS.xh w n)
def Oy (ρ:Env):Prop:=bG ρ 8∧aT ρ 11 (ρ.iv 9)=(aT ρ 3 (ρ.iv 1)).filter fun n=>!((oV ρ 7 (ρ.iv 5)).any fun e=>RS.vH e n)
def Kt (ρ:Env):Prop:=bG ρ 8∧aT ρ 11 (ρ.iv 9)=(aT ρ 3 (ρ.iv 1)).filter fun n=>!((gW ρ 7 (ρ.iv 5)).any fun s=>RS.sI s n)
def F5 (ρ:Env):Prop:=bG ρ 8∧aT ρ 11 (ρ.iv 9)=(aT ρ 3 (ρ.iv 1)).filter fun n=>!(RS.qy (ρ.iv 4) n)
theorem Oz:aV Tryz.prog kY Sv.mg Kr:=xD Sv.Qw fun ρ h=>by
 obtain ⟨h1,h2,-⟩:=h
 refine ⟨h1,uj (fun n=>?_) ((mi ρ 8).symm.trans (h2.trans (congrArg _ (mi ρ 0))))⟩
 congr 1
 show (((List.range (ρ.iv 5).toNat).map fun j=>ρ.ic 7 j 0 0).any fun s=>decide (s=n.ref.slot))=_
 unfold dL
 rw [List.any_map,List.any_map]
 rfl
theorem QS:aV Tryz.prog mV Sv.og Oy:=xD Sv.TB fun ρ h=>by
 obtain ⟨h1,h2,-⟩:=h
 refine ⟨h1,uj (fun n=>?_) ((mi ρ 8).symm.trans (h2.trans (congrArg _ (mi ρ 0))))⟩
 congr 1
 show (((List.range (ρ.iv 5).toNat).map fun j=>ρ.ic 7 j 0 0).any fun e=>decide ((0<e∧n.ko≤e)∧e≤n.lg))=_
 unfold oV
 rw [List.any_map,List.any_map]
 congr 1
 funext j
 simp only [Function.comp,RS.vH]
 exact decide_eq_decide.2 and_assoc
theorem OA:aV Tryz.prog kZ Sv.mh Kt:=xD Sv.QA fun ρ h=>by
 obtain ⟨h1,h2,-⟩:=h
 refine ⟨h1,uj (fun n=>?_) ((mi ρ 8).symm.trans (h2.trans (congrArg _ (mi ρ 0))))⟩
 congr 1
 show (((List.range (ρ.iv 5).toNat).map fun j=>(ρ.bc 7 j 0 0,ρ.ic 7 j 0 1,ρ.ic 7 j 0 2)).any fun s=>decide ((s.1=true∧s.2.1≤n.lg)∧n.ko≤s.2.2))=_
 unfold gW
 rw [List.any_map,List.any_map]
 congr 1
 funext j
 simp only [Function.comp,RS.sI,kG]
 rw [Bool.eq_iff_iff]
 simp [and_assoc]
theorem LC:aV Tryz.prog jN Sv.kP F5:=xD Sv.Oq fun ρ h=>by
 obtain ⟨h1,h2,-⟩:=h
 refine ⟨h1,uj (fun n=>?_) ((mi ρ 8).symm.trans (h2.trans (congrArg _ (mi ρ 0))))⟩
 refine congrArg (fun b=>!b) ?_
 show decide (ρ.iv 4 < -9223372036854775806∨ρ.iv 4-2<n.lg)=RS.qy (ρ.iv 4) n
 unfold RS.qy
 exact decide_eq_decide.2 (by omega)
noncomputable def YU:Ex:={sched:=sched,loops:=[abx],fin:=l9}
def Ku:Out :=
 .ob (.or (.not (.var 1)) (.aB (.var 2) (.lit 0))) <|
 .ob (.aA (.lit 0) (.var 2)) <|
 .loop 5 {lo:=5,az:=1,iv:=[(5,.lit 0)]} <|
 .br (.bS (.var 5) (.var 2))
 (.ob (.not (.var 1)) <|
  .ob (.aA (.lit 0) (.var 5)) <|
  .br (.and (.cell 4 (.var 5) (.lit 0) 0) (.not (.aB (.cell 4 (.var 5) (.lit 0) 1) (.var 0))))
  (.fin {lo:=5,az:=1,bv:=[(5,.lit false)]})
  (.ob (.inr .i64 (.add (.var 5) (.lit 1))) <|
   .back 0 {lo:=5,az:=1,iv:=[(5,.add (.var 5) (.lit 1))]}))
 (.fin {lo:=5,az:=1,bv:=[(5,.lit true)]})
theorem Xa:exec tab YU 8000 [] (dZ l9.f l9.nv [] l9.gl l9.hp l9.args)=Ku:=by kernel_rfl
def zN (ρ:Env):Prop:=bG ρ 1∧ρ.iv 2≤1000000
def AP (ρ:Env):Prop:=ρ.bv 5=RS.may (ρ.iv 0) (gW ρ 4 (ρ.iv 2))
def QT (ρ:Env):Prop:=zN ρ∧(0≤ρ.iv 5∧ρ.iv 5≤ρ.iv 2)∧RS.may (ρ.iv 0) (gW ρ 4 (ρ.iv 5))=true
theorem OB {ρ:Env} {r:Nat} {n:Int} (h:0≤n):gW ρ r (n+1)=gW ρ r n ++ [kG ρ r n.toNat]:=by
 unfold gW
 rw [show (n+1).toNat=n.toNat+1 by omega,List.range_succ,List.map_append]
 rfl
theorem Xb (ρ:Env) (hpre:zN ρ.num):Sat AP [] [] ρ Ku:=by
 replace hpre:zN ρ:=hpre
 have hpre':=hpre
 obtain ⟨o1,h2⟩:=hpre
 unfold Ku
 refine Sat.ob (aK o1) (Sat.ob (decide_eq_true o1.2.1) (Sat.xk QT (fun r=>(r.iv 2-r.iv 5).toNat) (fun _=>True) ⟨hpre',⟨Int.le_refl 0,o1.2.1⟩,rfl⟩ (fun _=>trivial) fun q _ hI=>?_))
 replace hI:QT q:=hI
 obtain ⟨⟨o1,h2⟩,⟨i1,i2⟩,hI⟩:=hI
 refine Sat.br (fun c=>?_) (fun c=>?_)
 ·simp only [Da] at c
  refine Sat.ob (bW o1 (by simp only [Nat.reduceAdd];omega)) (Sat.ob (decide_eq_true i1) (Sat.br (fun c2=>?_) (fun c2=>?_)))
  ·simp only [Da] at c2
   refine Sat.fin ?_
   show false=RS.may (q.iv 0) (gW q 4 (q.iv 2))
   refine Eq.symm (List.all_eq_false.2 ⟨kG q 4 (q.iv 5).toNat,List.mem_map.2 ⟨(q.iv 5).toNat,List.mem_range.2 (by omega),rfl⟩,?_⟩)
   show ¬(!(q.bc 4 (q.iv 5).toNat 0 0 && q.ic 4 (q.iv 5).toNat 0 1 != q.iv 0))=true
   simp [c2.1,c2.2]
  ·simp only [Da] at c2
   refine Sat.ob (by simp only [Da];omega) (Sat.back rfl ⟨⟨⟨o1,h2⟩,⟨?_,?_⟩,?_⟩,?_⟩)
   ·show 0≤q.iv 5+1;omega
   ·show q.iv 5+1≤q.iv 2;omega
   ·show RS.may (q.iv 0) (gW q 4 (q.iv 5+1))=true
    rw [OB i1]
    unfold RS.may at hI ⊢
    rw [List.all_append,hI,Bool.true_and,List.all_cons,List.all_nil,Bool.and_true]
    show (!(q.bc 4 (q.iv 5).toNat 0 0 && q.ic 4 (q.iv 5).toNat 0 1 != q.iv 0))=true
    rcases c2 with c2 | c2
    ·simp [c2]
    ·simp [c2]
   ·show (q.iv 2-(q.iv 5+1)).toNat<(q.iv 2-q.iv 5).toNat
    omega
 ·simp only [Da] at c
  refine Sat.fin ?_
  show true=RS.may (q.iv 0) (gW q 4 (q.iv 2))
  rw [show q.iv 2=q.iv 5 by omega]
  exact hI.symm
theorem Xc:aV Tryz.prog l9 zN AP :=
 cK dF (E:=YU) (cs:=[]) rfl (fun k pre post h=>by cases h) bO rfl Xa (by kernel_rfl) (fun ρ _ p hp=>by cases hp) Xb
end Go.Proofs.YthomdlajobnmnaaGreatDoor
